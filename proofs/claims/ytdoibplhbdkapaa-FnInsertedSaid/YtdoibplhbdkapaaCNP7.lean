/- Texts of the seat that a law needs, put together. No condition. -/
import Derived.Test.YtdoibplhbdkapaaCNP2
import Derived.Test.YtdoibplhbdkapaaCNP5
import Derived.Test.YtdoibplhbdkapaaCNP3
namespace Go.Proofs.Ytdoibplhbdkapaa
open Go.RowKit
set_option linter.unusedVariables false
set_option linter.unusedSimpArgs false

structure Mode where
  rounds : Int
  slots : Int
  next : List Int
structure ModeI where
  m : Mode
  A : Option Addr
  c : Nat
def ModeI.cells (x : ModeI) : List Value := [.int .i64 x.m.rounds, .int .i64 x.m.slots, .slice x.A x.m.next.length x.c]
theorem ModeI.len (x : ModeI) : x.cells.length = 3 := rfl

/-- the list of each entry can be read -/
def Nexts (B : Nat) (w : World) (xs : List ModeI) : Prop := B ≤ w.heap.size ∧ ∀ x ∈ xs, Sl B w x.A (x.m.next.flatMap eI) ∧ x.m.next.length ≤ 9223372036854775807
section
variable {B B' : Nat} {w w' : World} {xs ys : List ModeI}
theorem Nexts.at_ {k : Nat} {x : ModeI} (h : Nexts B w xs) (hx : xs[k]? = some x) : Sl B w x.A (x.m.next.flatMap eI) := (h.2 x (List.mem_of_getElem? hx)).1
theorem Nexts.len {k : Nat} {x : ModeI} (h : Nexts B w xs) (hx : xs[k]? = some x) : x.m.next.length ≤ 9223372036854775807 := (h.2 x (List.mem_of_getElem? hx)).2
theorem Nexts.below (h : Nexts B w xs) (hb : Below B w w') : Nexts B w' xs := ⟨Nat.le_trans h.1 hb.size, fun x hx => ⟨(h.2 x hx).1.below hb, (h.2 x hx).2⟩⟩
theorem Nexts.ext (h : Nexts B w xs) (hb : Ext w w') : Nexts B w' xs := h.below (Below.mono hb h.1)
theorem Nexts.grown {row : Option Nat} (h : Nexts B w xs) (hg : w.grownBy w' row) (hr : ∀ g, row = some g → B ≤ g) : Nexts B w' xs := ⟨Nat.le_trans h.1 hg.size, fun x hx => ⟨(h.2 x hx).1.grown hg hr, (h.2 x hx).2⟩⟩
theorem Nexts.nil_ (hB : B ≤ w.heap.size) : Nexts B w [] := ⟨hB, fun x hx => by simp at hx⟩
theorem Nexts.snoc {x : ModeI} (h : Nexts B w xs) (hx : Sl B w x.A (x.m.next.flatMap eI)) (hl : x.m.next.length ≤ 9223372036854775807) : Nexts B w (xs ++ [x]) := ⟨h.1, fun y hy => by
  rcases List.mem_append.1 hy with h1 | h1
  · exact h.2 y h1
  · obtain rfl : y = x := by simpa using h1
    exact ⟨hx, hl⟩⟩
end

/-- the list of each entry is a row of the call's own -/
def NOwn (w : World) (lo : Nat) (t : TypeId) (xs : List ModeI) : Prop := ∀ x ∈ xs, Own w lo t 1 x.A x.m.next.length x.c (x.m.next.flatMap eI) ∧ x.m.next.length ≤ 9223372036854775807
section
variable {w w' : World} {lo lo' n c s g : Nat} {t t' : TypeId} {A : Option Addr} {cs : List Value} {xs : List ModeI}
theorem NOwn.nil_ : NOwn w lo t [] := fun x hx => by simp at hx
theorem NOwn.ext (h : NOwn w lo t xs) (hb : Ext w w') : NOwn w' lo t xs := fun x hx => ⟨(h x hx).1.ext hb, (h x hx).2⟩
theorem NOwn.low (h : NOwn w lo t xs) (hl : lo' ≤ lo) : NOwn w lo' t xs := fun x hx => ⟨(h x hx).1.low hl, (h x hx).2⟩
theorem NOwn.nexts (h : NOwn w lo t xs) : Nexts w.heap.size w xs := ⟨Nat.le_refl _, fun x hx => ⟨(h x hx).1.sl, (h x hx).2⟩⟩
theorem NOwn.snoc {x : ModeI} (h : NOwn w lo t xs) (hx : Own w lo t 1 x.A x.m.next.length x.c (x.m.next.flatMap eI)) (hl : x.m.next.length ≤ 9223372036854775807) : NOwn w lo t (xs ++ [x]) := fun y hy => by
  rcases List.mem_append.1 hy with h1 | h1
  · exact h y h1
  · obtain rfl : y = x := by simpa using h1
    exact ⟨hx, hl⟩
end

end Go.Proofs.Ytdoibplhbdkapaa
namespace Go.Proofs.Ytdoibplhbdkapaa
open Go.RowKit
set_option linter.unusedVariables false
def srcC (A : Option Addr) (c : Nat) (bs : List UInt8) (a : Nat) (sd : Int) : List Value := [.slice A bs.length c, .int .i64 (a : Nat), .int .i64 sd]
theorem u8_in (b : UInt8) : (0 : Int) ≤ (b.toNat : Int) ∧ (b.toNat : Int) ≤ 255 := by have := b.toNat_lt; omega
end Go.Proofs.Ytdoibplhbdkapaa
namespace Go.Proofs.Ytdoibplhbdkapaa
open Go.RowKit
set_option linter.unusedVariables false
set_option linter.unusedSimpArgs false
set_option maxRecDepth 20000
theorem l01From_c (A : Option Addr) (B c : Nat) (bs : List UInt8) (w : World) (hs : Sl B w A (bs.flatMap eB)) (hbl : bs.length ≤ 1048576) :
    Calls Try.prog 61 #[.slice A bs.length c] w (Ret fun v w' => ∃ gS a sd, v = .pointer (some ⟨gS, 0, none⟩) ∧ w.heap.size ≤ gS ∧ (a ≤ bs.length ∧ 0 ≤ sd ∧ sd < 2147483647) ∧ Blk w' gS 112 (srcC A c bs a sd) ∧ Ext w w') := by
  have Bhs := hs.1
  have X := Ext.refl w
  refine calls_of (args := [.slice A bs.length c]) Try.func61 Try.ntmps61 rfl rfl ?_
  refine c_seqR ?_
  refine ops_cons rfl (ow_assign rfl ?_)
  refine ops_nil ?_
  refine c_seqR ?_
  refine ops_cons rfl (ow_move rfl ?_)
  refine ops_cons rfl (ow_buildP pl112 ti112 rfl rfl ?_)
  refine ops_cons rfl (ow_box rfl rfl ?_)
  intro gS w2 egS q x1 zgS
  have lgS : w.heap.size ≤ gS := Nat.le_trans X.size (Nat.le_of_eq egS.symm)
  have pgShs := Nat.le_trans hs.1 (Nat.le_of_eq egS.symm)
  replace hs := hs.ext x1
  replace X := Ext.trans X x1; clear x1
  have q : Blk _ gS 112 (srcC A c bs 0 40009) := q
  refine ops_cons rfl (ow_assign rfl ?_)
  refine ops_nil ?_
  refine c_seq ?_
  refine c_seqR ?_
  refine ops_cons rfl (ow_assign rfl ?_)
  refine ops_nil ?_
  refine c_block ?_
  refine c_loop (G := Nat × Int) (fun ⟨k, s⟩ => [(0, .slice A bs.length c), (3, .pointer (some ⟨gS, 0, none⟩)), (4, .int .i64 (k : Nat))]) (fun ⟨k, s⟩ wr => k ≤ bs.length ∧ (0 ≤ s ∧ s < 2147483647) ∧ Blk wr gS 112 (srcC A c bs 0 s) ∧ Sl B wr A (bs.flatMap eB) ∧ Ext w wr) (fun ⟨k, s⟩ => bs.length - k) (0, 40009) (.cons rfl (.cons rfl (.cons rfl (.nil _)))) ?_ ?_
  · exact ⟨by omega, (by omega), q, hs, X⟩
  clear hs q
  clear X
  rintro ⟨k, s⟩ wr ⟨hk0, hs0, q, hs, X⟩
  refine c_seq ?_
  refine c_seqR ?_
  refine ops_cons rfl (ow_move rfl ?_)
  refine ops_cons rfl (ow_move rfl ?_)
  refine ops_cons rfl (ow_len Try.underlying54 rfl ?_)
  refine ops_cons rfl (ow_lss2 rfl rfl (fun hk => ?_) (fun hk => ?_))
  obtain ⟨x, hx, dx⟩ := drop_at' hk
  have hxb := u8_in x
  refine ops_cons rfl (ow_move rfl ?_)
  refine ops_want rfl rfl rfl (ow_move rfl ?_)
  refine ops_want rfl rfl rfl (ow_lss2 rfl rfl (fun hk2 => ?_) (fun hk2 => ?_))
  refine ops_cons rfl (ow_pick rfl rfl ?_)
  refine ops_nil ?_
  refine c_true rfl ?_
  refine c_skip ?_
  refine tq_n ?_
  refine c_seq ?_
  refine c_block ?_
  refine c_draw [false, false, false, false, false, false, false, false, false, false, false, false, false, false, false] mixed (by kernel_rfl) ?_
  refine f_q rfl (fun wq sq => ow_move rfl ⟨rfl, Ext.refl _⟩) ?_
  refine f_q rfl (fun wq sq => ow_move rfl ⟨rfl, Ext.refl _⟩) ?_
  refine f_q rfl (fun wq sq => ow_nilCheck rfl ⟨rfl, Ext.refl _⟩) ?_
  refine f_q rfl (fun wq sq => ow_fieldAddrB off112_2 rfl rfl ⟨rfl, Ext.refl _⟩) ?_
  refine f_q rfl (fun wq sq => ow_loadB (q.ext sq) ti2 rfl rfl ⟨rfl, Ext.refl _⟩) ?_
  refine f_q rfl (fun wq sq => ow_mul rfl rfl (w64 (by omega)) ⟨rfl, Ext.refl _⟩) ?_
  refine f_q rfl (fun wq sq => ow_move rfl ⟨rfl, Ext.refl _⟩) ?_
  refine f_q rfl (fun wq sq => ow_move rfl ⟨rfl, Ext.refl _⟩) ?_
  refine f_q rfl (fun wq sq => ow_indexT (hs.ext sq) eB_len rfl el54 rfl rfl rfl hx rfl ⟨rfl, Ext.refl _⟩) ?_
  refine f_q rfl (fun wq sq => ow_loadT (hs.ext sq) eB_len hx ti5 rfl rfl rfl ⟨rfl, Ext.refl _⟩) ?_
  refine f_q rfl (fun wq sq => ow_conv Try.underlying5 Try.underlying2 rfl (w64 (by omega)) ⟨rfl, Ext.refl _⟩) ?_
  refine f_q rfl (fun wq sq => ow_add rfl rfl (w64 (by omega)) ⟨rfl, Ext.refl _⟩) ?_
  refine f_q rfl (fun wq sq => ow_rem rfl rfl (by omega) (m64 (by omega)) ⟨rfl, Ext.refl _⟩) ?_
  refine f_q rfl (fun wq sq => ow_nilCheck rfl ⟨rfl, Ext.refl _⟩) ?_
  refine f_q rfl (fun wq sq => ow_fieldAddrB off112_2 rfl rfl ⟨rfl, Ext.refl _⟩) ?_
  refine f_nil (fun w3 sq => ?_)
  have xq := sq
  replace q := q.ext xq
  replace hs := hs.ext xq
  replace X := Ext.trans X xq; clear xq sq
  refine ops_cons rfl (ow_storeB q ti2 rfl rfl rfl rfl rfl rfl ?_)
  intro w5 q2 hg4 z6
  replace hs := hs.grown hg4 (by intro g hg; injection hg; omega)
  replace X := X.grown hg4 X.size (by intro g hg; injection hg; omega)
  clear hg4 q
  refine ops_nil ?_
  refine bq_n ?_
  refine tq_n ?_
  refine c_region ?_
  refine ops_cons rfl (ow_move rfl ?_)
  refine ops_cons rfl (ow_add rfl rfl (w64 (by omega)) ?_)
  refine ops_cons rfl (ow_assign rfl ?_)
  refine ops_nil ?_
  refine tq_n ⟨(k + 1, (s * 53 + (x.toNat : Int)) % 2147483647), (.cons rfl (.cons rfl (.cons rfl (.nil _)))), ?_, ?_⟩
  · exact ⟨by omega, (by omega), q2, hs, X⟩
  · first | omega | (dsimp only; omega)
  refine ops_cons rfl (ow_pick rfl rfl ?_)
  refine ops_nil ?_
  refine c_false rfl ?_
  refine c_exit ?_
  refine tq_e ?_
  refine tq_e ?_
  refine bq_e ?_
  refine tq_n ?_
  refine c_seqR ?_
  refine ops_cons rfl (ow_move rfl ?_)
  refine ops_cons rfl (ow_assign rfl ?_)
  refine ops_nil ?_
  refine c_ret ?_
  refine fin_ret1 rfl rfl ?_
  exact ⟨gS, 0, s, rfl, lgS, by omega, q, X⟩
  refine ops_cons rfl (ow_move rfl ?_)
  refine ops_skip rfl rfl rfl rfl ?_
  refine ops_skip rfl rfl rfl rfl ?_
  refine ops_cons rfl (ow_pick rfl rfl ?_)
  refine ops_nil ?_
  refine c_false rfl ?_
  refine c_exit ?_
  refine tq_e ?_
  refine tq_e ?_
  refine bq_e ?_
  refine tq_n ?_
  refine c_seqR ?_
  refine ops_cons rfl (ow_move rfl ?_)
  refine ops_cons rfl (ow_assign rfl ?_)
  refine ops_nil ?_
  refine c_ret ?_
  refine fin_ret1 rfl rfl ?_
  exact ⟨gS, 0, s, rfl, lgS, by omega, q, X⟩

theorem l01Next_c (A : Option Addr) (B c : Nat) (bs : List UInt8) (gS a : Nat) (sd : Int) (n : Int) (w : World) (q : Blk w gS 112 (srcC A c bs a sd)) (hs : Sl B w A (bs.flatMap eB)) (hB : B ≤ gS) (ok : a ≤ bs.length ∧ 0 ≤ sd ∧ sd < 2147483647) (hbl : bs.length ≤ 1048576) (hn : n ≤ 9223372036854775807) :
    Calls Try.prog 63 #[.pointer (some ⟨gS, 0, none⟩), .int .i64 n] w (Ret fun v w' => ∃ r a' sd', v = .int .i64 r ∧ (0 ≤ r ∧ (1 < n → r < n) ∧ (n ≤ 1 → r = 0)) ∧ (a' ≤ bs.length ∧ 0 ≤ sd' ∧ sd' < 2147483647) ∧ Blk w' gS 112 (srcC A c bs a' sd') ∧ w.grownBy w' (some gS)) := by
  obtain ⟨ok1, ok2, ok3⟩ := ok
  have hs1 : 0 ≤ (sd * 48271 + 17) % 2147483647 ∧ (sd * 48271 + 17) % 2147483647 < 2147483647 := by omega
  have Bhs := hs.1
  have X := gb_refl w (some gS)
  refine calls_of (args := [.pointer (some ⟨gS, 0, none⟩), .int .i64 n]) Try.func63 Try.ntmps63 rfl rfl ?_
  refine c_seqR ?_
  refine ops_cons rfl (ow_assign rfl ?_)
  refine ops_nil ?_
  refine c_seq ?_
  refine c_seqR ?_
  refine ops_cons rfl (ow_move rfl ?_)
  refine ops_cons rfl (ow_leq2 rfl rfl (fun hn1 => ?_) (fun hn1 => ?_))
  refine ops_nil ?_
  refine c_true rfl ?_
  refine c_seqR ?_
  refine ops_cons rfl (ow_assign rfl ?_)
  refine ops_nil ?_
  refine c_ret ?_
  refine tq_r ?_
  refine fin_ret1 rfl rfl ?_
  · skip
    first
    | (exact ⟨0, a, sd, rfl, by omega, by omega, q, X⟩)
    | (have hr := fun y (hy : 0 ≤ y) => And.intro (Int.emod_nonneg y (show n ≠ 0 by omega)) (Int.emod_lt_of_pos y (show 0 < n by omega))
       first
       | (exact ⟨_, a, s1, rfl, by have := hr y1 (by omega); omega, by omega, q2, X⟩)
       | (exact ⟨_, a + 1, s1, rfl, by have := hr (y1 + (x.toNat : Int)) (by omega); omega, by omega, q3, X⟩)
       | (exact ⟨_, a + 1, s1, rfl, by have := hr (x.toNat : Int) (by omega); omega, by omega, q3, X⟩))
  refine ops_nil ?_
  refine c_false rfl ?_
  refine c_skip ?_
  refine tq_n ?_
  refine c_seqR ?_
  refine ops_cons rfl (ow_move rfl ?_)
  refine ops_cons rfl (ow_move rfl ?_)
  refine ops_cons rfl (ow_nilCheck rfl ?_)
  refine ops_cons rfl (ow_fieldAddrB off112_2 rfl rfl ?_)
  refine ops_cons rfl (ow_loadB q ti2 rfl rfl ?_)
  refine ops_cons rfl (ow_mul rfl rfl (w64 (by omega)) ?_)
  refine ops_cons rfl (ow_add rfl rfl (w64 (by omega)) ?_)
  refine ops_cons rfl (ow_rem rfl rfl (by omega) (m64 (by omega)) ?_)
  refine ops_cons rfl (ow_nilCheck rfl ?_)
  refine ops_cons rfl (ow_fieldAddrB off112_2 rfl rfl ?_)
  refine ops_cons rfl (ow_storeB q ti2 rfl rfl rfl rfl rfl rfl ?_)
  intro w2 q2 hg1 z3
  replace hs := hs.grown hg1 (by intro g hg; injection hg; omega)
  replace X := gb_trans X hg1
  clear hg1 q
  refine ops_nil ?_
  refine c_seqR ?_
  refine ops_cons rfl (ow_move rfl ?_)
  refine ops_cons rfl (ow_nilCheck rfl ?_)
  refine ops_cons rfl (ow_fieldAddrB off112_2 rfl rfl ?_)
  refine ops_cons rfl (ow_loadB q2 ti2 rfl rfl ?_)
  refine ops_cons rfl (ow_quo rfl rfl (by omega) (q64 (by omega)) ?_)
  generalize (sd * 48271 + 17) % 2147483647 = s1 at *
  have hs2 : 0 ≤ s1 / 23 ∧ s1 / 23 ≤ 93368854 := by omega
  generalize s1 / 23 = y1 at *
  refine ops_cons rfl (ow_assign rfl ?_)
  refine ops_nil ?_
  refine c_seq ?_
  refine c_seqD [false, false, false, false, false, false, false, false, false, false] mixed (by kernel_rfl) ?_
  refine f_q rfl (fun wq sq => ow_move rfl ⟨rfl, Ext.refl _⟩) ?_
  refine f_q rfl (fun wq sq => ow_nilCheck rfl ⟨rfl, Ext.refl _⟩) ?_
  refine f_q rfl (fun wq sq => ow_fieldAddrB off112_1 rfl rfl ⟨rfl, Ext.refl _⟩) ?_
  refine f_q rfl (fun wq sq => ow_loadB (q2.ext sq) ti3 rfl rfl ⟨rfl, Ext.refl _⟩) ?_
  refine f_q rfl (fun wq sq => ow_move rfl ⟨rfl, Ext.refl _⟩) ?_
  refine f_q rfl (fun wq sq => ow_nilCheck rfl ⟨rfl, Ext.refl _⟩) ?_
  refine f_q rfl (fun wq sq => ow_fieldAddrB off112_0 rfl rfl ⟨rfl, Ext.refl _⟩) ?_
  refine f_q rfl (fun wq sq => ow_loadB (q2.ext sq) ti54 rfl rfl ⟨rfl, Ext.refl _⟩) ?_
  refine f_q rfl (fun wq sq => ow_len Try.underlying54 rfl ⟨rfl, Ext.refl _⟩) ?_
  refine f_qb rfl (fun wq sq => ow_lss rfl rfl ⟨rfl, Ext.refl _⟩) (fun hlt => ?_) (fun hlt => ?_)
  obtain ⟨x, hx, dx⟩ := drop_at (xs := bs) (k := a) (by omega)
  have hxb := u8_in x
  refine f_nil (fun w4 sq => ?_)
  have xq := sq
  replace hs := hs.ext xq
  replace q2 := q2.ext xq
  replace X := gb_ext X xq; clear xq sq
  refine ops_nil ?_
  refine c_true rfl ?_
  refine c_seqD [false, false, false, false, false, false, false, false, false, false, false, false, false, false] mixed (by kernel_rfl) ?_
  refine f_q rfl (fun wq sq => ow_move rfl ⟨rfl, Ext.refl _⟩) ?_
  refine f_q rfl (fun wq sq => ow_move rfl ⟨rfl, Ext.refl _⟩) ?_
  refine f_q rfl (fun wq sq => ow_nilCheck rfl ⟨rfl, Ext.refl _⟩) ?_
  refine f_q rfl (fun wq sq => ow_fieldAddrB off112_0 rfl rfl ⟨rfl, Ext.refl _⟩) ?_
  refine f_q rfl (fun wq sq => ow_loadB (q2.ext sq) ti54 rfl rfl ⟨rfl, Ext.refl _⟩) ?_
  refine f_q rfl (fun wq sq => ow_move rfl ⟨rfl, Ext.refl _⟩) ?_
  refine f_q rfl (fun wq sq => ow_nilCheck rfl ⟨rfl, Ext.refl _⟩) ?_
  refine f_q rfl (fun wq sq => ow_fieldAddrB off112_1 rfl rfl ⟨rfl, Ext.refl _⟩) ?_
  refine f_q rfl (fun wq sq => ow_loadB (q2.ext sq) ti3 rfl rfl ⟨rfl, Ext.refl _⟩) ?_
  refine f_q rfl (fun wq sq => ow_indexT (hs.ext sq) eB_len rfl el54 rfl rfl rfl hx rfl ⟨rfl, Ext.refl _⟩) ?_
  refine f_q rfl (fun wq sq => ow_loadT (hs.ext sq) eB_len hx ti5 rfl rfl rfl ⟨rfl, Ext.refl _⟩) ?_
  refine f_q rfl (fun wq sq => ow_conv Try.underlying5 Try.underlying2 rfl (w64 (by omega)) ⟨rfl, Ext.refl _⟩) ?_
  refine f_q rfl (fun wq sq => ow_add rfl rfl (w64 (by omega)) ⟨rfl, Ext.refl _⟩) ?_
  refine f_q rfl (fun wq sq => ow_assign rfl ⟨rfl, Ext.refl _⟩) ?_
  refine f_nil (fun w5 sq => ?_)
  have xq := sq
  replace hs := hs.ext xq
  replace q2 := q2.ext xq
  replace X := gb_ext X xq; clear xq sq
  refine ops_nil ?_
  refine c_seqR ?_
  refine ops_cons rfl (ow_move rfl ?_)
  refine ops_cons rfl (ow_nilCheck rfl ?_)
  refine ops_cons rfl (ow_fieldAddrB off112_1 rfl rfl ?_)
  refine ops_cons rfl (ow_loadB q2 ti3 rfl rfl ?_)
  refine ops_cons rfl (ow_add rfl rfl (w64 (by omega)) ?_)
  refine ops_cons rfl (ow_nilCheck rfl ?_)
  refine ops_cons rfl (ow_fieldAddrB off112_1 rfl rfl ?_)
  refine ops_cons rfl (ow_storeB q2 ti3 rfl rfl rfl rfl rfl rfl ?_)
  intro w7 q3 hg6 z8
  replace hs := hs.grown hg6 (by intro g hg; injection hg; omega)
  replace X : w.grownBy w7 (some gS) := by first | exact gb_trans X hg6 | exact gb_new X hg6 (by intro g hg; injection hg; omega)
  clear hg6 q2
  refine ops_nil ?_
  refine c_seqR ?_
  refine ops_cons rfl (ow_move rfl ?_)
  refine ops_cons rfl (ow_leq2 rfl rfl (fun h9 => ?_) (fun h9 => ?_))
  refine ops_cons rfl (ow_move rfl ?_)
  refine ops_want rfl rfl rfl (ow_move rfl ?_)
  refine ops_want rfl rfl rfl (ow_nilCheck rfl ?_)
  refine ops_want rfl rfl rfl (ow_fieldAddrB off112_1 rfl rfl ?_)
  refine ops_want rfl rfl rfl (ow_loadB q3 ti3 rfl rfl ?_)
  refine ops_want rfl rfl rfl (ow_rem rfl rfl (by omega) (m64 (by omega)) ?_)
  refine ops_want rfl rfl rfl (ow_eql2 rfl rfl (fun h10 => ?_) (fun h10 => ?_))
  refine ops_cons rfl (ow_pick rfl rfl ?_)
  refine ops_nil ?_
  refine c_true rfl ?_
  refine c_draw [false, false, false, false, false, false, false, false, false, false, false, false, false] mixed (by kernel_rfl) ?_
  refine f_q rfl (fun wq sq => ow_move rfl ⟨rfl, Ext.refl _⟩) ?_
  refine f_q rfl (fun wq sq => ow_nilCheck rfl ⟨rfl, Ext.refl _⟩) ?_
  refine f_q rfl (fun wq sq => ow_fieldAddrB off112_0 rfl rfl ⟨rfl, Ext.refl _⟩) ?_
  refine f_q rfl (fun wq sq => ow_loadB (q3.ext sq) ti54 rfl rfl ⟨rfl, Ext.refl _⟩) ?_
  refine f_q rfl (fun wq sq => ow_move rfl ⟨rfl, Ext.refl _⟩) ?_
  refine f_q rfl (fun wq sq => ow_nilCheck rfl ⟨rfl, Ext.refl _⟩) ?_
  refine f_q rfl (fun wq sq => ow_fieldAddrB off112_1 rfl rfl ⟨rfl, Ext.refl _⟩) ?_
  refine f_q rfl (fun wq sq => ow_loadB (q3.ext sq) ti3 rfl rfl ⟨rfl, Ext.refl _⟩) ?_
  refine f_q rfl (fun wq sq => ow_sub rfl rfl (w64 (by omega)) ⟨rfl, Ext.refl _⟩) ?_
  refine f_q rfl (fun wq sq => ow_indexT (hs.ext sq) eB_len rfl el54 rfl rfl rfl hx (by omega) ⟨rfl, Ext.refl _⟩) ?_
  refine f_q rfl (fun wq sq => ow_loadT (hs.ext sq) eB_len hx ti5 rfl rfl rfl ⟨rfl, Ext.refl _⟩) ?_
  refine f_q rfl (fun wq sq => ow_conv Try.underlying5 Try.underlying2 rfl (w64 (by omega)) ⟨rfl, Ext.refl _⟩) ?_
  refine f_q rfl (fun wq sq => ow_assign rfl ⟨rfl, Ext.refl _⟩) ?_
  refine f_nil (fun w11 sq => ?_)
  have xq := sq
  replace hs := hs.ext xq
  replace q3 := q3.ext xq
  replace X := gb_ext X xq; clear xq sq
  refine ops_nil ?_
  refine tq_n ?_
  refine c_seqR ?_
  refine ops_cons rfl (ow_move rfl ?_)
  refine ops_cons rfl (ow_move rfl ?_)
  refine ops_cons rfl (ow_rem rfl rfl (by omega) (m64 (by omega)) ?_)
  refine ops_cons rfl (ow_assign rfl ?_)
  refine ops_nil ?_
  refine c_ret ?_
  refine fin_ret1 rfl rfl ?_
  · skip
    first
    | (exact ⟨0, a, sd, rfl, by omega, by omega, q, X⟩)
    | (have hr := fun y (hy : 0 ≤ y) => And.intro (Int.emod_nonneg y (show n ≠ 0 by omega)) (Int.emod_lt_of_pos y (show 0 < n by omega))
       first
       | (exact ⟨_, a, s1, rfl, by have := hr y1 (by omega); omega, by omega, q2, X⟩)
       | (exact ⟨_, a + 1, s1, rfl, by have := hr (y1 + (x.toNat : Int)) (by omega); omega, by omega, q3, X⟩)
       | (exact ⟨_, a + 1, s1, rfl, by have := hr (x.toNat : Int) (by omega); omega, by omega, q3, X⟩))
  refine ops_cons rfl (ow_pick rfl rfl ?_)
  refine ops_nil ?_
  refine c_false rfl ?_
  refine c_skip ?_
  refine tq_n ?_
  refine c_seqR ?_
  refine ops_cons rfl (ow_move rfl ?_)
  refine ops_cons rfl (ow_move rfl ?_)
  refine ops_cons rfl (ow_rem rfl rfl (by omega) (m64 (by omega)) ?_)
  refine ops_cons rfl (ow_assign rfl ?_)
  refine ops_nil ?_
  refine c_ret ?_
  refine fin_ret1 rfl rfl ?_
  · skip
    first
    | (exact ⟨0, a, sd, rfl, by omega, by omega, q, X⟩)
    | (have hr := fun y (hy : 0 ≤ y) => And.intro (Int.emod_nonneg y (show n ≠ 0 by omega)) (Int.emod_lt_of_pos y (show 0 < n by omega))
       first
       | (exact ⟨_, a, s1, rfl, by have := hr y1 (by omega); omega, by omega, q2, X⟩)
       | (exact ⟨_, a + 1, s1, rfl, by have := hr (y1 + (x.toNat : Int)) (by omega); omega, by omega, q3, X⟩)
       | (exact ⟨_, a + 1, s1, rfl, by have := hr (x.toNat : Int) (by omega); omega, by omega, q3, X⟩))
  refine ops_cons rfl (ow_move rfl ?_)
  refine ops_skip rfl rfl rfl rfl ?_
  refine ops_skip rfl rfl rfl rfl ?_
  refine ops_skip rfl rfl rfl rfl ?_
  refine ops_skip rfl rfl rfl rfl ?_
  refine ops_skip rfl rfl rfl rfl ?_
  refine ops_skip rfl rfl rfl rfl ?_
  refine ops_cons rfl (ow_pick rfl rfl ?_)
  refine ops_nil ?_
  refine c_false rfl ?_
  refine c_skip ?_
  refine tq_n ?_
  refine c_seqR ?_
  refine ops_cons rfl (ow_move rfl ?_)
  refine ops_cons rfl (ow_move rfl ?_)
  refine ops_cons rfl (ow_rem rfl rfl (by omega) (m64 (by omega)) ?_)
  refine ops_cons rfl (ow_assign rfl ?_)
  refine ops_nil ?_
  refine c_ret ?_
  refine fin_ret1 rfl rfl ?_
  · skip
    first
    | (exact ⟨0, a, sd, rfl, by omega, by omega, q, X⟩)
    | (have hr := fun y (hy : 0 ≤ y) => And.intro (Int.emod_nonneg y (show n ≠ 0 by omega)) (Int.emod_lt_of_pos y (show 0 < n by omega))
       first
       | (exact ⟨_, a, s1, rfl, by have := hr y1 (by omega); omega, by omega, q2, X⟩)
       | (exact ⟨_, a + 1, s1, rfl, by have := hr (y1 + (x.toNat : Int)) (by omega); omega, by omega, q3, X⟩)
       | (exact ⟨_, a + 1, s1, rfl, by have := hr (x.toNat : Int) (by omega); omega, by omega, q3, X⟩))
  refine f_nil (fun w12 sq => ?_)
  have xq := sq
  replace hs := hs.ext xq
  replace q2 := q2.ext xq
  replace X := gb_ext X xq; clear xq sq
  refine ops_nil ?_
  refine c_false rfl ?_
  refine c_skip ?_
  refine tq_n ?_
  refine c_seqR ?_
  refine ops_cons rfl (ow_move rfl ?_)
  refine ops_cons rfl (ow_move rfl ?_)
  refine ops_cons rfl (ow_rem rfl rfl (by omega) (m64 (by omega)) ?_)
  refine ops_cons rfl (ow_assign rfl ?_)
  refine ops_nil ?_
  refine c_ret ?_
  refine fin_ret1 rfl rfl ?_
  · skip
    first
    | (exact ⟨0, a, sd, rfl, by omega, by omega, q, X⟩)
    | (have hr := fun y (hy : 0 ≤ y) => And.intro (Int.emod_nonneg y (show n ≠ 0 by omega)) (Int.emod_lt_of_pos y (show 0 < n by omega))
       first
       | (exact ⟨_, a, s1, rfl, by have := hr y1 (by omega); omega, by omega, q2, X⟩)
       | (exact ⟨_, a + 1, s1, rfl, by have := hr (y1 + (x.toNat : Int)) (by omega); omega, by omega, q3, X⟩)
       | (exact ⟨_, a + 1, s1, rfl, by have := hr (x.toNat : Int) (by omega); omega, by omega, q3, X⟩))
end Go.Proofs.Ytdoibplhbdkapaa
namespace Go.Proofs.Ytdoibplhbdkapaa
open Go.RowKit
set_option linter.unusedVariables false
set_option linter.unusedSimpArgs false
set_option maxRecDepth 20000
theorem desc_agg (a b c d : Int) (e : Bool) : Value.agg #[.int .i64 a, .int .i64 b, .int .i64 c, .int .i64 d, .bool e] = Value.agg (Desc.cells ⟨a, b, c, d, e⟩).toArray := rfl
theorem l08Draw_c (A : Option Addr) (B c : Nat) (bs : List UInt8) (gS a : Nat) (sd : Int) (w : World) (q : Blk w gS 112 (srcC A c bs a sd)) (hs : Sl B w A (bs.flatMap eB)) (hB : B ≤ gS) (ok : a ≤ bs.length ∧ 0 ≤ sd ∧ sd < 2147483647) (hbl : bs.length ≤ 1048576) :
    Calls Try.prog 88 #[.pointer (some ⟨gS, 0, none⟩)] w (Ret fun v w' => ∃ (d : Desc) (a' : Nat) (sd' : Int), v = .agg d.cells.toArray ∧ ((0 ≤ d.size ∧ d.size ≤ 5) ∧ (0 ≤ d.kind ∧ d.kind ≤ 3) ∧ (0 ≤ d.node ∧ d.node ≤ 3) ∧ (0 ≤ d.duration ∧ d.duration ≤ 2000)) ∧ (a' ≤ bs.length ∧ 0 ≤ sd' ∧ sd' < 2147483647) ∧ Blk w' gS 112 (srcC A c bs a' sd') ∧ w.grownBy w' (some gS)) := by
  have Bhs := hs.1
  have X := gb_refl w (some gS)
  refine calls_of (args := [.pointer (some ⟨gS, 0, none⟩)]) Try.func88 Try.ntmps88 rfl rfl ?_
  refine c_seqR ?_
  refine ops_cons rfl (ow_alloc ti47 ?_)
  intro g2 w2 eg2 b2 x1 zg2
  have lg2 : w.heap.size ≤ g2 := Nat.le_trans X.size (Nat.le_of_eq eg2.symm)
  have ng2q := Nat.lt_of_lt_of_eq q.lt eg2.symm
  have pg2hs := Nat.le_trans hs.1 (Nat.le_of_eq eg2.symm)
  replace q := q.ext x1
  replace hs := hs.ext x1
  replace X := gb_ext X x1; clear x1
  refine ops_nil ?_
  refine c_seqR ?_
  refine ops_cons rfl (ow_move rfl ?_)
  refine ops_cons rfl (ow_call ent63 rfl (ret_mono (l01Next_c _ _ _ _ _ _ _ _ _ q hs hB ok hbl (by omega)) ?_))
  rintro _ w4 ⟨r1, a6, sd7, rfl, hr8, ok, b5, x3⟩
  replace hs := hs.grown x3 (by intro g hg; injection hg; omega)
  replace b2 := b2.grown x3 (by intro h; injection h; omega)
  replace X := gb_trans X x3
  clear x3 q
  refine ops_cons rfl (ow_move rfl ?_)
  refine ops_cons rfl (ow_call ent63 rfl (ret_mono (l01Next_c _ _ _ _ _ _ _ _ _ b5 hs hB ok hbl (by omega)) ?_))
  rintro _ w10 ⟨r2, a12, sd13, rfl, hr14, ok, b11, x9⟩
  replace hs := hs.grown x9 (by intro g hg; injection hg; omega)
  replace b2 := b2.grown x9 (by intro h; injection h; omega)
  replace X := gb_trans X x9
  clear x9 b5
  refine ops_cons rfl (ow_move rfl ?_)
  refine ops_cons rfl (ow_call ent63 rfl (ret_mono (l01Next_c _ _ _ _ _ _ _ _ _ b11 hs hB ok hbl (by omega)) ?_))
  rintro _ w16 ⟨r3, a18, sd19, rfl, hr20, ok, b17, x15⟩
  replace hs := hs.grown x15 (by intro g hg; injection hg; omega)
  replace b2 := b2.grown x15 (by intro h; injection h; omega)
  replace X := gb_trans X x15
  clear x15 b11
  refine ops_cons rfl (ow_eql rfl rfl ?_)
  refine ops_cons rfl (ow_buildP pl47 ti47 rfl rfl ?_)
  refine ops_cons rfl (ow_alloc ti47 ?_)
  intro gD w22 egD bD x21 zgD
  have lgD : w.heap.size ≤ gD := Nat.le_trans X.size (Nat.le_of_eq egD.symm)
  have pgDhs := Nat.le_trans hs.1 (Nat.le_of_eq egD.symm)
  have ngDb2 := Nat.lt_of_lt_of_eq b2.lt egD.symm
  have ngDb17 := Nat.lt_of_lt_of_eq b17.lt egD.symm
  replace hs := hs.ext x21
  replace b2 := b2.ext x21
  replace b17 := b17.ext x21
  replace X := gb_ext X x21; clear x21
  refine ops_cons rfl (ow_storeB bD ti47 rfl rfl rfl rfl rfl rfl ?_)
  intro w24 bE hg23 z25
  replace hs := hs.grown hg23 (by intro g hg; injection hg; omega)
  replace b2 := b2.grown hg23 (by intro h; injection h; omega)
  replace b17 := b17.grown hg23 (by intro h; injection h; omega)
  replace X := gb_new X hg23 (by intro g hg; injection hg; omega)
  clear hg23 bD
  refine ops_nil ?_
  refine c_seq ?_
  refine c_seqR ?_
  refine ops_cons rfl (ow_fieldAddrB off47_1 rfl rfl ?_)
  refine ops_cons rfl (ow_loadB bE ti2 rfl rfl ?_)
  refine ops_cons rfl (ow_callB ent109 rfl (l06Data_c _ _) (fun w27 hda x26 => ?_) (fun w27 hda x26 => ?_))
  replace hs := hs.ext x26
  replace b2 := b2.ext x26
  replace b17 := b17.ext x26
  replace bE := bE.ext x26
  replace X := gb_ext X x26; clear x26
  refine ops_nil ?_
  refine c_true rfl ?_
  refine c_region ?_
  refine ops_cons rfl (ow_move rfl ?_)
  refine ops_cons rfl (ow_call ent63 rfl (ret_mono (l01Next_c _ _ _ _ _ _ _ _ _ b17 hs hB ok hbl (by omega)) ?_))
  rintro _ w29 ⟨r4, a31, sd32, rfl, hr33, ok, b30, x28⟩
  replace hs := hs.grown x28 (by intro g hg; injection hg; omega)
  replace b2 := b2.grown x28 (by intro h; injection h; omega)
  replace bE := bE.grown x28 (by intro h; injection h; omega)
  replace X := gb_trans X x28
  clear x28 b17
  refine ops_cons rfl (ow_add rfl rfl (w64 (by omega)) ?_)
  refine ops_cons rfl (ow_fieldAddrB off47_2 rfl rfl ?_)
  refine ops_cons rfl (ow_storeB bE ti2 rfl rfl rfl rfl rfl rfl ?_)
  intro w35 bF hg34 z36
  replace hs := hs.grown hg34 (by intro g hg; injection hg; omega)
  replace b2 := b2.grown hg34 (by intro h; injection h; omega)
  replace b30 := b30.grown hg34 (by intro h; injection h; omega)
  replace X := gb_new X hg34 (by intro g hg; injection hg; omega)
  clear hg34 bE
  refine ops_nil ?_
  refine tq_n ?_
  refine c_seq ?_
  refine c_seqR ?_
  refine ops_cons rfl (ow_fieldAddrB off47_1 rfl rfl ?_)
  refine ops_cons rfl (ow_loadB bF ti2 rfl rfl ?_)
  refine ops_cons rfl (ow_eql2 rfl rfl (fun hk3 => ?_) (fun hk3 => ?_))
  refine ops_nil ?_
  refine c_true rfl ?_
  refine c_region ?_
  refine ops_cons rfl (ow_fieldAddrB off47_4 rfl rfl ?_)
  refine ops_cons rfl (ow_storeB bF ti4 rfl rfl rfl rfl rfl rfl ?_)
  intro w38 bG hg37 z39
  replace hs := hs.grown hg37 (by intro g hg; injection hg; omega)
  replace b2 := b2.grown hg37 (by intro h; injection h; omega)
  replace b30 := b30.grown hg37 (by intro h; injection h; omega)
  replace X := gb_new X hg37 (by intro g hg; injection hg; omega)
  clear hg37 bF
  refine ops_nil ?_
  refine tq_n ?_
  refine c_seqR ?_
  refine ops_cons rfl (ow_fieldAddrB off47_1 rfl rfl ?_)
  refine ops_cons rfl (ow_loadB bG ti2 rfl rfl ?_)
  refine ops_cons rfl (ow_fieldAddrB off47_2 rfl rfl ?_)
  refine ops_cons rfl (ow_loadB bG ti2 rfl rfl ?_)
  first | (have hcs := cellsS_in r2 (z := 1 + r4) (by omega)) | (have hcs := cellsS_in r2 (z := 0) (by omega))
  refine ops_cons rfl (ow_call ent89 rfl (ret_mono (l08Cells_c _ _ _ (by omega)) ?_))
  rintro _ w41 ⟨rfl, x40⟩
  replace hs := hs.ext x40
  replace b2 := b2.ext x40
  replace b30 := b30.ext x40
  replace bG := bG.ext x40
  replace X := gb_ext X x40; clear x40
  refine ops_cons rfl (ow_add rfl rfl (w64 (by omega)) ?_)
  refine ops_cons rfl (ow_move rfl ?_)
  refine ops_cons rfl (ow_call ent63 rfl (ret_mono (l01Next_c _ _ _ _ _ _ _ _ _ b30 hs hB ok hbl (by omega)) ?_))
  rintro _ w43 ⟨r5, a45, sd46, rfl, hr47, ok, b44, x42⟩
  replace hs := hs.grown x42 (by intro g hg; injection hg; omega)
  replace b2 := b2.grown x42 (by intro h; injection h; omega)
  replace bG := bG.grown x42 (by intro h; injection h; omega)
  replace X := gb_trans X x42
  clear x42 b30
  refine ops_cons rfl (ow_add rfl rfl (w64 (by omega)) ?_)
  refine ops_cons rfl (ow_fieldAddrB off47_3 rfl rfl ?_)
  refine ops_cons rfl (ow_storeB bG ti2 rfl rfl rfl rfl rfl rfl ?_)
  intro w49 bH hg48 z50
  replace hs := hs.grown hg48 (by intro g hg; injection hg; omega)
  replace b2 := b2.grown hg48 (by intro h; injection h; omega)
  replace b44 := b44.grown hg48 (by intro h; injection h; omega)
  replace X := gb_new X hg48 (by intro g hg; injection hg; omega)
  clear hg48 bG
  refine ops_nil ?_
  refine c_seqR ?_
  refine ops_cons rfl (ow_loadAB bH ti47 rfl rfl ?_)
  refine ops_cons rfl (ow_storeB b2 ti47 rfl rfl rfl rfl rfl rfl ?_)
  intro w52 b3 hg51 z53
  replace hs := hs.grown hg51 (by intro g hg; injection hg; omega)
  replace b44 := b44.grown hg51 (by intro h; injection h; omega)
  replace bH := bH.grown hg51 (by intro h; injection h; omega)
  replace X := gb_new X hg51 (by intro g hg; injection hg; omega)
  clear hg51 b2
  refine ops_nil ?_
  refine c_ret ?_
  refine fin_cell1 rfl rfl b3 ti47 rfl ?_
  · skip
    refine ⟨⟨_, _, _, _, _⟩, _, _, desc_agg _ _ _ _ _, ?_, ok, b44, X⟩
    simp only; omega
  refine ops_nil ?_
  refine c_false rfl ?_
  refine c_skip ?_
  refine tq_n ?_
  refine c_seqR ?_
  refine ops_cons rfl (ow_fieldAddrB off47_1 rfl rfl ?_)
  refine ops_cons rfl (ow_loadB bF ti2 rfl rfl ?_)
  refine ops_cons rfl (ow_fieldAddrB off47_2 rfl rfl ?_)
  refine ops_cons rfl (ow_loadB bF ti2 rfl rfl ?_)
  first | (have hcs := cellsS_in r2 (z := 1 + r4) (by omega)) | (have hcs := cellsS_in r2 (z := 0) (by omega))
  refine ops_cons rfl (ow_call ent89 rfl (ret_mono (l08Cells_c _ _ _ (by omega)) ?_))
  rintro _ w55 ⟨rfl, x54⟩
  replace hs := hs.ext x54
  replace b2 := b2.ext x54
  replace b30 := b30.ext x54
  replace bF := bF.ext x54
  replace X := gb_ext X x54; clear x54
  refine ops_cons rfl (ow_add rfl rfl (w64 (by omega)) ?_)
  refine ops_cons rfl (ow_move rfl ?_)
  refine ops_cons rfl (ow_call ent63 rfl (ret_mono (l01Next_c _ _ _ _ _ _ _ _ _ b30 hs hB ok hbl (by omega)) ?_))
  rintro _ w57 ⟨r5, a59, sd60, rfl, hr61, ok, b58, x56⟩
  replace hs := hs.grown x56 (by intro g hg; injection hg; omega)
  replace b2 := b2.grown x56 (by intro h; injection h; omega)
  replace bF := bF.grown x56 (by intro h; injection h; omega)
  replace X := gb_trans X x56
  clear x56 b30
  refine ops_cons rfl (ow_add rfl rfl (w64 (by omega)) ?_)
  refine ops_cons rfl (ow_fieldAddrB off47_3 rfl rfl ?_)
  refine ops_cons rfl (ow_storeB bF ti2 rfl rfl rfl rfl rfl rfl ?_)
  intro w63 bH hg62 z64
  replace hs := hs.grown hg62 (by intro g hg; injection hg; omega)
  replace b2 := b2.grown hg62 (by intro h; injection h; omega)
  replace b58 := b58.grown hg62 (by intro h; injection h; omega)
  replace X := gb_new X hg62 (by intro g hg; injection hg; omega)
  clear hg62 bF
  refine ops_nil ?_
  refine c_seqR ?_
  refine ops_cons rfl (ow_loadAB bH ti47 rfl rfl ?_)
  refine ops_cons rfl (ow_storeB b2 ti47 rfl rfl rfl rfl rfl rfl ?_)
  intro w66 b3 hg65 z67
  replace hs := hs.grown hg65 (by intro g hg; injection hg; omega)
  replace b58 := b58.grown hg65 (by intro h; injection h; omega)
  replace bH := bH.grown hg65 (by intro h; injection h; omega)
  replace X := gb_new X hg65 (by intro g hg; injection hg; omega)
  clear hg65 b2
  refine ops_nil ?_
  refine c_ret ?_
  refine fin_cell1 rfl rfl b3 ti47 rfl ?_
  · skip
    refine ⟨⟨_, _, _, _, _⟩, _, _, desc_agg _ _ _ _ _, ?_, ok, b58, X⟩
    simp only; omega
  replace hs := hs.ext x26
  replace b2 := b2.ext x26
  replace b17 := b17.ext x26
  replace bE := bE.ext x26
  replace X := gb_ext X x26; clear x26
  refine ops_nil ?_
  refine c_false rfl ?_
  refine c_skip ?_
  refine tq_n ?_
  refine c_seq ?_
  refine c_seqR ?_
  refine ops_cons rfl (ow_fieldAddrB off47_1 rfl rfl ?_)
  refine ops_cons rfl (ow_loadB bE ti2 rfl rfl ?_)
  refine ops_cons rfl (ow_eql2 rfl rfl (fun hk3 => ?_) (fun hk3 => ?_))
  refine ops_nil ?_
  refine c_true rfl ?_
  refine c_region ?_
  refine ops_cons rfl (ow_fieldAddrB off47_4 rfl rfl ?_)
  refine ops_cons rfl (ow_storeB bE ti4 rfl rfl rfl rfl rfl rfl ?_)
  intro w69 bG hg68 z70
  replace hs := hs.grown hg68 (by intro g hg; injection hg; omega)
  replace b2 := b2.grown hg68 (by intro h; injection h; omega)
  replace b17 := b17.grown hg68 (by intro h; injection h; omega)
  replace X := gb_new X hg68 (by intro g hg; injection hg; omega)
  clear hg68 bE
  refine ops_nil ?_
  refine tq_n ?_
  refine c_seqR ?_
  refine ops_cons rfl (ow_fieldAddrB off47_1 rfl rfl ?_)
  refine ops_cons rfl (ow_loadB bG ti2 rfl rfl ?_)
  refine ops_cons rfl (ow_fieldAddrB off47_2 rfl rfl ?_)
  refine ops_cons rfl (ow_loadB bG ti2 rfl rfl ?_)
  first | (have hcs := cellsS_in r2 (z := 1 + r4) (by omega)) | (have hcs := cellsS_in r2 (z := 0) (by omega))
  refine ops_cons rfl (ow_call ent89 rfl (ret_mono (l08Cells_c _ _ _ (by omega)) ?_))
  rintro _ w72 ⟨rfl, x71⟩
  replace hs := hs.ext x71
  replace b2 := b2.ext x71
  replace b17 := b17.ext x71
  replace bG := bG.ext x71
  replace X := gb_ext X x71; clear x71
  refine ops_cons rfl (ow_add rfl rfl (w64 (by omega)) ?_)
  refine ops_cons rfl (ow_move rfl ?_)
  refine ops_cons rfl (ow_call ent63 rfl (ret_mono (l01Next_c _ _ _ _ _ _ _ _ _ b17 hs hB ok hbl (by omega)) ?_))
  rintro _ w74 ⟨r5, a76, sd77, rfl, hr78, ok, b75, x73⟩
  replace hs := hs.grown x73 (by intro g hg; injection hg; omega)
  replace b2 := b2.grown x73 (by intro h; injection h; omega)
  replace bG := bG.grown x73 (by intro h; injection h; omega)
  replace X := gb_trans X x73
  clear x73 b17
  refine ops_cons rfl (ow_add rfl rfl (w64 (by omega)) ?_)
  refine ops_cons rfl (ow_fieldAddrB off47_3 rfl rfl ?_)
  refine ops_cons rfl (ow_storeB bG ti2 rfl rfl rfl rfl rfl rfl ?_)
  intro w80 bH hg79 z81
  replace hs := hs.grown hg79 (by intro g hg; injection hg; omega)
  replace b2 := b2.grown hg79 (by intro h; injection h; omega)
  replace b75 := b75.grown hg79 (by intro h; injection h; omega)
  replace X := gb_new X hg79 (by intro g hg; injection hg; omega)
  clear hg79 bG
  refine ops_nil ?_
  refine c_seqR ?_
  refine ops_cons rfl (ow_loadAB bH ti47 rfl rfl ?_)
  refine ops_cons rfl (ow_storeB b2 ti47 rfl rfl rfl rfl rfl rfl ?_)
  intro w83 b3 hg82 z84
  replace hs := hs.grown hg82 (by intro g hg; injection hg; omega)
  replace b75 := b75.grown hg82 (by intro h; injection h; omega)
  replace bH := bH.grown hg82 (by intro h; injection h; omega)
  replace X := gb_new X hg82 (by intro g hg; injection hg; omega)
  clear hg82 b2
  refine ops_nil ?_
  refine c_ret ?_
  refine fin_cell1 rfl rfl b3 ti47 rfl ?_
  · skip
    refine ⟨⟨_, _, _, _, _⟩, _, _, desc_agg _ _ _ _ _, ?_, ok, b75, X⟩
    simp only; omega
  refine ops_nil ?_
  refine c_false rfl ?_
  refine c_skip ?_
  refine tq_n ?_
  refine c_seqR ?_
  refine ops_cons rfl (ow_fieldAddrB off47_1 rfl rfl ?_)
  refine ops_cons rfl (ow_loadB bE ti2 rfl rfl ?_)
  refine ops_cons rfl (ow_fieldAddrB off47_2 rfl rfl ?_)
  refine ops_cons rfl (ow_loadB bE ti2 rfl rfl ?_)
  first | (have hcs := cellsS_in r2 (z := 1 + r4) (by omega)) | (have hcs := cellsS_in r2 (z := 0) (by omega))
  refine ops_cons rfl (ow_call ent89 rfl (ret_mono (l08Cells_c _ _ _ (by omega)) ?_))
  rintro _ w86 ⟨rfl, x85⟩
  replace hs := hs.ext x85
  replace b2 := b2.ext x85
  replace b17 := b17.ext x85
  replace bE := bE.ext x85
  replace X := gb_ext X x85; clear x85
  refine ops_cons rfl (ow_add rfl rfl (w64 (by omega)) ?_)
  refine ops_cons rfl (ow_move rfl ?_)
  refine ops_cons rfl (ow_call ent63 rfl (ret_mono (l01Next_c _ _ _ _ _ _ _ _ _ b17 hs hB ok hbl (by omega)) ?_))
  rintro _ w88 ⟨r5, a90, sd91, rfl, hr92, ok, b89, x87⟩
  replace hs := hs.grown x87 (by intro g hg; injection hg; omega)
  replace b2 := b2.grown x87 (by intro h; injection h; omega)
  replace bE := bE.grown x87 (by intro h; injection h; omega)
  replace X := gb_trans X x87
  clear x87 b17
  refine ops_cons rfl (ow_add rfl rfl (w64 (by omega)) ?_)
  refine ops_cons rfl (ow_fieldAddrB off47_3 rfl rfl ?_)
  refine ops_cons rfl (ow_storeB bE ti2 rfl rfl rfl rfl rfl rfl ?_)
  intro w94 bH hg93 z95
  replace hs := hs.grown hg93 (by intro g hg; injection hg; omega)
  replace b2 := b2.grown hg93 (by intro h; injection h; omega)
  replace b89 := b89.grown hg93 (by intro h; injection h; omega)
  replace X := gb_new X hg93 (by intro g hg; injection hg; omega)
  clear hg93 bE
  refine ops_nil ?_
  refine c_seqR ?_
  refine ops_cons rfl (ow_loadAB bH ti47 rfl rfl ?_)
  refine ops_cons rfl (ow_storeB b2 ti47 rfl rfl rfl rfl rfl rfl ?_)
  intro w97 b3 hg96 z98
  replace hs := hs.grown hg96 (by intro g hg; injection hg; omega)
  replace b89 := b89.grown hg96 (by intro h; injection h; omega)
  replace bH := bH.grown hg96 (by intro h; injection h; omega)
  replace X := gb_new X hg96 (by intro g hg; injection hg; omega)
  clear hg96 b2
  refine ops_nil ?_
  refine c_ret ?_
  refine fin_cell1 rfl rfl b3 ti47 rfl ?_
  · skip
    refine ⟨⟨_, _, _, _, _⟩, _, _, desc_agg _ _ _ _ _, ?_, ok, b89, X⟩
    simp only; omega

theorem l08DrawAny_c (A : Option Addr) (B c : Nat) (bs : List UInt8) (gS a : Nat) (sd : Int) (w : World) (q : Blk w gS 112 (srcC A c bs a sd)) (hs : Sl B w A (bs.flatMap eB)) (hB : B ≤ gS) (ok : a ≤ bs.length ∧ 0 ≤ sd ∧ sd < 2147483647) (hbl : bs.length ≤ 1048576) :
    Calls Try.prog 64 #[.pointer (some ⟨gS, 0, none⟩)] w (Ret fun v w' => ∃ (d : Desc) (a' : Nat) (sd' : Int), v = .agg d.cells.toArray ∧ True ∧ (a' ≤ bs.length ∧ 0 ≤ sd' ∧ sd' < 2147483647) ∧ Blk w' gS 112 (srcC A c bs a' sd') ∧ w.grownBy w' (some gS)) := by
  have Bhs := hs.1
  have X := gb_refl w (some gS)
  refine calls_of (args := [.pointer (some ⟨gS, 0, none⟩)]) Try.func64 Try.ntmps64 rfl rfl ?_
  refine c_seqR ?_
  refine ops_cons rfl (ow_alloc ti47 ?_)
  intro g2 w2 eg2 b2 x1 zg2
  have lg2 : w.heap.size ≤ g2 := Nat.le_trans X.size (Nat.le_of_eq eg2.symm)
  have ng2q := Nat.lt_of_lt_of_eq q.lt eg2.symm
  have pg2hs := Nat.le_trans hs.1 (Nat.le_of_eq eg2.symm)
  replace q := q.ext x1
  replace hs := hs.ext x1
  replace X := gb_ext X x1; clear x1
  refine ops_nil ?_
  refine c_seqR ?_
  refine ops_cons rfl (ow_move rfl ?_)
  refine ops_cons rfl (ow_call ent88 rfl (ret_mono (l08Draw_c _ _ _ _ _ _ _ _ q hs hB ok hbl) ?_))
  rintro _ w4 ⟨d, a6, sd7, rfl, hp, ok, b5, x3⟩
  replace hs := hs.grown x3 (by intro g hg; injection hg; omega)
  replace b2 := b2.grown x3 (by intro h; injection h; omega)
  replace X := gb_trans X x3
  clear x3 q
  refine ops_cons rfl (ow_alloc ti47 ?_)
  intro gD w9 egD bD x8 zgD
  have lgD : w.heap.size ≤ gD := Nat.le_trans X.size (Nat.le_of_eq egD.symm)
  have pgDhs := Nat.le_trans hs.1 (Nat.le_of_eq egD.symm)
  have ngDb2 := Nat.lt_of_lt_of_eq b2.lt egD.symm
  have ngDb5 := Nat.lt_of_lt_of_eq b5.lt egD.symm
  replace hs := hs.ext x8
  replace b2 := b2.ext x8
  replace b5 := b5.ext x8
  replace X := gb_ext X x8; clear x8
  refine ops_cons rfl (ow_storeB bD ti47 rfl rfl rfl rfl rfl rfl ?_)
  intro w11 bE hg10 z12
  replace hs := hs.grown hg10 (by intro g hg; injection hg; omega)
  replace b2 := b2.grown hg10 (by intro h; injection h; omega)
  replace b5 := b5.grown hg10 (by intro h; injection h; omega)
  replace X := gb_new X hg10 (by intro g hg; injection hg; omega)
  clear hg10 bD
  refine ops_nil ?_
  refine c_seq ?_
  refine c_seqR ?_
  refine ops_cons rfl (ow_move rfl ?_)
  refine ops_cons rfl (ow_call ent63 rfl (ret_mono (l01Next_c _ _ _ _ _ _ _ _ _ b5 hs hB ok hbl (by omega)) ?_))
  rintro _ w14 ⟨rk, a16, sd17, rfl, hr18, ok, b15, x13⟩
  replace hs := hs.grown x13 (by intro g hg; injection hg; omega)
  replace b2 := b2.grown x13 (by intro h; injection h; omega)
  replace bE := bE.grown x13 (by intro h; injection h; omega)
  replace X := gb_trans X x13
  clear x13 b5
  refine ops_nil ?_
  refine c_block ?_
  refine c_seqR ?_
  refine ops_cons rfl (ow_eql rfl rfl ?_)
  refine ops_cons rfl (ow_assign rfl ?_)
  refine ops_nil ?_
  refine c_split rfl (fun h19 => ?_) (fun h19 => ?_)
  refine c_region ?_
  refine ops_cons rfl (ow_buildSlice el22 ti2 rfl rfl rfl rfl rfl ?_)
  intro g20 w22 eg20 oL bbg20 x21 zg20
  replace oL := Own.low oL X.size
  replace hs := hs.ext x21
  replace b2 := b2.ext x21
  replace bE := bE.ext x21
  replace b15 := b15.ext x21
  replace X := gb_ext X x21; clear x21
  replace oL := oL.to (cs' := ([-1, 31, 32] : List Int).flatMap eI) rfl
  refine ops_cons rfl (ow_move rfl ?_)
  refine ops_cons rfl (ow_call ent63 rfl (ret_mono (l01Next_c _ _ _ _ _ _ _ _ _ b15 hs hB ok hbl (by omega)) ?_))
  rintro _ w24 ⟨rr, a26, sd27, rfl, hr28, ok, b25, x23⟩
  replace hs := hs.grown x23 (by intro g hg; injection hg; omega)
  replace b2 := b2.grown x23 (by intro h; injection h; omega)
  replace bE := bE.grown x23 (by intro h; injection h; omega)
  replace oL := oL.grownBlk x23 (Own.neT oL b15 (by decide))
  replace X := gb_trans X x23
  clear x23 b15
  obtain ⟨y, hy⟩ : ∃ y, ([-1, 31, 32] : List Int)[rr.toNat]? = some y := ⟨_, List.getElem?_eq_getElem (by simp; omega)⟩
  refine ops_cons rfl (ow_indexT (oL).sl eI_len rfl el22 rfl rfl rfl hy (by omega) ?_)
  refine ops_cons rfl (ow_loadT (oL).sl eI_len hy ti2 rfl rfl rfl ?_)
  refine ops_cons rfl (ow_fieldAddrB off47_0 rfl rfl ?_)
  refine ops_cons rfl (ow_storeB bE ti2 rfl rfl rfl rfl rfl rfl ?_)
  intro w30 bF hg29 z31
  replace hs := hs.grown hg29 (by intro g hg; injection hg; omega)
  replace b2 := b2.grown hg29 (by intro h; injection h; omega)
  replace oL := oL.grownBlk hg29 (Own.neT oL bE (by decide))
  replace b25 := b25.grown hg29 (by intro h; injection h; omega)
  replace X := gb_new X hg29 (by intro g hg; injection hg; omega)
  clear hg29 bE
  refine ops_nil ?_
  refine bq_n ?_
  refine tq_n ?_
  refine c_seqR ?_
  refine ops_cons rfl (ow_loadAB bF ti47 rfl rfl ?_)
  refine ops_cons rfl (ow_storeB b2 ti47 rfl rfl rfl rfl rfl rfl ?_)
  intro w33 b3 hg32 z34
  replace hs := hs.grown hg32 (by intro g hg; injection hg; omega)
  replace oL := oL.grownBlk hg32 (Own.neT oL b2 (by decide))
  replace b25 := b25.grown hg32 (by intro h; injection h; omega)
  replace bF := bF.grown hg32 (by intro h; injection h; omega)
  replace X := gb_new X hg32 (by intro g hg; injection hg; omega)
  clear hg32 b2
  refine ops_nil ?_
  refine c_ret ?_
  refine fin_cell1 rfl rfl b3 ti47 rfl ?_
  exact ⟨⟨_, _, _, _, _⟩, _, _, desc_agg _ _ _ _ _, trivial, ok, b25, X⟩
  refine c_seqR ?_
  refine ops_cons rfl (ow_eql rfl rfl ?_)
  refine ops_cons rfl (ow_assign rfl ?_)
  refine ops_nil ?_
  refine c_split rfl (fun h35 => ?_) (fun h35 => ?_)
  refine c_region ?_
  refine ops_cons rfl (ow_move rfl ?_)
  refine ops_cons rfl (ow_call ent63 rfl (ret_mono (l01Next_c _ _ _ _ _ _ _ _ _ b15 hs hB ok hbl (by omega)) ?_))
  rintro _ w37 ⟨r39, a40, sd41, rfl, hr42, ok, b38, x36⟩
  replace hs := hs.grown x36 (by intro g hg; injection hg; omega)
  replace b2 := b2.grown x36 (by intro h; injection h; omega)
  replace bE := bE.grown x36 (by intro h; injection h; omega)
  replace X := gb_trans X x36
  clear x36 b15
  refine ops_cons rfl (ow_sub rfl rfl (w64 (by omega)) ?_)
  refine ops_cons rfl (ow_fieldAddrB off47_1 rfl rfl ?_)
  refine ops_cons rfl (ow_storeB bE ti2 rfl rfl rfl rfl rfl rfl ?_)
  intro w44 bF hg43 z45
  replace hs := hs.grown hg43 (by intro g hg; injection hg; omega)
  replace b2 := b2.grown hg43 (by intro h; injection h; omega)
  replace b38 := b38.grown hg43 (by intro h; injection h; omega)
  replace X := gb_new X hg43 (by intro g hg; injection hg; omega)
  clear hg43 bE
  refine ops_nil ?_
  refine bq_n ?_
  refine tq_n ?_
  refine c_seqR ?_
  refine ops_cons rfl (ow_loadAB bF ti47 rfl rfl ?_)
  refine ops_cons rfl (ow_storeB b2 ti47 rfl rfl rfl rfl rfl rfl ?_)
  intro w47 b3 hg46 z48
  replace hs := hs.grown hg46 (by intro g hg; injection hg; omega)
  replace b38 := b38.grown hg46 (by intro h; injection h; omega)
  replace bF := bF.grown hg46 (by intro h; injection h; omega)
  replace X := gb_new X hg46 (by intro g hg; injection hg; omega)
  clear hg46 b2
  refine ops_nil ?_
  refine c_ret ?_
  refine fin_cell1 rfl rfl b3 ti47 rfl ?_
  exact ⟨⟨_, _, _, _, _⟩, _, _, desc_agg _ _ _ _ _, trivial, ok, b38, X⟩
  refine c_seqR ?_
  refine ops_cons rfl (ow_eql rfl rfl ?_)
  refine ops_cons rfl (ow_assign rfl ?_)
  refine ops_nil ?_
  refine c_split rfl (fun h49 => ?_) (fun h49 => ?_)
  refine c_region ?_
  refine ops_cons rfl (ow_buildSlice el22 ti2 rfl rfl rfl rfl rfl ?_)
  intro g50 w52 eg50 oL bbg50 x51 zg50
  replace oL := Own.low oL X.size
  replace hs := hs.ext x51
  replace b2 := b2.ext x51
  replace bE := bE.ext x51
  replace b15 := b15.ext x51
  replace X := gb_ext X x51; clear x51
  replace oL := oL.to (cs' := ([-1, 0, 32, 33] : List Int).flatMap eI) rfl
  refine ops_cons rfl (ow_move rfl ?_)
  refine ops_cons rfl (ow_call ent63 rfl (ret_mono (l01Next_c _ _ _ _ _ _ _ _ _ b15 hs hB ok hbl (by omega)) ?_))
  rintro _ w54 ⟨rr, a56, sd57, rfl, hr58, ok, b55, x53⟩
  replace hs := hs.grown x53 (by intro g hg; injection hg; omega)
  replace b2 := b2.grown x53 (by intro h; injection h; omega)
  replace bE := bE.grown x53 (by intro h; injection h; omega)
  replace oL := oL.grownBlk x53 (Own.neT oL b15 (by decide))
  replace X := gb_trans X x53
  clear x53 b15
  obtain ⟨y, hy⟩ : ∃ y, ([-1, 0, 32, 33] : List Int)[rr.toNat]? = some y := ⟨_, List.getElem?_eq_getElem (by simp; omega)⟩
  refine ops_cons rfl (ow_indexT (oL).sl eI_len rfl el22 rfl rfl rfl hy (by omega) ?_)
  refine ops_cons rfl (ow_loadT (oL).sl eI_len hy ti2 rfl rfl rfl ?_)
  refine ops_cons rfl (ow_fieldAddrB off47_2 rfl rfl ?_)
  refine ops_cons rfl (ow_storeB bE ti2 rfl rfl rfl rfl rfl rfl ?_)
  intro w60 bF hg59 z61
  replace hs := hs.grown hg59 (by intro g hg; injection hg; omega)
  replace b2 := b2.grown hg59 (by intro h; injection h; omega)
  replace oL := oL.grownBlk hg59 (Own.neT oL bE (by decide))
  replace b55 := b55.grown hg59 (by intro h; injection h; omega)
  replace X := gb_new X hg59 (by intro g hg; injection hg; omega)
  clear hg59 bE
  refine ops_nil ?_
  refine bq_n ?_
  refine tq_n ?_
  refine c_seqR ?_
  refine ops_cons rfl (ow_loadAB bF ti47 rfl rfl ?_)
  refine ops_cons rfl (ow_storeB b2 ti47 rfl rfl rfl rfl rfl rfl ?_)
  intro w63 b3 hg62 z64
  replace hs := hs.grown hg62 (by intro g hg; injection hg; omega)
  replace oL := oL.grownBlk hg62 (Own.neT oL b2 (by decide))
  replace b55 := b55.grown hg62 (by intro h; injection h; omega)
  replace bF := bF.grown hg62 (by intro h; injection h; omega)
  replace X := gb_new X hg62 (by intro g hg; injection hg; omega)
  clear hg62 b2
  refine ops_nil ?_
  refine c_ret ?_
  refine fin_cell1 rfl rfl b3 ti47 rfl ?_
  exact ⟨⟨_, _, _, _, _⟩, _, _, desc_agg _ _ _ _ _, trivial, ok, b55, X⟩
  refine c_seqR ?_
  refine ops_cons rfl (ow_eql rfl rfl ?_)
  refine ops_cons rfl (ow_assign rfl ?_)
  refine ops_nil ?_
  refine c_split rfl (fun h65 => ?_) (fun h65 => ?_)
  refine c_region ?_
  refine ops_cons rfl (ow_fieldAddrB off47_1 rfl rfl ?_)
  refine ops_cons rfl (ow_loadB bE ti2 rfl rfl ?_)
  refine ops_cons rfl (ow_fieldAddrB off47_2 rfl rfl ?_)
  refine ops_cons rfl (ow_loadB bE ti2 rfl rfl ?_)
  have hcs := cellsS_in d.kind (z := d.size) (by omega)
  refine ops_cons rfl (ow_call ent89 rfl (ret_mono (l08Cells_c _ _ _ (by omega)) ?_))
  rintro _ w67 ⟨rfl, x66⟩
  replace hs := hs.ext x66
  replace b2 := b2.ext x66
  replace bE := bE.ext x66
  replace b15 := b15.ext x66
  replace X := gb_ext X x66; clear x66
  refine ops_cons rfl (ow_add rfl rfl (w64 (by omega)) ?_)
  refine ops_cons rfl (ow_sub rfl rfl (w64 (by omega)) ?_)
  refine ops_cons rfl (ow_buildSlice el22 ti2 rfl rfl rfl rfl rfl ?_)
  intro g68 w70 eg68 oL bbg68 x69 zg68
  replace oL := Own.low oL X.size
  replace hs := hs.ext x69
  replace b2 := b2.ext x69
  replace bE := bE.ext x69
  replace b15 := b15.ext x69
  replace X := gb_ext X x69; clear x69
  replace oL := oL.to (cs' := ([0, cellsS d.kind d.size + 20 - 1, 1000, 1001] : List Int).flatMap eI) rfl
  refine ops_cons rfl (ow_move rfl ?_)
  refine ops_cons rfl (ow_call ent63 rfl (ret_mono (l01Next_c _ _ _ _ _ _ _ _ _ b15 hs hB ok hbl (by omega)) ?_))
  rintro _ w72 ⟨rr, a74, sd75, rfl, hr76, ok, b73, x71⟩
  replace hs := hs.grown x71 (by intro g hg; injection hg; omega)
  replace b2 := b2.grown x71 (by intro h; injection h; omega)
  replace bE := bE.grown x71 (by intro h; injection h; omega)
  replace oL := oL.grownBlk x71 (Own.neT oL b15 (by decide))
  replace X := gb_trans X x71
  clear x71 b15
  obtain ⟨y, hy⟩ : ∃ y, ([0, cellsS d.kind d.size + 20 - 1, 1000, 1001] : List Int)[rr.toNat]? = some y := ⟨_, List.getElem?_eq_getElem (by simp; omega)⟩
  refine ops_cons rfl (ow_indexT (oL).sl eI_len rfl el22 rfl rfl rfl hy (by omega) ?_)
  refine ops_cons rfl (ow_loadT (oL).sl eI_len hy ti2 rfl rfl rfl ?_)
  refine ops_cons rfl (ow_fieldAddrB off47_3 rfl rfl ?_)
  refine ops_cons rfl (ow_storeB bE ti2 rfl rfl rfl rfl rfl rfl ?_)
  intro w78 bF hg77 z79
  replace hs := hs.grown hg77 (by intro g hg; injection hg; omega)
  replace b2 := b2.grown hg77 (by intro h; injection h; omega)
  replace oL := oL.grownBlk hg77 (Own.neT oL bE (by decide))
  replace b73 := b73.grown hg77 (by intro h; injection h; omega)
  replace X := gb_new X hg77 (by intro g hg; injection hg; omega)
  clear hg77 bE
  refine ops_nil ?_
  refine bq_n ?_
  refine tq_n ?_
  refine c_seqR ?_
  refine ops_cons rfl (ow_loadAB bF ti47 rfl rfl ?_)
  refine ops_cons rfl (ow_storeB b2 ti47 rfl rfl rfl rfl rfl rfl ?_)
  intro w81 b3 hg80 z82
  replace hs := hs.grown hg80 (by intro g hg; injection hg; omega)
  replace oL := oL.grownBlk hg80 (Own.neT oL b2 (by decide))
  replace b73 := b73.grown hg80 (by intro h; injection h; omega)
  replace bF := bF.grown hg80 (by intro h; injection h; omega)
  replace X := gb_new X hg80 (by intro g hg; injection hg; omega)
  clear hg80 b2
  refine ops_nil ?_
  refine c_ret ?_
  refine fin_cell1 rfl rfl b3 ti47 rfl ?_
  exact ⟨⟨_, _, _, _, _⟩, _, _, desc_agg _ _ _ _ _, trivial, ok, b73, X⟩
  refine c_seqR ?_
  refine ops_cons rfl (ow_eql rfl rfl ?_)
  refine ops_cons rfl (ow_assign rfl ?_)
  refine ops_nil ?_
  refine c_split rfl (fun h83 => ?_) (fun h83 => ?_)
  refine c_region ?_
  refine ops_cons rfl (ow_fieldAddrB off47_4 rfl rfl ?_)
  refine ops_cons rfl (ow_loadB bE ti4 rfl rfl ?_)
  refine ops_cons rfl (ow_not rfl ?_)
  refine ops_cons rfl (ow_fieldAddrB off47_4 rfl rfl ?_)
  refine ops_cons rfl (ow_storeB bE ti4 rfl rfl rfl rfl rfl rfl ?_)
  intro w85 bF hg84 z86
  replace hs := hs.grown hg84 (by intro g hg; injection hg; omega)
  replace b2 := b2.grown hg84 (by intro h; injection h; omega)
  replace b15 := b15.grown hg84 (by intro h; injection h; omega)
  replace X := gb_new X hg84 (by intro g hg; injection hg; omega)
  clear hg84 bE
  refine ops_nil ?_
  refine bq_n ?_
  refine tq_n ?_
  refine c_seqR ?_
  refine ops_cons rfl (ow_loadAB bF ti47 rfl rfl ?_)
  refine ops_cons rfl (ow_storeB b2 ti47 rfl rfl rfl rfl rfl rfl ?_)
  intro w88 b3 hg87 z89
  replace hs := hs.grown hg87 (by intro g hg; injection hg; omega)
  replace b15 := b15.grown hg87 (by intro h; injection h; omega)
  replace bF := bF.grown hg87 (by intro h; injection h; omega)
  replace X := gb_new X hg87 (by intro g hg; injection hg; omega)
  clear hg87 b2
  refine ops_nil ?_
  refine c_ret ?_
  refine fin_cell1 rfl rfl b3 ti47 rfl ?_
  exact ⟨⟨_, _, _, _, _⟩, _, _, desc_agg _ _ _ _ _, trivial, ok, b15, X⟩
  refine c_skip ?_
  refine bq_n ?_
  refine tq_n ?_
  refine c_seqR ?_
  refine ops_cons rfl (ow_loadAB bE ti47 rfl rfl ?_)
  refine ops_cons rfl (ow_storeB b2 ti47 rfl rfl rfl rfl rfl rfl ?_)
  intro w91 b3 hg90 z92
  replace hs := hs.grown hg90 (by intro g hg; injection hg; omega)
  replace bE := bE.grown hg90 (by intro h; injection h; omega)
  replace b15 := b15.grown hg90 (by intro h; injection h; omega)
  replace X := gb_new X hg90 (by intro g hg; injection hg; omega)
  clear hg90 b2
  refine ops_nil ?_
  refine c_ret ?_
  refine fin_cell1 rfl rfl b3 ti47 rfl ?_
  exact ⟨⟨_, _, _, _, _⟩, _, _, desc_agg _ _ _ _ _, trivial, ok, b15, X⟩
end Go.Proofs.Ytdoibplhbdkapaa
