/- Texts of the seat that a law needs, put together. No condition. -/
import Derived.Test.YtdoibplhbdkapaaCJP3
import Derived.RangeFuncFrom
import Derived.RangeFuncBox
import Derived.RangeFuncLeaves
import Derived.RangeFuncCalls
import Derived.TacticsIn
import Derived.RangeFuncBound
import Derived.Test.YtdoibplhbdkapaaCJP2
import Derived.Laws.StructEq
namespace Go.Proofs.Ytdoibplhbdkapaa
open Go.RowKit
set_option linter.unusedVariables false
set_option linter.unusedSimpArgs false
/-- a fence that bars nothing -/
def WideF (F : Fence) : Prop := F = Fence.wide ∨ ∃ l, F = Fence.wide.inRound l
theorem WideF.w : WideF Fence.wide := .inl rfl
theorem WideF.r (l : Nat) : WideF (Fence.wide.inRound l) := .inr ⟨l, rfl⟩
theorem callsW {F : Fence} (hF : WideF F) {m : Nat} {P : Program} {f : FuncId} {args : Array Value} {w : World} {R : Ending → World → Prop} (h : Calls P f args w R) : CallsIn F m P f args w R := by
  rcases hF with rfl | ⟨l, rfl⟩
  · exact callsIn_wide.2 h
  · exact CallsIn.inRound l (callsIn_wide.2 h)
theorem WideF.fn {F : Fence} (hF : WideF F) (f : FuncId) : F.fn f := by
  rcases hF with rfl | ⟨l, rfl⟩ <;> trivial
theorem WideF.deep {F : Fence} (hF : WideF F) (m : Nat) : F.depth.isSome = true → 1 ≤ m := by
  rcases hF with rfl | ⟨l, rfl⟩ <;> (intro h; cases h)
def noDef : Op → Bool
  | .defer _ => false
  | _ => true
theorem noDef_spec {op : Op} (h : noDef op = true) : ∀ c, op ≠ .defer c := fun c e => by subst e; cases h
def FitsD (D : List Deferred) (n : Nat) (e : List (Nat × Value)) (a : Act) : Prop := a.defers = D ∧ a.tmps.size = n ∧ ∀ t v, lk e t = some v → a.tmps.getD t undef = v
theorem FitsD.fits {D : List Deferred} {n : Nat} {e : List (Nat × Value)} {a : Act} (h : FitsD D n e a) : Fits n e { a with defers := [] } := ⟨rfl, h.2.1, h.2.2⟩
theorem FitsD.knows {D : List Deferred} {n : Nat} {e : List (Nat × Value)} {a : Act} (h : FitsD D n e a) : Knows e a.eval := h.fits.knows
theorem FitsD.put {D : List Deferred} {n : Nat} {e : List (Nat × Value)} {a : Act} (h : FitsD D n e a) (d : Option Tmp) (v : Value) (hd : dstOk n d = true) : FitsD D n (updO e d v) (a.put d v) := by
  have h1 := h.fits.put d v hd
  have h2 : ({ a with defers := [] } : Act).put d v = { a.put d v with defers := [] } := by cases d <;> rfl
  have h3 : (a.put d v).defers = a.defers := by cases d <;> rfl
  rw [h2] at h1
  exact ⟨h3.trans h.1, h1.2.1, h1.2.2⟩
section
variable {F : Fence} {m : Nat} {P : Program} {n : Nat} {D : List Deferred} {ops : Array Oper} {rest : List Oper} {e : List (Nat × Value)} {w : World} {K : List (Nat × Value) → World → Prop}
theorem wpIn_of_upto (hF : WideF F) {o : Oper} {a : Act} {w : World} {K : Value → World → Prop} {next : Act → World → Prop} {Q : Exit → Act → World → Prop} (hd : ∀ c, o.op ≠ .defer c)
    (h : upto P K ((execOp a.eval o).run P w)) (hk : ∀ v w', K v w' → next (a.put o.dst v) w') : o.wpIn F m P a w next Q := by
  refine ⟨fun f _ => hF.fn f, ?_⟩
  rw [Oper.semAt_eq _ _ _ hd]
  generalize (execOp a.eval o).run P w = r at *
  cases r with
  | halt x w => exact h.elim
  | ok n w =>
    cases n <;> simp only [upto] at h <;> simp only [Oper.uponIn] <;> first
      | exact hk _ _ h
      | exact ⟨hF.deep m, callsW hF (Calls.mono h (fun e w'' he => by cases e <;> first | exact hk _ _ he | exact he.elim))⟩
def OpsF (F : Fence) (m : Nat) (P : Program) (n : Nat) (D : List Deferred) (ops : Array Oper) (l : List Oper) (e : List (Nat × Value)) (w : World) (K : List (Nat × Value) → World → Prop) : Prop :=
  ∀ (a : Act) (Q : Exit → Act → World → Prop), FitsD D n e a → (∀ e' a' w', FitsD D n e' a' → K e' w' → Q .normal a' w') → wpListIn F m P ops Q l a w
theorem opsF_nil (h : K e w) : OpsF F m P n D ops [] e w K := fun _ _ ha hK => wpListIn_nil (hK _ _ _ ha h)
theorem opsF_cons (hF : WideF F) {dst : Option Tmp} {op : Op} {ty : TypeId} {pos : String} {af : Array Edge} (hd : dstOk n dst = true) (hn : noDef op = true)
    (h : OpWp P e op ty w fun v w' => OpsF F m P n D ops rest (updO e dst v) w' K) : OpsF F m P n D ops (⟨dst, op, ty, pos, af, none⟩ :: rest) e w K :=
  fun a Q ha hK => wpListIn_plain rfl fun K' hK' => wpIn_of_upto hF (o := ⟨dst, op, ty, pos, af, none⟩) (noDef_spec hn) (h a.eval dst pos af none ha.knows) fun v w' hv => hK' _ _ (hv _ Q (ha.put dst v hd) hK)
/-- a call of yield -/
theorem opsF_yield (hF : WideF F) {dst : Option Tmp} {x : Operand} {args : Array Operand} {ts : Array TypeId} {vs : List Value} {l : Nat} {ty : TypeId} {pos : String} {af : Array Edge} (hd : dstOk n dst = true)
    (hx : evO e x = some (.func (.yield l) #[] #[])) (hy : argsO e args.toList = some vs)
    (h : YieldAt F (m - 1) P l vs.toArray w fun en w' => ∃ v, en = .returned v ∧ OpsF F m P n D ops rest (updO e dst v) w' K) : OpsF F m P n D ops (⟨dst, .call ⟨.value x, args, ts⟩, ty, pos, af, none⟩ :: rest) e w K :=
  fun a Q ha hK => wpListIn_plain rfl fun K' hK' => by
    have h1 : args.map a.eval = vs.toArray := Array.ext' (by simpa using argsO_spec ha.knows _ _ hy)
    have h2 := ha.knows _ _ hx
    obtain ⟨fn, tmps, assign, body, hy, hR⟩ := h
    refine ⟨fun f _ => hF.fn f, ?_⟩
    rw [Oper.semAt_eq _ _ _ (fun c h => by cases h)]
    have hr : (execOp a.eval ⟨dst, .call ⟨.value x, args, ts⟩, ty, pos, af, none⟩).run P w = .ok (.round l fn tmps assign body) w := by
      simp only [execOp, resolve, h1, h2, Deferred.ofValue, invoke]
      simp only [Sem.run_bind, Sem.run_pure, Result.andThen_ok, Array.append_empty, Array.empty_append]
      exact hy
    rw [hr, Oper.uponIn_round]
    refine ⟨hF.deep m, hR.mono ?_⟩
    rintro en w' ⟨v, rfl, hv⟩
    exact hK' _ _ (hv _ Q (ha.put dst v hd) hK)
end
section
variable {m : Nat} {P : Program} {n : Nat} {e : List (Nat × Value)} {w : World} {Q : Exit → List (Nat × Value) → World → Prop}
theorem c_regF (m : Nat) {id : Nat} {l : List Oper} (h : OpsF Fence.wide m P n [] l.toArray l e w (fun e' w' => Q .normal e' w')) : CWp P n (.region id l.toArray false) e w Q :=
  fun a ha => (wpIn_wide (n := m)).1 (wpIn_region_lit (h a _ ha fun e' _ _ hf hk => ⟨e', hf, hk⟩))
theorem c_seqF (m : Nat) {id : Nat} {l : List Oper} {y : Code} (h : OpsF Fence.wide m P n [] l.toArray l e w (fun e' w' => CWp P n y e' w' Q)) : CWp P n (.seq (.region id l.toArray false) y) e w Q := c_seq (c_regF m h)
end
theorem gb_of_ext {w w' : World} (h : Ext w w') : w.grownBy w' none := ⟨h.os, h.tape, h.output, h.size, fun k hk _ => h.block k hk⟩
theorem abides_ext {β : Type} {B : Nat} {J : β → World → Prop} (hJ : AbidesFrom B J) {s : β} {w w' : World} (h : J s w) (x : Ext w w') : J s w' := hJ s w w' none h (gb_of_ext x) (fun r e => by cases e)
section
variable {P : Program} {e : List (Nat × Value)} {ty : TypeId} {w : World} {K : Value → World → Prop} {x lo hi mx : Operand} {t el : TypeId} {s n c l h : Nat} {A : Option Addr} {k1 k2 k3 : IntKind} {m1 m2 m3 : Int}
theorem ow_sliceLX (ht : elO P t = some (el, s)) (hx : evO e x = some (.slice A n c)) (h1 : evO e lo = some (.int k1 m1)) (e1 : m1 = (l : Int)) (hl : l ≤ n) (hK : K (.slice (if c = l then A else A.map (·.add (l * s))) (n - l) (c - l)) w) : OpWp P e (.slice t x (some lo) none none) ty w K := fun ρ d p a g hρ => by
  have g0 := hρ _ _ hx; have g1 := hρ _ _ h1
  obtain ⟨hu, hsz⟩ := elem_of ht
  subst e1
  have hr := run_slice_l (P := P) (w := w) t A n c hu k1 (l : Int) (by omega) (by omega)
  simp only [execOp, g0, Option.map_some, Option.map_none, g1, Sem.run_bind, run_sliceAt_slice w t _ _ _ _ hu, hr, hsz, Result.andThen_ok, Sem.run_pure, upto, sliced, Int.toNat_natCast]
  exact hK
theorem ow_sliceLHM (ht : elO P t = some (el, 1)) (hx : evO e x = some (.slice A n c)) (h1 : evO e lo = some (.int k1 m1)) (h2 : evO e hi = some (.int k2 m2)) (h3 : evO e mx = some (.int k3 m3)) (e1 : m1 = (l : Int)) (e2 : m2 = (h : Int)) (e3 : m3 = (h : Int)) (hlh : l < h) (hc : h ≤ c)
    (hK : K (.slice (A.map (·.add l)) (h - l) (h - l)) w) : OpWp P e (.slice t x (some lo) (some hi) (some mx)) ty w K := fun ρ d p a g hρ => by
  have g0 := hρ _ _ hx; have g1 := hρ _ _ h1; have g2 := hρ _ _ h2; have g3 := hρ _ _ h3
  obtain ⟨hu, hsz⟩ := elem_of ht
  subst e1; subst e2; subst e3
  have hr := run_slice_lhm (P := P) (w := w) t A n c hu k1 k2 k3 (l : Int) (h : Int) (h : Int) (by omega) (by omega) (by omega) (by omega)
  simp only [execOp, g0, Option.map_some, Option.map_none, g1, g2, g3, Sem.run_bind, run_sliceAt_slice w t _ _ _ _ hu, hr, hsz, Result.andThen_ok, Sem.run_pure, upto, sliced, Int.toNat_natCast]
  rw [if_neg (by omega), Nat.mul_one]
  exact hK
end
/-- an invariant of the rounds, carried by the iterator -/
def JK {β : Type} (J : β → World → Prop) (B : Nat) (s : β) (w : World) : Prop := AbidesFrom B J ∧ J s w
theorem JK.ext {β : Type} {J : β → World → Prop} {B : Nat} {s : β} {w w' : World} (h : JK J B s w) (x : Ext w w') : JK J B s w' := ⟨h.1, abides_ext h.1 h.2 x⟩
theorem yield_two {en : Ending} {A B : Prop} (h : (en = .returned (.bool true) ∧ A) ∨ (en = .returned (.bool false) ∧ B)) : ∃ b, en = .returned (.bool b) ∧ (b = true → A) ∧ (b = false → B) := by
  rcases h with ⟨h, a⟩ | ⟨h, b⟩
  · exact ⟨true, h, (fun _ => a), (fun h => by cases h)⟩
  · exact ⟨false, h, (fun h => by cases h), (fun _ => b)⟩
end Go.Proofs.Ytdoibplhbdkapaa
namespace Go.Proofs.Ytdoibplhbdkapaa
open Go.RowKit
set_option linter.unusedVariables false
set_option linter.unusedSimpArgs false
set_option maxRecDepth 20000
/-- a row of rows: an entry is held as a mode with its list alone -/
def rowC (x : ModeI) : List Value := [.slice x.A x.m.next.length x.c]
theorem rowC_len (x : ModeI) : (rowC x).length = 1 := rfl
def rowI (A : Option Addr) (c : Nat) (xs : List Int) : ModeI := ⟨⟨0, 0, xs⟩, A, c⟩
end Go.Proofs.Ytdoibplhbdkapaa
namespace Go.Proofs.Ytdoibplhbdkapaa
open Go.RowKit
set_option linter.unusedVariables false
set_option linter.unusedSimpArgs false
set_option maxRecDepth 20000
def chA (A : Option Addr) (l : Nat) : Option Addr := A.map (·.add l)
def chPart (A : Option Addr) (d : Nat) (xs : List Int) (k : Nat) : ModeI := rowI (chA A (d * k)) (min d (xs.length - d * k)) ((xs.drop (d * k)).take d)
def chs (A : Option Addr) (d : Nat) (xs : List Int) (m : Nat) : List ModeI := (List.range m).map (chPart A d xs)
def cN (d n : Nat) : Nat := (n + d - 1) / d
theorem chs_succ (A : Option Addr) (d : Nat) (xs : List Int) (k : Nat) : chs A d xs (k + 1) = chs A d xs k ++ [chPart A d xs k] := by simp [chs, List.range_succ]
theorem chs_len (A : Option Addr) (d : Nat) (xs : List Int) (k : Nat) : (chs A d xs k).length = k := by simp [chs]
theorem chPart_len (A : Option Addr) (d : Nat) (xs : List Int) (k : Nat) : (chPart A d xs k).m.next.length = min d (xs.length - d * k) := by simp [chPart, rowI]
theorem cN_lt {d n k : Nat} (hd : 1 ≤ d) : k < cN d n ↔ d * k < n := by
  unfold cN
  rw [Nat.lt_div_iff_mul_lt (by omega), Nat.mul_comm k d]; omega
theorem cN_end {d n k : Nat} (hd : 1 ≤ d) (h1 : k ≤ cN d n) (h2 : ¬ d * k < n) : k = cN d n := by
  have h3 : ¬ k < cN d n := fun h => h2 ((cN_lt hd).1 h)
  omega
theorem cN_le {d n : Nat} (hd : 1 ≤ d) : cN d n ≤ n := by
  rcases Nat.eq_zero_or_pos (cN d n) with h | h
  · omega
  · have h1 := (cN_lt (d := d) (n := n) (k := cN d n - 1) hd).1 (by omega)
    have h2 : cN d n - 1 ≤ d * (cN d n - 1) := Nat.le_mul_of_pos_left _ (by omega)
    omega
theorem chunk1_c (l n0 gs gn d c : Nat) (A : Option Addr) (xs : List Int) (J Jx : List ModeI → World → Prop) (w : World) (q1 : Blk w gs 22 [.slice A xs.length c]) (q2 : Blk w gn 3 [.int .i64 (d : Nat)]) (hj : JK J w.heap.size [] w) (hlo : n0 ≤ w.heap.size) (hgs : gs < n0) (hgn : gn < n0) (hd : 1 ≤ d ∧ d ≤ 1000) (hl : xs.length ≤ 1048576) (hc : xs.length ≤ c) (hY : ∀ pre x W1, J pre W1 → pre.length < cN d xs.length → YieldAt Fence.wide 0 Try.prog l #[Value.slice (ModeI.A x) (ModeI.m x).next.length (ModeI.c x)] W1 fun e W' => (e = .returned (.bool true) ∧ J (pre ++ [x]) W' ∧ Below n0 W1 W') ∨ (e = .returned (.bool false) ∧ Jx (pre ++ [x]) W')) :
    Calls Try.prog 100 #[.func (.yield l) #[] #[], .pointer (some ⟨gs, 0, none⟩), .pointer (some ⟨gn, 0, none⟩)] w (Ret fun v w' => J (chs A d xs (cN d xs.length)) w' ∨ ∃ pre, Jx pre w') := by
  have X := Below.refl n0 w
  refine calls_of (args := [.func (.yield l) #[] #[], .pointer (some ⟨gs, 0, none⟩), .pointer (some ⟨gn, 0, none⟩)]) Try.func100 Try.ntmps100 rfl rfl ?_
  refine c_seqR ?_
  refine ops_cons rfl (ow_assign rfl ?_)
  refine ops_nil ?_
  refine c_block ?_
  refine c_loop (G := Nat × Nat) (fun ⟨k, i⟩ => [(0, .func (.yield l) #[] #[]), (1, .pointer (some ⟨gs, 0, none⟩)), (2, .pointer (some ⟨gn, 0, none⟩)), (4, .int .i64 (i : Nat))]) (fun ⟨k, i⟩ wr => i = d * k ∧ k ≤ cN d xs.length ∧ JK J w.heap.size (chs A d xs k) wr ∧ Blk wr gs 22 [.slice A xs.length c] ∧ Blk wr gn 3 [.int .i64 (d : Nat)] ∧ Below n0 w wr) (fun ⟨k, i⟩ => cN d xs.length - k) (0, 0) (.cons rfl (.cons rfl (.cons rfl (.cons rfl (.nil _))))) ?_ ?_
  · exact ⟨rfl, (Nat.zero_le _), hj, q1, q2, X⟩
  clear q1 q2 hj
  clear X
  rintro ⟨k, i⟩ wr ⟨hik, hkN, hj, q1, q2, X⟩
  refine c_seq ?_
  refine c_seqR ?_
  refine ops_cons rfl (ow_move rfl ?_)
  refine ops_cons rfl (ow_loadB q1 ti22 rfl rfl ?_)
  refine ops_cons rfl (ow_len Try.underlying22 rfl ?_)
  refine ops_cons rfl (ow_lss2 rfl rfl (fun hk => ?_) (fun hk => ?_))
  refine ops_nil ?_
  refine c_true rfl ?_
  refine c_skip ?_
  refine tq_n ?_
  refine c_seq ?_
  refine c_block ?_
  refine c_seqD [false, false, false, false, false, false, false] mixed (by kernel_rfl) ?_
  refine f_q rfl (fun wq sq => ow_loadB (q2.ext sq) ti3 rfl rfl ⟨rfl, Ext.refl _⟩) ?_
  refine f_q rfl (fun wq sq => ow_loadB (q1.ext sq) ti22 rfl rfl ⟨rfl, Ext.refl _⟩) ?_
  refine f_q rfl (fun wq sq => ow_move rfl ⟨rfl, Ext.refl _⟩) ?_
  refine f_q rfl (fun wq sq => ow_sliceLX (l := i) el22 rfl rfl rfl (by omega) ⟨rfl, Ext.refl _⟩) ?_
  refine f_q rfl (fun wq sq => ow_len Try.underlying22 rfl ⟨rfl, Ext.refl _⟩) ?_
  refine f_q rfl (fun wq sq => ow_min rfl rfl ⟨rfl, Ext.refl _⟩) ?_
  refine f_q rfl (fun wq sq => ow_assign rfl ⟨rfl, Ext.refl _⟩) ?_
  refine f_nil (fun w1 sq => ?_)
  have xq := sq
  replace hj := hj.ext xq
  replace q1 := q1.ext xq
  replace q2 := q2.ext xq
  replace X := Below.trans X (Below.mono xq (Nat.le_trans hlo X.size)); clear xq sq
  refine ops_nil ?_
  refine c_seqF 1 ?_
  refine opsF_cons WideF.w rfl rfl (ow_move rfl ?_)
  refine opsF_cons WideF.w rfl rfl (ow_loadB q1 ti22 rfl rfl ?_)
  refine opsF_cons WideF.w rfl rfl (ow_move rfl ?_)
  refine opsF_cons WideF.w rfl rfl (ow_move rfl ?_)
  refine opsF_cons WideF.w rfl rfl (ow_move rfl ?_)
  refine opsF_cons WideF.w rfl rfl (ow_add rfl rfl (show IntKind.i64.wrap _ = ((i + min d (xs.length - i) : Nat) : Int) from (w64 (by omega)).trans (by omega)) ?_)
  refine opsF_cons WideF.w rfl rfl (ow_move rfl ?_)
  refine opsF_cons WideF.w rfl rfl (ow_move rfl ?_)
  refine opsF_cons WideF.w rfl rfl (ow_add rfl rfl (show IntKind.i64.wrap _ = ((i + min d (xs.length - i) : Nat) : Int) from (w64 (by omega)).trans (by omega)) ?_)
  refine opsF_cons WideF.w rfl rfl (ow_sliceLHM (l := i) (h := i + min d (xs.length - i)) el22 rfl rfl rfl rfl rfl rfl rfl (by omega) (by omega) ?_)
  refine opsF_yield WideF.w rfl rfl rfl ?_
  have hck := (cN_lt (n := xs.length) (k := k) hd.1).2 (by rw [← hik]; omega)
  have hpl := chPart_len A d xs k
  rw [← hik] at hpl
  have hyy := hY _ (chPart A d xs k) _ hj.2 (by rw [chs_len]; exact hck)
  rw [hpl] at hyy
  rw [show i + min d (xs.length - i) - i = min d (xs.length - i) by omega]
  have eP : (chPart A d xs k).A = A.map (·.add i) ∧ (chPart A d xs k).c = min d (xs.length - i) := ⟨by rw [hik]; rfl, by rw [hik]; rfl⟩
  rw [eP.1, eP.2] at hyy
  refine hyy.mono ?_
  intro en wY hyq
  obtain ⟨bq, rfl, hyT, hyF⟩ := yield_two hyq
  refine ⟨_, rfl, ?_⟩
  cases hbq : bq
  have hjx := hyF hbq
  refine opsF_cons WideF.w rfl rfl (ow_not rfl ?_)
  refine opsF_nil ?_
  refine c_true rfl ?_
  refine c_ret ?_
  refine bq_r ?_
  refine tq_r ?_
  refine tq_r ?_
  refine bq_r ?_
  refine fin_ret0 rfl ?_
  · skip
    first
    | exact .inr ⟨_, hjx⟩
    | (have e := cN_end hd.1 hkN (by rw [← hik]; omega)
       rw [← e]; exact .inl hj.2)
  obtain ⟨hj2, hbl⟩ := hyT hbq
  replace q1 := q1.below hbl hgs
  replace q2 := q2.below hbl hgn
  replace X := Below.trans X hbl
  replace hj : JK J w.heap.size (chs A d xs (k + 1)) wY := ⟨hj.1, by rw [chs_succ]; exact hj2⟩
  refine opsF_cons WideF.w rfl rfl (ow_not rfl ?_)
  refine opsF_nil ?_
  refine c_false rfl ?_
  refine c_skip ?_
  refine bq_n ?_
  refine tq_n ?_
  refine c_region ?_
  refine ops_cons rfl (ow_move rfl ?_)
  refine ops_cons rfl (ow_loadB q2 ti3 rfl rfl ?_)
  refine ops_cons rfl (ow_add rfl rfl (show IntKind.i64.wrap _ = ((i + d : Nat) : Int) from (w64 (by omega)).trans (by omega)) ?_)
  refine ops_cons rfl (ow_assign rfl ?_)
  refine ops_nil ?_
  refine tq_n ⟨(k + 1, i + d), (.cons rfl (.cons rfl (.cons rfl (.cons rfl (.nil _))))), ?_, ?_⟩
  · exact ⟨(by rw [Nat.mul_succ, ← hik]), (by omega), hj, q1, q2, X⟩
  · exact Nat.sub_lt_sub_left hck (Nat.lt_succ_self k)
  refine ops_nil ?_
  refine c_false rfl ?_
  refine c_exit ?_
  refine tq_e ?_
  refine tq_e ?_
  refine bq_e ?_
  refine fin_end0 rfl ?_
  · skip
    first
    | exact .inr ⟨_, hjx⟩
    | (have e := cN_end hd.1 hkN (by rw [← hik]; omega)
       rw [← e]; exact .inl hj.2)
end Go.Proofs.Ytdoibplhbdkapaa
namespace Go.Proofs.Ytdoibplhbdkapaa
open Go.RowKit
set_option linter.unusedVariables false
set_option linter.unusedSimpArgs false
set_option maxRecDepth 20000
theorem blk_nc {W W' : World} {g : Nat} {t : TypeId} {cs : List Value} {row : Option Nat} (h : Blk W g t cs) (hrow : ∀ r, row = some r → ∃ o : Obj, W.heap[r]? = some o ∧ o.isCells = false) : some g ≠ row := fun e => by
  obtain ⟨o, ho, hc⟩ := hrow g e.symm
  rw [show W.heap[g]? = _ from h] at ho
  cases ho; cases hc
theorem own_nc {W : World} {lo n c s : Nat} {t : TypeId} {A : Option Addr} {cs : List Value} {row : Option Nat} (h : Own W lo t s A n c cs) (hrow : ∀ r, row = some r → ∃ o : Obj, W.heap[r]? = some o ∧ o.isCells = false) : ∀ g, row = some g → (Value.slice A n c).ownBlock ≠ some g := fun g e e2 => by
  obtain ⟨o, ho, hc⟩ := hrow g e
  rcases h.2 with ⟨h1, _⟩ | ⟨g', cap, cur, h1, _, hg, _⟩
  · rw [h1] at e2; cases e2
  · rw [h1] at e2
    have e3 : g' = g := by simpa [Value.ownBlock] using e2
    subst e3
    rw [hg] at ho; cases ho; cases hc
theorem own_cells {W : World} {lo n c s : Nat} {t : TypeId} {A : Option Addr} {cs : List Value} (h : Own W lo t s A n c cs) : ∀ (j : Nat) (o : Obj), (Value.slice A n c).ownBlock = some j → W.heap[j]? = some o → o.isCells = true := fun j o e2 ho => by
  rcases h.2 with ⟨h1, _⟩ | ⟨g', cap, cur, h1, _, hg, _⟩
  · rw [h1] at e2; cases e2
  · rw [h1] at e2
    have e3 : g' = j := by simpa [Value.ownBlock] using e2
    subst e3
    rw [hg] at ho; cases ho; rfl
/-- what holds between two rounds -/
def ColI (n0 gb : Nat) (w : World) (s : List ModeI) (W : World) : Prop := (∃ A c, Blk W gb 68 [.slice A s.length c] ∧ Own W n0 22 1 A s.length c (s.flatMap rowC)) ∧ Below n0 w W
theorem colI_from {n0 gb B : Nat} {w : World} (hn : n0 ≤ w.heap.size) (hB : n0 ≤ B) : OwnFrom B (ColI n0 gb w) := fun s W W' row h hg hr => by
  obtain ⟨⟨A, c, h1, h2⟩, h3⟩ := h
  have hr2 : ∀ r, row = some r → ∃ o : Obj, W.heap[r]? = some o ∧ o.isCells = false := fun r e => (hr r e).2
  exact ⟨⟨A, c, h1.grown hg (blk_nc (W' := W') h1 hr2), h2.grown hg (own_nc h2 hr2)⟩, ownFrom_below hn hB s W W' row h3 hg hr⟩
theorem chunk_seq (n0 gs gn d c : Nat) (A : Option Addr) (xs : List Int) (w : World) (q1 : Blk w gs 22 [.slice A xs.length c]) (q2 : Blk w gn 3 [.int .i64 (d : Nat)]) (hn0 : n0 = w.heap.size) (hd : 1 ≤ d ∧ d ≤ 1000) (hl : xs.length ≤ 1048576) (hc : xs.length ≤ c) :
    SeqStopsK Fence.wide 1 Try.prog 100 #[.pointer (some ⟨gs, 0, none⟩), .pointer (some ⟨gn, 0, none⟩)] (fun x : ModeI => #[Value.slice x.A x.m.next.length x.c]) (Below n0) (fun ps => ps = chs A d xs (cN d xs.length)) (fun _ => True) (cN d xs.length) w := fun l J Jx W hW hJ hJx hY h0 => by
  have h1 := q1.lt
  have h2 := q2.lt
  refine callsW .w (Calls.mono (chunk1_c l n0 gs gn d c A xs J Jx W (q1.below hW h1) (q2.below hW h2) ⟨hJ, h0⟩ (by rw [hn0]; exact hW.size) (by omega) (by omega) hd hl hc hY) fun e W' h => ?_)
  cases e <;> first | exact h.elim | skip
  refine ⟨⟨_, rfl⟩, ?_⟩
  rcases h with h | ⟨pre, h⟩
  · exact .inl ⟨_, rfl, h⟩
  · exact .inr ⟨pre, trivial, h⟩
theorem one_row (x : ModeI) : ∀ u ∈ rowC x, u.oneCell' = true := fun u hu => by
  obtain rfl : u = _ := by simpa [rowC] using hu
  rfl
set_option maxHeartbeats 1000000 in
theorem appendSeq_c (gs gn d c : Nat) (A : Option Addr) (xs : List Int) (w : World) (q1 : Blk w gs 22 [.slice A xs.length c]) (q2 : Blk w gn 3 [.int .i64 (d : Nat)]) (hd : 1 ≤ d ∧ d ≤ 1000) (hl : xs.length ≤ 1048576) (hc : xs.length ≤ c) :
    Calls Try.prog 99 #[.slice none 0 0, .func (.func 100) #[] #[.pointer (some ⟨gs, 0, none⟩), .pointer (some ⟨gn, 0, none⟩)]] w
      (Ret fun v w' => ∃ A' c', v = .slice A' (cN d xs.length) c' ∧ Own w' w.heap.size 22 1 A' (cN d xs.length) c' ((chs A d xs (cN d xs.length)).flatMap rowC) ∧ Ext w w') := by
  obtain ⟨n0, hn0⟩ : ∃ n0, n0 = w.heap.size := ⟨_, rfl⟩
  have hN := cN_le (d := d) (n := xs.length) hd.1
  refine callsIn_wide.1 (callsIn_of_wp_marks (n := 2) Try.func99 rfl trivial ?_)
  refine wpIn_seq ?_
  have hf0 : FitsD [] 13 (frameOf 0 [.slice none 0 0, .func (.func 100) #[] #[.pointer (some ⟨gs, 0, none⟩), .pointer (some ⟨gn, 0, none⟩)]]) { tmps := #[.slice none 0 0, .func (.func 100) #[] #[.pointer (some ⟨gs, 0, none⟩), .pointer (some ⟨gn, 0, none⟩)]] ++ Array.replicate (Try.f99.ntmps - 2) undef, defers := [] } := by
    refine ⟨rfl, by rw [Try.ntmps99]; rfl, fun t v ht => ?_⟩
    obtain ⟨_, h2⟩ := lk_frameOf _ 0 t v ht
    simp only [Nat.sub_zero] at h2
    match t, h2 with
    | 0, h2 => simpa using h2
    | 1, h2 => simpa using h2
    | t + 2, h2 => simp at h2
  refine wpIn_region_lit ((?_ : OpsF Fence.wide 2 Try.prog 13 [] _ _ _ w (fun e1 w1 => lk e1 2 = some (.pointer (some ⟨w.heap.size, 0, none⟩)) ∧ lk e1 1 = some (.func (.func 100) #[] #[.pointer (some ⟨gs, 0, none⟩), .pointer (some ⟨gn, 0, none⟩)]) ∧ Blk w1 w.heap.size 68 [.slice none 0 0] ∧ Ext w w1)) _ _ hf0 ?_)
  · refine opsF_cons .w rfl rfl (ow_box rfl rfl ?_)
    intro g w1 eg b1 x1 z1
    subst eg
    refine opsF_cons .w rfl rfl (ow_assign rfl ?_)
    exact opsF_nil ⟨rfl, rfl, b1, x1⟩
  rintro e1 a1 w1 hf1 ⟨k2, k1, b1, x1⟩
  have hz1 : n0 < w1.heap.size := by rw [hn0]; exact b1.lt
  refine wpIn_seq ?_
  refine wpIn_seq ?_
  refine wpIn_region_lit ((?_ : OpsF Fence.wide 2 Try.prog 13 [] _ _ e1 w1 (fun e2 w2 => lk e2 2 = some (.pointer (some ⟨w.heap.size, 0, none⟩)) ∧ lk e2 6 = some (.func (.func 100) #[] #[.pointer (some ⟨gs, 0, none⟩), .pointer (some ⟨gn, 0, none⟩)]) ∧ w2 = w1)) _ _ hf1 ?_)
  · refine opsF_cons .w rfl rfl (ow_move k1 ?_)
    exact opsF_nil ⟨by rw [updO, lk_cons, if_neg (by decide)]; exact k2, by rw [updO, lk_cons, if_pos rfl], rfl⟩
  rintro e2 a2 w2 hf2 ⟨k2, k6, rfl⟩
  refine wpIn_block ?_
  have hseq := (chunk_seq n0 gs gn d c A xs w q1 q2 hn0 hd hl hc)
  refine wpIn_rangeFunc_ownF (n := 2) rfl (by decide) (gf := 100) (lb := #[.pointer (some ⟨gs, 0, none⟩), .pointer (some ⟨gn, 0, none⟩)]) (hf2.knows (.tmp 6) _ k6) trivial ent100 hseq (hKt := belowK_t) (hKb := belowK_b (by omega)) (hb0 := x1) (fun _ => rfl)
    (ColI n0 w.heap.size w) (fun _ _ _ => False) (colI_from (by omega) (by omega)) (fun _ _ _ _ _ h _ _ => h) ⟨⟨none, 0, b1, Own.nil_ _ _ _ _⟩, by rw [hn0]; exact x1⟩
    (fun x => ({ tmps := a2.tmps.setIfInBounds 7 (Value.slice x.A x.m.next.length x.c), defers := [] } : Act).put (some 5) (Value.slice x.A x.m.next.length x.c))
    ?_ ?_ ?_ ?_
  · intro l x W K hK
    have e0 : ∀ (T : Array Value) (u : Value), (#[7].zip #[u]).foldl (fun t (p, v) => t.setIfInBounds p v) T = T.setIfInBounds 7 u := fun T u => by simp
    rw [e0]
    have e7 : (({ tmps := a2.tmps.setIfInBounds 7 (Value.slice x.A x.m.next.length x.c), defers := [] } : Act).eval (.tmp 7)) = Value.slice x.A x.m.next.length x.c := by
      show (a2.tmps.setIfInBounds 7 _).getD 7 undef = _
      simp [Array.getD_eq_getD_getElem?, hf2.2.1]
    refine wpIn_region_lit (l := [_]) (wpListIn_plain rfl fun K' hK' => ⟨fun f _ => trivial, ?_⟩)
    rw [Oper.semAt_eq _ _ _ (fun c h => by cases h)]
    unfold execOp
    simp only [Sem.run_pure, Oper.uponIn_value, e7]
    exact hK' _ _ (wpListIn_nil hK)
  · -- one round
    intro l pre x W hI hlen
    obtain ⟨⟨A1, c1, bB, oO⟩, hbel⟩ := hI
    have hs0 : n0 ≤ W.heap.size := by have := hbel.size; omega
    have hgB := bB.lt
    obtain ⟨vx, hvx⟩ : ∃ vx, vx = Value.slice x.A x.m.next.length x.c := ⟨_, rfl⟩
    rw [← hvx]
    have hfx : FitsD [] 13 [(5, vx), (2, .pointer (some ⟨w.heap.size, 0, none⟩))] (({ tmps := a2.tmps.setIfInBounds 7 vx, defers := [] } : Act).put (some 5) vx) := by
      have hsz := hf2.2.1
      have h2 := hf2.2.2 2 _ k2
      refine ⟨rfl, by simp [Act.put, hsz], fun t v ht => ?_⟩
      rw [lk_cons] at ht
      split at ht
      · rename_i h5; subst h5
        injection ht with ht; subst ht
        simp [Act.put, hsz, Array.getD_eq_getD_getElem?]
      · rw [lk_cons] at ht
        split at ht
        · rename_i h5 h6; subst h6
          injection ht with ht; subst ht
          simp only [Act.put]
          simp only [Array.getD_eq_getD_getElem?] at h2 ⊢
          rw [Array.getElem?_setIfInBounds_ne (by decide), Array.getElem?_setIfInBounds_ne (by decide)]
          exact h2
        · cases ht
    refine wpIn_block (wpIn_region_lit ((?_ : OpsF (Fence.wide.inRound l) 0 Try.prog 13 [] _ _ _ W (fun _ W' => KeepsOthers W W' ∧ Below n0 W W' ∧ ColI n0 w.heap.size w (pre ++ [x]) W')) _ _ hfx fun e' a' w' _ h => h))
    subst hvx
    have hr := WideF.r l
    refine opsF_cons hr rfl rfl (ow_loadB bB ti68 rfl rfl ?_)
    refine opsF_cons hr rfl rfl (ow_move rfl ?_)
    refine opsF_cons hr rfl rfl (ow_buildSlice el68 ti22 rfl rfl rfl rfl rfl ?_)
    intro gT W1 egT oT bT xT zT
    have bB1 := bB.ext xT
    have oO1 := oO.ext xT
    have hb1 : Below n0 W W1 := Below.mono xT hs0
    have hk1 : KeepsOthers W W1 := KeepsOthers.of_grownBy (gb_of_ext xT) (fun j o e => by cases e)
    have oT1 : Own W1 W.heap.size 22 1 (some ⟨gT, 0, none⟩) 1 1 (rowC x) := oT.to rfl
    refine opsF_cons hr rfl rfl (ow_append (ts := #[]) oO1 (by have := xT.size; omega) oT1.sl rfl (one_row x) el68 ti22 rfl rfl rfl rfl (by omega) (by omega) ?_)
    intro A2 c2 W2 oA hgA
    have hne : some w.heap.size ≠ (Value.slice A1 pre.length c1).ownBlock := fun e => Own.neT oO1 bB1 (by decide) e.symm
    have bB2 := bB1.grown hgA hne
    have hb2 : Below n0 W W2 := hb1.grown hgA (by have := xT.size; omega) (fun k e => (Own.lt oO1 e).1)
    have hk2 : KeepsOthers W W2 := hk1.trans (KeepsOthers.of_grownBy hgA (own_cells oO1))
    refine opsF_cons hr rfl rfl (ow_storeB bB2 ti68 rfl rfl rfl rfl rfl rfl ?_)
    intro W3 bB3 hg3 z3
    have oA3 := oA.grown hg3 (fun g e => by injection e with e; subst e; exact Own.neT oA bB2 (by decide))
    have hb3 : Below n0 W W3 := hb2.grown hg3 (by have := hgA.size; have := xT.size; omega) (fun k e => by injection e; omega)
    have hk3 : KeepsOthers W W3 := hk2.trans (KeepsOthers.of_grownBy hg3 (fun j o e ho => by injection e with e; subst e; rw [show W2.heap[w.heap.size]? = _ from bB2] at ho; cases ho; rfl))
    refine opsF_nil ⟨hk3, hb3, ⟨A2, c2, ?_, ?_⟩, hbel.trans hb3⟩
    · rw [List.length_append]; exact bB3
    · rw [List.length_append, List.flatMap_append]; exact oA3.to (by simp)
  · -- behind the loop
    intro D ps W hD hS hI hK
    subst hS
    obtain ⟨⟨A1, c1, bB, oO⟩, hbel⟩ := hI
    rw [chs_len] at bB oO
    have hf3 : FitsD [{ target := .collected D, args := #[] }] 13 e2 { a2 with defers := { target := .collected D, args := #[] } :: a2.defers } := ⟨by rw [hf2.1], hf2.2.1, hf2.2.2⟩
    show ((Code.seq _ _).wpIn _ _ _ _ _ _)
    refine wpIn_seq ?_
    refine wpIn_region_lit ((?_ : OpsF Fence.wide 2 Try.prog 13 _ _ _ e2 W (fun e4 w4 => lk e4 4 = some (.slice A1 (cN d xs.length) c1) ∧ w4 = W)) _ _ hf3 ?_)
    · refine opsF_cons .w rfl rfl (ow_loadB bB ti68 k2 rfl ?_)
      refine opsF_cons .w rfl rfl (ow_assign rfl ?_)
      exact opsF_nil ⟨rfl, rfl⟩
    rintro e4 a4 w4 hf4 ⟨k4, rfl⟩
    refine wpIn_ret ?_
    show LeavesInM _ _ _ _ _ _ a4.defers .returning w4
    rw [hf4.1]
    refine ⟨by simp, .inl ⟨_, _, rfl, run_takeDeferred hK, ?_⟩⟩
    have hgD := grownBy_putObj' w4 D (.deferred none)
    have hrow : ∀ r, some D = some r → ∃ o : Obj, w4.heap[r]? = some o ∧ o.isCells = false := fun r e => by injection e with e; subst e; exact ⟨_, hK, rfl⟩
    have h4 := hf4.2.2 4 _ k4
    refine ⟨_, results_tmp rfl _ _ _, A1, c1, h4, ?_, ?_⟩
    · rw [← hn0]; exact oO.grown hgD (own_nc oO hrow)
    · have := hbel.grown hgD (by have := hbel.size; omega) (fun k e => by injection e; omega)
      rwa [hn0] at this
  · intro D c' pre W hD hS hI hK
    exact hI.elim
end Go.Proofs.Ytdoibplhbdkapaa
namespace Go.Proofs.Ytdoibplhbdkapaa
open Go.RowKit
set_option linter.unusedVariables false
set_option linter.unusedSimpArgs false
set_option maxRecDepth 20000
theorem ow_lssT {P : Program} {e : List (Nat × Value)} {ty : TypeId} {w : World} {K : Value → World → Prop} {x y : Operand} {t t' : TypeId} {k : IntKind} {m n : Int} (hx : evO e x = some (.int k m)) (hy : evO e y = some (.int k n)) (hh : m < n) (h : K (.bool true) w) : OpWp P e (.binOp .lss t x y t') ty w K :=
  ow_lss hx hy (by rw [decide_eq_true hh]; exact h)
theorem ow_lssF {P : Program} {e : List (Nat × Value)} {ty : TypeId} {w : World} {K : Value → World → Prop} {x y : Operand} {t t' : TypeId} {k : IntKind} {m n : Int} (hx : evO e x = some (.int k m)) (hy : evO e y = some (.int k n)) (hh : ¬ m < n) (h : K (.bool false) w) : OpWp P e (.binOp .lss t x y t') ty w K :=
  ow_lss hx hy (by rw [decide_eq_false hh]; exact h)
theorem and8 {z : Int} (h : 0 ≤ z ∧ z ≤ 1099511627776) : bitsV .and .i64 z 255 = z % 256 := by
  obtain ⟨n, rfl⟩ : ∃ n : Nat, z = (n : Int) := ⟨z.toNat, by omega⟩
  have h1 := bits_and (a := n) (b := 255) (by omega) (by omega)
  rw [show ((255 : Nat) : Int) = 255 from rfl] at h1
  rw [h1, show n &&& 255 = n % 256 from Nat.and_two_pow_sub_one_eq_mod n 8]; omega
def slcs (A : Option Addr) (xs : List Int) : List ModeI := if xs.length = 0 then [rowI none 0 []] else chs A 33 xs (cN 33 xs.length)
theorem cN_nS {n : Nat} (h : n ≠ 0) : cN 33 n = nS n := by
  unfold cN nS; rw [if_neg h, show n + 33 - 1 = n + 32 by omega]
theorem slcs_len (A : Option Addr) (xs : List Int) : (slcs A xs).length = nS xs.length := by
  unfold slcs
  split
  · rename_i h; rw [h]; rfl
  · rename_i h; rw [chs_len, cN_nS h]
theorem chs_at {A : Option Addr} {d : Nat} {xs : List Int} {m k : Nat} (h : k < m) : (chs A d xs m)[k]? = some (chPart A d xs k) := by
  unfold chs; rw [List.getElem?_map, List.getElem?_range h]; rfl
theorem slcs_get (A : Option Addr) (xs : List Int) {k : Nat} (h : k < nS xs.length) : ∃ pA pc, (slcs A xs)[k]? = some (rowI pA pc (sl33 xs k)) ∧ (sl33 xs k).length ≤ pc := by
  unfold slcs
  split
  · rename_i h0
    rw [h0] at h
    have hk : k = 0 := by have h2 : k < 1 := h; omega
    subst hk
    have e : xs = [] := List.eq_nil_of_length_eq_zero h0
    subst e
    exact ⟨none, 0, rfl, Nat.le_refl _⟩
  · rename_i h0
    rw [chs_at (by rw [cN_nS h0]; exact h)]
    refine ⟨_, _, rfl, ?_⟩
    rw [sl33_len]; exact Nat.le_refl _
theorem chs_nexts {B : Nat} {w : World} {A : Option Addr} {d : Nat} {xs : List Int} (hs : Sl B w A (xs.flatMap eI)) (hl : xs.length ≤ 1048576) (m : Nat) : Nexts B w (chs A d xs m) := ⟨hs.1, fun x hx => by
  obtain ⟨k, _, rfl⟩ := List.mem_map.1 hx
  exact ⟨(hs.dropI _).takeI _, by rw [chPart_len]; omega⟩⟩
theorem slcs_nexts {B : Nat} {w : World} {A : Option Addr} {xs : List Int} (hs : Sl B w A (xs.flatMap eI)) (hl : xs.length ≤ 1048576) : Nexts B w (slcs A xs) := by
  unfold slcs
  split
  · refine ⟨hs.1, fun x hx => ?_⟩
    obtain rfl : x = rowI none 0 [] := by simpa using hx
    exact ⟨Sl.nil_ hs.1 _, Nat.zero_le _⟩
  · exact chs_nexts hs hl _
theorem slcs_one {xs : List Int} (h : xs.length = 0) (A : Option Addr) : (slcs A xs).flatMap rowC = [.slice none 0 0] := by unfold slcs; rw [if_pos h]; rfl
theorem sl33_b {xs : List Int} (hb : ∀ x ∈ xs, 0 ≤ x ∧ x ≤ 255) (k : Nat) : ∀ x ∈ sl33 xs k, 0 ≤ x ∧ x ≤ 255 := fun x hx => hb x (List.mem_of_mem_drop (List.mem_of_mem_take hx))
theorem take_b {xs : List Int} (hb : ∀ x ∈ xs, 0 ≤ x ∧ x ≤ 255) (k : Nat) : ∀ x ∈ xs.take k, 0 ≤ x ∧ x ≤ 255 := fun x hx => hb x (List.mem_of_mem_take hx)
theorem isB_mem {xs : List Int} (h : isB xs = true) : ∀ x ∈ xs, 0 ≤ x ∧ x ≤ 255 := fun x hx => by
  obtain ⟨k, hk⟩ := List.mem_iff_getElem?.1 hx
  exact isB_at h hk
theorem sl33_cut (xs : List Int) (k : Nat) : (xs.drop (min xs.length (33 * k))).take (min xs.length (min xs.length (33 * k) + 33) - min xs.length (33 * k)) = sl33 xs k := by
  unfold sl33
  by_cases h : 33 * k ≤ xs.length
  · rw [Nat.min_eq_right h]
    by_cases h2 : 33 * k + 33 ≤ xs.length
    · rw [Nat.min_eq_right h2, show 33 * k + 33 - 33 * k = 33 by omega]
    · rw [Nat.min_eq_left (by omega), List.take_of_length_le (by simp), List.take_of_length_le (by simp; omega)]
  · have e : min xs.length (33 * k) = xs.length := by omega
    rw [e, List.drop_length, List.drop_of_length_le (by omega)]; simp
theorem sl33_cutl (xs : List Int) (k : Nat) : min xs.length (min xs.length (33 * k) + 33) - min xs.length (33 * k) = (sl33 xs k).length := by rw [sl33_len]; omega
theorem badK_short {xs : List Int} {k : Nat} (h : (sl33 xs k).length < 5) : badK xs k = true := by rw [badK, decide_eq_true h]; rfl
theorem badK_long {xs : List Int} {k : Nat} (h : ¬ (sl33 xs k).length < 5) : badK xs k = !decide (chkB k ((sl33 xs k).take ((sl33 xs k).length - 3)) = (sl33 xs k).drop ((sl33 xs k).length - 3)) := by rw [badK, decide_eq_false h]; rfl
theorem drop3 {l : List Int} {x y z : Int} (h3 : 3 ≤ l.length) (hx : l[l.length - 3]? = some x) (hy : l[l.length - 2]? = some y) (hz : l[l.length - 1]? = some z) : l.drop (l.length - 3) = [x, y, z] := by
  have e0 : (l.drop (l.length - 3))[0]? = some x := by rw [List.getElem?_drop]; exact hx
  have e1 : (l.drop (l.length - 3))[1]? = some y := by rw [List.getElem?_drop, show l.length - 3 + 1 = l.length - 2 by omega]; exact hy
  have e2 : (l.drop (l.length - 3))[2]? = some z := by rw [List.getElem?_drop, show l.length - 3 + 2 = l.length - 1 by omega]; exact hz
  have el : (l.drop (l.length - 3)).length = 3 := by simp; omega
  generalize l.drop (l.length - 3) = d at *
  match d, el with
  | [a, b, c], _ =>
    simp at e0 e1 e2
    rw [e0, e1, e2]
theorem chunk_c (A : Option Addr) (n c d : Nat) (w : World) (hd : 1 ≤ d) :
    Calls Try.prog 74 #[.slice A n c, .int .i64 (d : Nat)] w (Ret fun v w' => ∃ gs gn, v = .func (.func 100) #[] #[.pointer (some ⟨gs, 0, none⟩), .pointer (some ⟨gn, 0, none⟩)] ∧ Blk w' gs 22 [.slice A n c] ∧ Blk w' gn 3 [.int .i64 (d : Nat)] ∧ Ext w w') := by
  have X := Ext.refl w
  refine calls_of (args := [.slice A n c, .int .i64 (d : Nat)]) Try.func74 Try.ntmps74 rfl rfl ?_
  refine c_seqR ?_
  refine ops_cons rfl (ow_box rfl rfl ?_)
  intro gs w2 egs q1 x1 zgs
  have lgs : w.heap.size ≤ gs := Nat.le_trans X.size (Nat.le_of_eq egs.symm)
  replace X := Ext.trans X x1; clear x1
  refine ops_cons rfl (ow_box rfl rfl ?_)
  intro gn w4 egn q2 x3 zgn
  have lgn : w.heap.size ≤ gn := Nat.le_trans X.size (Nat.le_of_eq egn.symm)
  have ngnq1 := Nat.lt_of_lt_of_eq q1.lt egn.symm
  replace q1 := q1.ext x3
  replace X := Ext.trans X x3; clear x3
  refine ops_cons rfl (ow_assign rfl ?_)
  refine ops_nil ?_
  refine c_seq ?_
  refine c_seqR ?_
  refine ops_cons rfl (ow_loadB q2 ti3 rfl rfl ?_)
  refine ops_cons rfl (ow_lss2 rfl rfl (fun h5 => absurd h5 (by omega)) (fun h5 => ?_))
  refine ops_nil ?_
  refine c_false rfl ?_
  refine c_skip ?_
  refine tq_n ?_
  refine c_seqR ?_
  refine ops_cons rfl (ow_makeFunc rfl ?_)
  refine ops_cons rfl (ow_assign rfl ?_)
  refine ops_nil ?_
  refine c_ret ?_
  refine fin_ret1 rfl rfl ?_
  exact ⟨gs, gn, rfl, q1, q2, X⟩

theorem collect_c (gs gn d c : Nat) (A : Option Addr) (xs : List Int) (w : World) (q1 : Blk w gs 22 [.slice A xs.length c]) (q2 : Blk w gn 3 [.int .i64 (d : Nat)]) (hd : 1 ≤ d ∧ d ≤ 1000) (hl : xs.length ≤ 1048576) (hc : xs.length ≤ c) :
    Calls Try.prog 73 #[.func (.func 100) #[] #[.pointer (some ⟨gs, 0, none⟩), .pointer (some ⟨gn, 0, none⟩)]] w (Ret fun v w' => ∃ A' c', v = .slice A' (cN d xs.length) c' ∧ Own w' w.heap.size 22 1 A' (cN d xs.length) c' ((chs A d xs (cN d xs.length)).flatMap rowC) ∧ Ext w w') := by
  have X := Ext.refl w
  refine calls_of (args := [.func (.func 100) #[] #[.pointer (some ⟨gs, 0, none⟩), .pointer (some ⟨gn, 0, none⟩)]]) Try.func73 Try.ntmps73 rfl rfl ?_
  refine c_seqR ?_
  refine ops_cons rfl (ow_assign rfl ?_)
  refine ops_nil ?_
  refine c_seqR ?_
  refine ops_cons rfl (ow_move rfl ?_)
  refine ops_cons rfl (ow_call ent99 rfl (ret_mono (appendSeq_c gs gn d c A xs _ q1 q2 hd hl hc) ?_))
  rintro _ wA ⟨AL, cL, rfl, oL, xA⟩
  replace oL := Own.low oL X.size
  replace q1 := q1.ext xA
  replace q2 := q2.ext xA
  replace X := Ext.trans X xA; clear xA
  refine ops_cons rfl (ow_assign rfl ?_)
  refine ops_nil ?_
  refine c_ret ?_
  refine fin_ret1 rfl rfl ?_
  exact ⟨AL, cL, rfl, oL, X⟩

theorem slicesOf_c (A : Option Addr) (c : Nat) (xs : List Int) (w : World) (hl : xs.length ≤ 1048576) (hc : xs.length ≤ c) :
    Calls Try.prog 42 #[.slice A xs.length c] w (Ret fun v w' => ∃ A' c', v = .slice A' (nS xs.length) c' ∧ Own w' w.heap.size 22 1 A' (nS xs.length) c' ((slcs A xs).flatMap rowC) ∧ Ext w w') := by
  have X := Ext.refl w
  refine calls_of (args := [.slice A xs.length c]) Try.func42 Try.ntmps42 rfl rfl ?_
  refine c_seqR ?_
  refine ops_cons rfl (ow_assign rfl ?_)
  refine ops_nil ?_
  refine c_seq ?_
  refine c_seqR ?_
  refine ops_cons rfl (ow_move rfl ?_)
  refine ops_cons rfl (ow_len Try.underlying22 rfl ?_)
  refine ops_cons rfl (ow_eql2 rfl rfl (fun h0 => ?_) (fun h0 => ?_))
  refine ops_nil ?_
  refine c_true rfl ?_
  refine c_seqR ?_
  refine ops_cons rfl (ow_buildSlice el68 ti22 rfl rfl rfl rfl rfl ?_)
  intro gO w2 egO oO bbgO x1 zgO
  replace oO := Own.low oO X.size
  replace X := Ext.trans X x1; clear x1
  refine ops_cons rfl (ow_assign rfl ?_)
  refine ops_nil ?_
  refine c_ret ?_
  refine tq_r ?_
  refine fin_ret1 rfl rfl ?_
  · skip
    have h00 : xs.length = 0 := by omega
    have e : nS xs.length = 1 := by rw [h00]; rfl
    exact ⟨_, _, by rw [e], by rw [e, slcs_one h00]; exact oO.to rfl, X⟩
  refine ops_nil ?_
  refine c_false rfl ?_
  refine c_skip ?_
  refine tq_n ?_
  refine c_seqR ?_
  refine ops_cons rfl (ow_move rfl ?_)
  refine ops_cons rfl (ow_call ent74 rfl (ret_mono (chunk_c A xs.length c 33 _ (by omega)) ?_))
  rintro _ wK ⟨gs, gn, rfl, q1, q2, xK⟩
  replace X := Ext.trans X xK; clear xK
  refine ops_cons rfl (ow_call ent73 rfl (ret_mono (collect_c gs gn 33 c A xs _ q1 q2 (by omega) hl hc) ?_))
  rintro _ wL ⟨AL, cL, rfl, oL, xL⟩
  replace oL := Own.low oL X.size
  replace X := Ext.trans X xL; clear xL
  refine ops_cons rfl (ow_assign rfl ?_)
  refine ops_nil ?_
  refine c_ret ?_
  refine fin_ret1 rfl rfl ?_
  · skip
    have h00 : xs.length ≠ 0 := by omega
    rw [cN_nS h00] at oL ⊢
    exact ⟨AL, cL, rfl, oL.to (by unfold slcs; rw [if_neg h00, cN_nS h00]), X⟩

theorem three_c (z : Int) (w : World) (hz : 0 ≤ z ∧ z < 16777216) :
    Calls Try.prog 95 #[.int .i64 z] w (Ret fun v w' => ∃ A' c', v = .slice A' 3 c' ∧ Own w' w.heap.size 2 1 A' 3 c' ((id3 z).flatMap eI) ∧ Ext w w') := by
  have X := Ext.refl w
  refine calls_of (args := [.int .i64 z]) Try.func95 Try.ntmps95 rfl rfl ?_
  refine c_seqR ?_
  refine ops_cons rfl (ow_assign rfl ?_)
  refine ops_nil ?_
  refine c_seqR ?_
  refine ops_cons rfl (ow_move rfl ?_)
  refine ops_cons rfl (ow_shr rfl rfl (by omega) (shrP 65536 hz.1 (by omega) rfl) ?_)
  refine ops_cons rfl (ow_move rfl ?_)
  refine ops_cons rfl (ow_shr rfl rfl (by omega) (shrP 256 hz.1 (by omega) rfl) ?_)
  refine ops_cons rfl (ow_and rfl rfl (and8 (by omega)) ?_)
  refine ops_cons rfl (ow_move rfl ?_)
  refine ops_cons rfl (ow_and rfl rfl (and8 (by omega)) ?_)
  refine ops_cons rfl (ow_buildSlice el22 ti2 rfl rfl rfl rfl rfl ?_)
  intro g1 w3 eg1 oS bbg1 x2 zg1
  replace oS := Own.low oS X.size
  replace X := Ext.trans X x2; clear x2
  refine ops_cons rfl (ow_assign rfl ?_)
  refine ops_nil ?_
  refine c_ret ?_
  refine fin_ret1 rfl rfl ?_
  exact ⟨_, _, rfl, oS.to rfl, X⟩

theorem blockCheck_c (k : Nat) (A : Option Addr) (B c : Nat) (xs : List Int) (w : World) (hs : Sl B w A (xs.flatMap eI)) (hl : xs.length ≤ 100000) (hb : ∀ x ∈ xs, 0 ≤ x ∧ x ≤ 255) (hk : k ≤ 100000) :
    Calls Try.prog 72 #[.int .i64 (k : Nat), .slice A xs.length c] w (Ret fun v w' => ∃ A' c', v = .slice A' 3 c' ∧ Own w' w.heap.size 2 1 A' 3 c' ((chkB k xs).flatMap eI) ∧ Ext w w') := by
  have Bhs := hs.1
  have X := Ext.refl w
  refine calls_of (args := [.int .i64 (k : Nat), .slice A xs.length c]) Try.func72 Try.ntmps72 rfl rfl ?_
  refine c_seqR ?_
  refine ops_cons rfl (ow_assign rfl ?_)
  refine ops_nil ?_
  refine c_seqR ?_
  refine ops_cons rfl (ow_call ent96 rfl (ret_mono (iStdCrc_c _) ?_))
  rintro _ w2 ⟨rfl, x1⟩
  replace hs := hs.ext x1
  replace X := Ext.trans X x1; clear x1
  refine ops_cons rfl (ow_move rfl ?_)
  refine ops_cons rfl (ow_add rfl rfl (w64 (by omega)) ?_)
  refine ops_cons rfl (ow_move rfl ?_)
  refine ops_cons rfl (ow_call ent98 rfl (ret_mono (toBits_c _ _ _ xs _ hs (by omega) hb) ?_))
  rintro _ w4 ⟨AB, cB, rfl, oB, x3⟩
  replace oB := Own.low oB X.size
  replace hs := hs.ext x3
  replace X := Ext.trans X x3; clear x3
  refine ops_cons rfl (ow_call ent97 rfl (ret_mono (feed_c _ _ _ (bitsL xs) ((k : Int) + 1) _ (oB).sl (by rw [bitsL_len]; omega) (by omega) (fun b hb => bitsL_in b hb)) ?_))
  rintro _ w6 ⟨rfl, x5⟩
  replace hs := hs.ext x5
  replace oB := oB.ext x5
  replace X := Ext.trans X x5; clear x5
  refine ops_cons rfl (ow_call ent95 rfl (ret_mono (three_c (crcK k xs) _ (crcK_in xs (by omega))) ?_))
  rintro _ w9 ⟨AT, cT, rfl, oT, x7⟩
  replace oT := Own.low oT X.size
  replace hs := hs.ext x7
  replace oB := oB.ext x7
  replace X := Ext.trans X x7; clear x7
  refine ops_cons rfl (ow_assign rfl ?_)
  refine ops_nil ?_
  refine c_ret ?_
  refine fin_ret1 rfl rfl ?_
  exact ⟨_, _, rfl, oT, X⟩

theorem blockCheck_n (k n : Nat) (A : Option Addr) (B c : Nat) (xs : List Int) (w : World) (hs : Sl B w A (xs.flatMap eI)) (en : xs.length = n) (hl : xs.length ≤ 100000) (hb : ∀ x ∈ xs, 0 ≤ x ∧ x ≤ 255) (hk : k ≤ 100000) :
    Calls Try.prog 72 #[.int .i64 (k : Nat), .slice A n c] w (Ret fun v w' => ∃ A' c', v = .slice A' 3 c' ∧ Own w' w.heap.size 2 1 A' 3 c' ((chkB k xs).flatMap eI) ∧ Ext w w') := by
  subst en; exact blockCheck_c k A B c xs w hs hl hb hk

theorem l09Check_c (k : Nat) (A : Option Addr) (B c : Nat) (xs : List Int) (w : World) (hs : Sl B w A (xs.flatMap eI)) (hl : xs.length ≤ 100000) (hb : ∀ x ∈ xs, 0 ≤ x ∧ x ≤ 255) (hk : k ≤ 100000) :
    Calls Try.prog 68 #[.int .i64 (k : Nat), .slice A xs.length c] w (Ret fun v w' => v = .int .i64 (crcK k xs) ∧ Ext w w') := by
  have Bhs := hs.1
  have X := Ext.refl w
  refine calls_of (args := [.int .i64 (k : Nat), .slice A xs.length c]) Try.func68 Try.ntmps68 rfl rfl ?_
  refine c_seqR ?_
  refine ops_cons rfl (ow_assign rfl ?_)
  refine ops_nil ?_
  refine c_seqR ?_
  refine ops_cons rfl (ow_call ent93 rfl (ret_mono (sStdCrc_c _) ?_))
  rintro _ w2 ⟨rfl, x1⟩
  replace hs := hs.ext x1
  replace X := Ext.trans X x1; clear x1
  refine ops_cons rfl (ow_move rfl ?_)
  refine ops_cons rfl (ow_add rfl rfl (w64 (by omega)) ?_)
  refine ops_cons rfl (ow_move rfl ?_)
  refine ops_cons rfl (ow_call ent94 rfl (ret_mono (l01Bits_c _ _ _ xs _ hs (by omega) hb) ?_))
  rintro _ w4 ⟨AB, cB, rfl, oB, x3⟩
  replace oB := Own.low oB X.size
  replace hs := hs.ext x3
  replace X := Ext.trans X x3; clear x3
  refine ops_cons rfl (ow_call ent92 rfl (ret_mono (l02Feed_c _ _ _ (bitsL xs) ((k : Int) + 1) _ (oB).sl (by rw [bitsL_len]; omega) (by omega) (fun b hb => bitsL_in b hb)) ?_))
  rintro _ w6 ⟨rfl, x5⟩
  replace hs := hs.ext x5
  replace oB := oB.ext x5
  replace X := Ext.trans X x5; clear x5
  refine ops_cons rfl (ow_assign rfl ?_)
  refine ops_nil ?_
  refine c_ret ?_
  refine fin_ret1 rfl rfl ?_
  exact ⟨by rfl, X⟩

theorem l09Check_n (k n : Nat) (A : Option Addr) (B c : Nat) (xs : List Int) (w : World) (hs : Sl B w A (xs.flatMap eI)) (en : xs.length = n) (hl : xs.length ≤ 100000) (hb : ∀ x ∈ xs, 0 ≤ x ∧ x ≤ 255) (hk : k ≤ 100000) :
    Calls Try.prog 68 #[.int .i64 (k : Nat), .slice A n c] w (Ret fun v w' => v = .int .i64 (crcK k xs) ∧ Ext w w') := by
  subst en; exact l09Check_c k A B c xs w hs hl hb hk

theorem l09Slice_c (A : Option Addr) (B c : Nat) (xs : List Int) (k : Nat) (w : World) (hs : Sl B w A (xs.flatMap eI)) (hl : xs.length ≤ 1048576) (hc : xs.length ≤ c) (hk : k ≤ 100000) :
    Calls Try.prog 38 #[.slice A xs.length c, .int .i64 (k : Nat)] w (Ret fun v w' => ∃ A' c', v = .slice A' (sl33 xs k).length c' ∧ (sl33 xs k).length ≤ c' ∧ Sl B w' A' ((sl33 xs k).flatMap eI) ∧ Ext w w') := by
  have Bhs := hs.1
  have X := Ext.refl w
  refine calls_of (args := [.slice A xs.length c, .int .i64 (k : Nat)]) Try.func38 Try.ntmps38 rfl rfl ?_
  refine c_seqR ?_
  refine ops_cons rfl (ow_assign rfl ?_)
  refine ops_nil ?_
  refine c_seqR ?_
  refine ops_cons rfl (ow_move rfl ?_)
  refine ops_cons rfl (ow_len Try.underlying22 rfl ?_)
  refine ops_cons rfl (ow_move rfl ?_)
  refine ops_cons rfl (ow_mul rfl rfl (show IntKind.i64.wrap _ = ((33 * k : Nat) : Int) from (w64 (by omega)).trans (by omega)) ?_)
  refine ops_cons rfl (ow_min rfl rfl ?_)
  refine ops_cons rfl (ow_assign rfl ?_)
  refine ops_nil ?_
  refine c_seqR ?_
  refine ops_cons rfl (ow_move rfl ?_)
  refine ops_cons rfl (ow_move rfl ?_)
  refine ops_cons rfl (ow_move rfl ?_)
  refine ops_cons rfl (ow_len Try.underlying22 rfl ?_)
  refine ops_cons rfl (ow_move rfl ?_)
  refine ops_cons rfl (ow_add rfl rfl (w64 (by omega)) ?_)
  refine ops_cons rfl (ow_min rfl rfl ?_)
  refine ops_cons rfl (ow_sliceLH el22 hs eI_len rfl rfl rfl (show _ = ((min xs.length (33 * k) : Nat) : Int) by omega) (show _ = ((min xs.length (min xs.length (33 * k) + 33) : Nat) : Int) by omega) (by omega) (by omega) ?_)
  intro Ap pS
  refine ops_cons rfl (ow_assign rfl ?_)
  refine ops_nil ?_
  refine c_ret ?_
  refine fin_ret1 rfl rfl ?_
  · skip
    rw [sl33_cut] at pS
    rw [sl33_cutl]
    exact ⟨Ap, _, rfl, by rw [← sl33_cutl]; omega, pS, X⟩
end Go.Proofs.Ytdoibplhbdkapaa
namespace Go.Proofs.Ytdoibplhbdkapaa
open Go.RowKit
set_option linter.unusedVariables false
set_option linter.unusedSimpArgs false
section
variable {P : Program} {e : List (Nat × Value)} {ty t t' el : TypeId} {w : World} {K : Value → World → Prop} {x y : Operand} {A : Option Addr} {n c : Nat}
end
theorem Own.pre {w : World} {lo n c s h : Nat} {t : TypeId} {A : Option Addr} {cs : List Value} (o : Own w lo t s A n c cs) (hh : h ≤ n) : Own w lo t s A h c (cs.take (h * s)) := by
  have hl : (cs.take (h * s)).length = h * s := by
    rw [List.length_take, o.1]
    exact Nat.min_eq_left (Nat.mul_le_mul_right s hh)
  refine ⟨hl, ?_⟩
  rcases o.2 with ⟨h1, h2⟩ | ⟨g, cap, cur, hv, hlo, hg, hnc, hm, hs, hc⟩
  · simp only [Value.slice.injEq] at h1
    obtain ⟨rfl, h3, rfl⟩ := h1
    left
    have h4 : h = 0 := by omega
    subst h4
    exact ⟨rfl, rfl⟩
  · simp only [Value.slice.injEq] at hv
    obtain ⟨rfl, _, rfl⟩ := hv
    right
    refine ⟨g, c, cur, rfl, hlo, hg, by omega, hm, hs, ?_⟩
    rw [← hc, List.take_take, Nat.min_eq_left (Nat.mul_le_mul_right s hh)]
section
variable {P : Program} {n : Nat} {fn : Func} {R : Value → World → Prop} {e : List (Nat × Value)} {w : World}
end
section
variable {P : Program} {e : List (Nat × Value)} {ty t t' : TypeId} {w : World} {K : Value → World → Prop} {x y : Operand} {a : Array Value}
end
section
variable {P : Program} {e : List (Nat × Value)} {w : World} {K : Value → World → Prop} {ty t el : TypeId} {x hi : Operand} {s n c h : Nat} {A : Option Addr} {k2 : IntKind} {m2 : Int}
theorem ow_sliceHO (ht : elO P t = some (el, s)) (hx : evO e x = some (.slice A n c)) (h2 : evO e hi = some (.int k2 m2)) (e2 : m2 = (h : Int))
    (hc : h ≤ c) (hK : K (.slice A h c) w) : OpWp P e (.slice t x none (some hi) none) ty w K := fun ρ d p a g hρ => by
  have g0 := hρ _ _ hx; have g2 := hρ _ _ h2
  obtain ⟨hu, hsz⟩ := elem_of ht
  subst e2
  have hr := run_slice_h (P := P) (w := w) t A n c hu k2 (h : Int) (by omega) (by omega)
  simp only [execOp, g0, Option.map_some, Option.map_none, g2, Sem.run_bind, run_sliceAt_slice w t _ _ _ _ hu, hr, hsz, Result.andThen_ok, Sem.run_pure, upto, sliced, Int.toNat_natCast]
  have e1 : (if c = 0 then A else A.map (·.add (0 * s))) = A := by split <;> simp [map_add0]
  simpa [map_add0] using hK
end
end Go.Proofs.Ytdoibplhbdkapaa
