/- Texts of the seat that a law needs, put together. No condition. -/
import Derived.Test.YtdoibplhbdkapaaGreatDoorDMP5
import Derived.Test.YtdoibplhbdkapaaGreatDoorDMP3
import Derived.Test.YtdoibplhbdkapaaGreatDoorDMP4
namespace Go.Proofs.YtdoibplhbdkapaaGreatDoor
open Go.RowKit
set_option linter.unusedVariables false
set_option linter.unusedSimpArgs false
theorem one_ints : ∀ (xs : List Int), ∀ u ∈ xs.flatMap eI, u.oneCell' = true := fun xs u hu => by
  obtain ⟨x, _, h⟩ := List.mem_flatMap.1 hu
  have : u = .int .i64 x := by simpa [eI] using h
  subst this; rfl
section
variable {P : Program} {e : List (Nat × Value)} {ty : TypeId} {w : World} {K : Value → World → Prop} {x y : Operand} {t el : TypeId} {s b : Nat} {z : List Value} {a : Bool}
end
section
variable {P : Program} {n : Nat} {ops : Array Oper} {I : World → Prop} {K : Act → World → Prop} {fuel : Nat} {listed listed' : Array Bool} {e : List (Nat × Value)} {w : World}
/-- a quiet one that is guarded and wanted is taken first -/
theorem wi_takeW (i : Nat) {dst : Option Tmp} {op : Op} {ty : TypeId} {pos : String} {af : Array Edge} {v : Value} {j d : Nat} {b : Bool} (hi : ops[i]? = some ⟨dst, op, ty, pos, af, some (j, b)⟩) (hs : Region.noSelect ops = true) (hd : dstOk n dst = true)
    (ht : takeB ops ops.size listed i = true) (hl : listed.setIfInBounds i true = listed') (hj : (ops[j]?).bind (·.dst) = some d) (hb : lk e d = some (.bool b)) (hy : ∀ w, I w → OpWp P e op ty w fun u w' => u = v ∧ w' = w)
    (h : WE P n ops I K fuel listed' (updO e dst v) w) : WE P n ops I K (fuel + 1) listed e w := fun a ha => by
  simp only [takeB, Bool.and_eq_true] at ht
  refine WI_first hi (Region.noSelect_spec hs) fuel listed a w (Region.free_spec hi ht.1) (by simpa using ht.2) (fun w hw => OpG.opX ha (by simp only [OpG, hj, hb]; rw [if_pos (by cases b <;> rfl)]; exact hy w hw)) ?_
  rw [hl]
  exact h _ (ha.put dst v hd)
/-- one that is guarded and not wanted is taken first -/
theorem wi_takeS (i : Nat) {dst : Option Tmp} {op : Op} {ty : TypeId} {pos : String} {af : Array Edge} {j d : Nat} {b : Bool} {u0 : Value} (hi : ops[i]? = some ⟨dst, op, ty, pos, af, some (j, b)⟩) (hs : Region.noSelect ops = true) (hd : dstOk n dst = true)
    (ht : takeB ops ops.size listed i = true) (hl : listed.setIfInBounds i true = listed') (hj : (ops[j]?).bind (·.dst) = some d) (hb : lk e d = some u0) (hu : saysB u0 b = false)
    (h : WE P n ops I K fuel listed' (updO e dst undef) w) : WE P n ops I K (fuel + 1) listed e w := fun a ha => by
  simp only [takeB, Bool.and_eq_true] at ht
  refine WI_first (v := undef) hi (Region.noSelect_spec hs) fuel listed a w (Region.free_spec hi ht.1) (by simpa using ht.2) (fun w hw => OpG.opX ha (by simp only [OpG, hj, hb]; rw [if_neg (by rw [hu]; simp)]; first | trivial | exact ⟨rfl, rfl⟩ | simp)) ?_
  rw [hl]
  exact h _ (ha.put dst undef hd)
/-- number i alone may come up; it is guarded and wanted -/
theorem wi_oneW (i : Nat) {dst : Option Tmp} {op : Op} {ty : TypeId} {pos : String} {af : Array Edge} {j d : Nat} {b : Bool} (hi : ops[i]? = some ⟨dst, op, ty, pos, af, some (j, b)⟩) (hd : dstOk n dst = true)
    (hr : rdy ops ops.size listed = [i]) (hl : listed.setIfInBounds i true = listed') (hj : (ops[j]?).bind (·.dst) = some d) (hb : lk e d = some (.bool b)) (hI : I w) (hy : OpWp P e op ty w fun u w' => WE P n ops I K fuel listed' (updO e dst u) w') : WE P n ops I K (fuel + 1) listed e w := fun a ha => by
  refine ⟨hI, by rw [hr]; simp, fun k hk o ho => ?_⟩
  rw [hr] at hk
  obtain rfl : k = i := by simpa using hk
  obtain rfl : ⟨dst, op, ty, pos, af, some (j, b)⟩ = o := by rw [hi] at ho; injection ho
  refine OpX.mono (OpG.opX (R := fun u w' => WE P n ops I K fuel listed' (updO e dst u) w') ha (by simp only [OpG, hj, hb]; rw [if_pos (by cases b <;> rfl)]; exact hy)) fun u w' hu => ?_
  rw [hl]
  exact hu _ (ha.put dst u hd)
end
end Go.Proofs.YtdoibplhbdkapaaGreatDoor
namespace Go.Proofs.YtdoibplhbdkapaaGreatDoor
open Go.RowKit
set_option linter.unusedVariables false
set_option linter.unusedSimpArgs false
set_option maxRecDepth 20000
def descB (d : Desc) : List Int := [d.node, d.kind * 64 + d.size, d.duration / 256, d.duration % 256, if d.change = true then 1 else 0]
theorem descOk_in {d : Desc} (h : descOk d = true) : (0 ≤ d.node ∧ d.node ≤ 31) ∧ (0 ≤ d.kind ∧ d.kind ≤ 3) ∧ (0 ≤ d.size ∧ d.size ≤ 32) ∧ (0 ≤ d.duration ∧ d.duration ≤ 1000) := by
  simp only [descOk, Bool.and_eq_true] at h
  have h1 := inB_iff.1 h.1.1.1.1; have h2 := inB_iff.1 h.1.1.1.2; have h3 := dataOk_in h.1.1.2; have h4 := inB_iff.1 h.2
  have h5 := cellsS_in d.kind h3
  exact ⟨h1, h2, h3, by omega⟩
theorem oneIf_c (b : Bool) (w : World)  :
    Calls Tryz.prog 217 #[.bool b] w (Ret fun v w' => v = .int .i64 (if b = true then 1 else 0) ∧ Ext w w') := by
  have X := Ext.refl w
  refine calls_of (args := [.bool b]) Tryz.func217 Tryz.ntmps217 rfl rfl ?_
  refine c_seqR ?_
  refine ops_cons rfl (ow_assign rfl ?_)
  refine ops_nil ?_
  refine c_seq ?_
  refine c_seqR ?_
  refine ops_cons rfl (ow_move rfl ?_)
  refine ops_nil ?_
  refine c_split rfl (fun h1 => ?_) (fun h1 => ?_)
  refine c_seqR ?_
  refine ops_cons rfl (ow_assign rfl ?_)
  refine ops_nil ?_
  refine c_ret ?_
  refine tq_r ?_
  refine fin_ret1 rfl rfl ?_
  exact ⟨by simp [*], X⟩
  refine c_skip ?_
  refine tq_n ?_
  refine c_seqR ?_
  refine ops_cons rfl (ow_assign rfl ?_)
  refine ops_nil ?_
  refine c_ret ?_
  refine fin_ret1 rfl rfl ?_
  exact ⟨by simp [*], X⟩

theorem l08Bytes_c (d : Desc) (w : World) (hd : descOk d = true) :
    Calls Tryz.prog 232 #[.agg d.cells.toArray] w (Ret fun v w' => ∃ A' c', v = .slice A' 5 c' ∧ Own w' w.heap.size 2 1 A' 5 c' ((descB d).flatMap eI) ∧ Ext w w') := by
  have hr := descOk_in hd
  have X := Ext.refl w
  refine calls_of (args := [.agg d.cells.toArray]) Tryz.func232 Tryz.ntmps232 rfl rfl ?_
  refine c_seqR ?_
  refine ops_cons rfl (ow_box rfl rfl ?_)
  intro g4 w3 eg4 b1 x2 zg4
  have lg4 : w.heap.size ≤ g4 := Nat.le_trans X.size (Nat.le_of_eq eg4.symm)
  replace X := Ext.trans X x2; clear x2
  refine ops_cons rfl (ow_assign rfl ?_)
  refine ops_nil ?_
  refine c_seqR ?_
  refine ops_cons rfl (ow_assign rfl ?_)
  refine ops_nil ?_
  refine c_seq ?_
  refine c_seqR ?_
  refine ops_cons rfl (ow_fieldAddrB off67_4 rfl rfl ?_)
  refine ops_cons rfl (ow_loadB b1 ti4 rfl rfl ?_)
  cases hch : d.change
  refine ops_nil ?_
  refine c_false rfl ?_
  refine c_skip ?_
  refine tq_n ?_
  refine c_seqR ?_
  refine ops_cons rfl (ow_fieldAddrB off67_0 rfl rfl ?_)
  refine ops_cons rfl (ow_loadB b1 ti2 rfl rfl ?_)
  refine ops_cons rfl (ow_fieldAddrB off67_1 rfl rfl ?_)
  refine ops_cons rfl (ow_loadB b1 ti2 rfl rfl ?_)
  refine ops_cons rfl (ow_mul rfl rfl (w64 (by omega)) ?_)
  refine ops_cons rfl (ow_fieldAddrB off67_2 rfl rfl ?_)
  refine ops_cons rfl (ow_loadB b1 ti2 rfl rfl ?_)
  refine ops_cons rfl (ow_add rfl rfl (w64 (by omega)) ?_)
  refine ops_cons rfl (ow_fieldAddrB off67_3 rfl rfl ?_)
  refine ops_cons rfl (ow_loadB b1 ti2 rfl rfl ?_)
  refine ops_cons rfl (ow_quo rfl rfl (by omega) (q64 (by omega)) ?_)
  refine ops_cons rfl (ow_fieldAddrB off67_3 rfl rfl ?_)
  refine ops_cons rfl (ow_loadB b1 ti2 rfl rfl ?_)
  refine ops_cons rfl (ow_rem rfl rfl (by omega) (m64 (by omega)) ?_)
  refine ops_cons rfl (ow_move rfl ?_)
  refine ops_cons rfl (ow_buildSlice el30 ti2 rfl rfl rfl rfl rfl ?_)
  intro g5 w7 eg5 oS bbg5 x6 zg5
  replace oS := Own.low oS X.size
  replace b1 := b1.ext x6
  replace X := Ext.trans X x6; clear x6
  refine ops_cons rfl (ow_assign rfl ?_)
  refine ops_nil ?_
  refine c_ret ?_
  refine fin_ret1 rfl rfl ?_
  exact ⟨_, _, rfl, oS.to (by simp [descB, hch, eI, repL]), X⟩
  refine ops_nil ?_
  refine c_true rfl ?_
  refine c_region ?_
  refine ops_cons rfl (ow_assign rfl ?_)
  refine ops_nil ?_
  refine tq_n ?_
  refine c_seqR ?_
  refine ops_cons rfl (ow_fieldAddrB off67_0 rfl rfl ?_)
  refine ops_cons rfl (ow_loadB b1 ti2 rfl rfl ?_)
  refine ops_cons rfl (ow_fieldAddrB off67_1 rfl rfl ?_)
  refine ops_cons rfl (ow_loadB b1 ti2 rfl rfl ?_)
  refine ops_cons rfl (ow_mul rfl rfl (w64 (by omega)) ?_)
  refine ops_cons rfl (ow_fieldAddrB off67_2 rfl rfl ?_)
  refine ops_cons rfl (ow_loadB b1 ti2 rfl rfl ?_)
  refine ops_cons rfl (ow_add rfl rfl (w64 (by omega)) ?_)
  refine ops_cons rfl (ow_fieldAddrB off67_3 rfl rfl ?_)
  refine ops_cons rfl (ow_loadB b1 ti2 rfl rfl ?_)
  refine ops_cons rfl (ow_quo rfl rfl (by omega) (q64 (by omega)) ?_)
  refine ops_cons rfl (ow_fieldAddrB off67_3 rfl rfl ?_)
  refine ops_cons rfl (ow_loadB b1 ti2 rfl rfl ?_)
  refine ops_cons rfl (ow_rem rfl rfl (by omega) (m64 (by omega)) ?_)
  refine ops_cons rfl (ow_move rfl ?_)
  refine ops_cons rfl (ow_buildSlice el30 ti2 rfl rfl rfl rfl rfl ?_)
  intro g8 w10 eg8 oS bbg8 x9 zg8
  replace oS := Own.low oS X.size
  replace b1 := b1.ext x9
  replace X := Ext.trans X x9; clear x9
  refine ops_cons rfl (ow_assign rfl ?_)
  refine ops_nil ?_
  refine c_ret ?_
  refine fin_ret1 rfl rfl ?_
  exact ⟨_, _, rfl, oS.to (by simp [descB, hch, eI, repL]), X⟩

end Go.Proofs.YtdoibplhbdkapaaGreatDoor
namespace Go.Proofs.YtdoibplhbdkapaaGreatDoor
open Go.RowKit
set_option linter.unusedVariables false
set_option linter.unusedSimpArgs false

structure Mode where
  rounds : Int
  slots : Int
  next : List Int
structure ModeI where
  m : Mode
  A : Option Addr
  c : Nat
def ModeI.cells (x : ModeI) : List Value := [.int .i64 x.m.rounds, .int .i64 x.m.slots, .slice x.A x.m.next.length x.c]
theorem ModeI.len (x : ModeI) : x.cells.length = 3 := rfl

/-- the list of each entry can be read -/
def Nexts (B : Nat) (w : World) (xs : List ModeI) : Prop := B ≤ w.heap.size ∧ ∀ x ∈ xs, Sl B w x.A (x.m.next.flatMap eI) ∧ x.m.next.length ≤ 9223372036854775807
section
variable {B B' : Nat} {w w' : World} {xs ys : List ModeI}
theorem Nexts.at_ {k : Nat} {x : ModeI} (h : Nexts B w xs) (hx : xs[k]? = some x) : Sl B w x.A (x.m.next.flatMap eI) := (h.2 x (List.mem_of_getElem? hx)).1
theorem Nexts.len {k : Nat} {x : ModeI} (h : Nexts B w xs) (hx : xs[k]? = some x) : x.m.next.length ≤ 9223372036854775807 := (h.2 x (List.mem_of_getElem? hx)).2
theorem Nexts.below (h : Nexts B w xs) (hb : Below B w w') : Nexts B w' xs := ⟨Nat.le_trans h.1 hb.size, fun x hx => ⟨(h.2 x hx).1.below hb, (h.2 x hx).2⟩⟩
theorem Nexts.ext (h : Nexts B w xs) (hb : Ext w w') : Nexts B w' xs := h.below (Below.mono hb h.1)
theorem Nexts.grown {row : Option Nat} (h : Nexts B w xs) (hg : w.grownBy w' row) (hr : ∀ g, row = some g → B ≤ g) : Nexts B w' xs := ⟨Nat.le_trans h.1 hg.size, fun x hx => ⟨(h.2 x hx).1.grown hg hr, (h.2 x hx).2⟩⟩
theorem Nexts.nil_ (hB : B ≤ w.heap.size) : Nexts B w [] := ⟨hB, fun x hx => by simp at hx⟩
theorem Nexts.snoc {x : ModeI} (h : Nexts B w xs) (hx : Sl B w x.A (x.m.next.flatMap eI)) (hl : x.m.next.length ≤ 9223372036854775807) : Nexts B w (xs ++ [x]) := ⟨h.1, fun y hy => by
  rcases List.mem_append.1 hy with h1 | h1
  · exact h.2 y h1
  · obtain rfl : y = x := by simpa using h1
    exact ⟨hx, hl⟩⟩
end

/-- the list of each entry is a row of the call's own -/
def NOwn (w : World) (lo : Nat) (t : TypeId) (xs : List ModeI) : Prop := ∀ x ∈ xs, Own w lo t 1 x.A x.m.next.length x.c (x.m.next.flatMap eI) ∧ x.m.next.length ≤ 9223372036854775807
section
variable {w w' : World} {lo lo' n c s g : Nat} {t t' : TypeId} {A : Option Addr} {cs : List Value} {xs : List ModeI}
theorem NOwn.nil_ : NOwn w lo t [] := fun x hx => by simp at hx
theorem NOwn.ext (h : NOwn w lo t xs) (hb : Ext w w') : NOwn w' lo t xs := fun x hx => ⟨(h x hx).1.ext hb, (h x hx).2⟩
theorem NOwn.low (h : NOwn w lo t xs) (hl : lo' ≤ lo) : NOwn w lo' t xs := fun x hx => ⟨(h x hx).1.low hl, (h x hx).2⟩
theorem NOwn.grownO (h : NOwn w lo t xs) (k : Own w lo' t' s A n c cs) (hg : w.grownBy w' (Value.slice A n c).ownBlock) (ht : t ≠ t') : NOwn w' lo t xs := fun x hx => ⟨(h x hx).1.grown hg (Own.neO (h x hx).1 k ht), (h x hx).2⟩
theorem NOwn.grownB (h : NOwn w lo t xs) (k : Blk w g t' cs) (hg : w.grownBy w' (some g)) (ht : t ≠ t') : NOwn w' lo t xs := fun x hx => ⟨(h x hx).1.grownBlk hg (Own.neT (h x hx).1 k ht), (h x hx).2⟩
theorem NOwn.nexts (h : NOwn w lo t xs) : Nexts w.heap.size w xs := ⟨Nat.le_refl _, fun x hx => ⟨(h x hx).1.sl, (h x hx).2⟩⟩
theorem NOwn.snoc {x : ModeI} (h : NOwn w lo t xs) (hx : Own w lo t 1 x.A x.m.next.length x.c (x.m.next.flatMap eI)) (hl : x.m.next.length ≤ 9223372036854775807) : NOwn w lo t (xs ++ [x]) := fun y hy => by
  rcases List.mem_append.1 hy with h1 | h1
  · exact h y h1
  · obtain rfl : y = x := by simpa using h1
    exact ⟨hx, hl⟩
end

def prevG {α : Type} (xs : List α) (k : Nat) : Option α := if k = 0 then none else xs[k - 1]?
theorem prevG_succ {α : Type} {xs : List α} {k : Nat} {x : α} (h : xs[k]? = some x) : prevG xs (k + 1) = some x := by simp [prevG, h]
theorem prevG_pos {α : Type} {xs : List α} {k : Nat} {y : α} (hk : 0 < (k : Int)) (h : xs[k - 1]? = some y) : prevG xs k = some y := by rw [prevG, if_neg (by omega)]; exact h
theorem prevG_zero {α : Type} {xs : List α} {k : Nat} (hk : ¬ 0 < (k : Int)) : prevG xs k = none := by rw [prevG, if_pos (by omega)]
theorem map_at {α β : Type} {f : α → β} {xs : List α} {k : Nat} {x : α} (h : xs[k]? = some x) : (xs.map f)[k]? = some (f x) := by simp [h]

/-- rising, from below up, all in 0 .. n-1 -/
def risesFrom (n : Int) : Option Int → List Int → Bool
  | _, [] => true
  | none, x :: r => inB x 0 (n - 1) && risesFrom n (some x) r
  | some y, x :: r => inB x 0 (n - 1) && decide (y < x) && risesFrom n (some x) r
theorem rises_ok0 {n x : Int} {r : List Int} (h : inB x 0 (n - 1) = true) : risesFrom n none (x :: r) = risesFrom n (some x) r := by simp [risesFrom, h]
theorem rises_ok1 {n x y : Int} {r : List Int} (h : inB x 0 (n - 1) = true) (h2 : y < x) : risesFrom n (some y) (x :: r) = risesFrom n (some x) r := by simp [risesFrom, h, h2]
theorem rises_bad0 {n x : Int} {p : Option Int} {r : List Int} (h : inB x 0 (n - 1) = false) : risesFrom n p (x :: r) = false := by cases p <;> simp [risesFrom, h]
theorem rises_bad1 {n x y : Int} {r : List Int} (h2 : ¬ y < x) : risesFrom n (some y) (x :: r) = false := by simp [risesFrom, h2]
theorem rises_nil {n : Int} {p : Option Int} : risesFrom n p [] = true := by cases p <;> rfl
def risesB (xs : List Int) (n : Int) : Bool := risesFrom n none xs
def hasB (xs : List Int) (v : Int) : Bool := xs.any fun x => decide (x = v)
def idxI (v : Int) (k : Int) : List Int → Int
  | [] => -1
  | x :: r => if x = v then k else idxI v (k + 1) r
theorem idxI_has (v : Int) : ∀ (xs : List Int) (k : Int), 0 ≤ k → decide (0 ≤ idxI v k xs) = hasB xs v
  | [], k, h => by simp [idxI, hasB]
  | x :: r, k, h => by
    rw [idxI]
    by_cases e : x = v
    · rw [if_pos e]; simp [hasB, e, h]
    · rw [if_neg e, idxI_has v r (k + 1) (by omega)]; simp [hasB, e]
def modeOk (n i : Int) (x : Mode) : Bool := inB x.rounds 1 8 && inB x.slots 1 16 && risesB x.next n && !(hasB x.next i)
def modesFrom (n : Int) (i : Int) : List Mode → Bool
  | [] => true
  | x :: r => modeOk n i x && modesFrom n (i + 1) r
theorem modesFrom_at : ∀ (ms : List Mode) (n i : Int) (k : Nat) (x : Mode), modesFrom n i ms = true → ms[k]? = some x → modeOk n (i + k) x = true
  | [], n, i, k, x, h, hx => by simp at hx
  | y :: r, n, i, 0, x, h, hx => by
    simp only [modesFrom, Bool.and_eq_true] at h
    simp at hx; subst hx; simpa using h.1
  | y :: r, n, i, k + 1, x, h, hx => by
    simp only [modesFrom, Bool.and_eq_true] at h
    have := modesFrom_at r n (i + 1) k x h.2 (by simpa using hx)
    rwa [show i + 1 + (k : Int) = i + ((k + 1 : Nat) : Int) by omega] at this
def isMT (ms : List Mode) : Bool := inB ms.length 1 16 && modesFrom ms.length 0 ms
theorem isMT_at {ms : List Mode} {k : Nat} {x : Mode} (h : isMT ms = true) (hx : ms[k]? = some x) : modeOk ms.length k x = true := by
  simp only [isMT, Bool.and_eq_true] at h
  have := modesFrom_at ms _ _ k x h.2 hx
  simpa using this
theorem isMT_len {ms : List Mode} (h : isMT ms = true) : 1 ≤ ms.length ∧ ms.length ≤ 16 := by
  simp only [isMT, Bool.and_eq_true] at h
  have := inB_iff.1 h.1; omega
theorem modeOk_in {n i : Int} {x : Mode} (h : modeOk n i x = true) : (1 ≤ x.rounds ∧ x.rounds ≤ 8) ∧ (1 ≤ x.slots ∧ x.slots ≤ 16) ∧ risesB x.next n = true := by
  simp only [modeOk, Bool.and_eq_true] at h
  exact ⟨inB_iff.1 h.1.1.1, inB_iff.1 h.1.1.2, h.1.2⟩
/-- what the laws' size functions give -/
def szInt (n : Nat) (left : Int) : Int := if left - n < 0 then -1 else left - n
def szMs : List ModeI → Int → Int
  | [], left => left
  | x :: r, left => if szInt x.m.next.length left < 0 then -1 else szMs r (szInt x.m.next.length left)
def szM (xs : List ModeI) (left : Int) : Int := if left - xs.length < 0 then -1 else szMs xs (left - xs.length)
end Go.Proofs.YtdoibplhbdkapaaGreatDoor
namespace Go.Proofs.YtdoibplhbdkapaaGreatDoor
open Go.RowKit
set_option linter.unusedVariables false
set_option linter.unusedSimpArgs false
set_option maxRecDepth 20000
theorem l01Rises_c (A : Option Addr) (B c : Nat) (xs : List Int) (n : Int) (w : World) (hs : Sl B w A (xs.flatMap eI)) (hl : xs.length ≤ 1048576) (hn : 0 ≤ n ∧ n ≤ 1048576) :
    Calls Tryz.prog 259 #[.slice A xs.length c, .int .i64 n] w (Ret fun v w' => v = .bool (risesB xs n) ∧ Ext w w') := by
  have Bhs := hs.1
  have X := Ext.refl w
  refine calls_of (args := [.slice A xs.length c, .int .i64 n]) Tryz.func259 Tryz.ntmps259 rfl rfl ?_
  refine c_seqR ?_
  refine ops_cons rfl (ow_assign rfl ?_)
  refine ops_nil ?_
  refine c_seq ?_
  refine c_seqR ?_
  refine ops_cons rfl (ow_assign rfl ?_)
  refine ops_nil ?_
  refine c_block ?_
  refine c_loop (G := Nat) (fun k => [(0, .slice A xs.length c), (1, .int .i64 n), (5, .int .i64 (k : Nat))]) (fun k wr => k ≤ xs.length ∧ risesFrom n none xs = risesFrom n (prevG xs k) (xs.drop k) ∧ Sl B wr A (xs.flatMap eI) ∧ Ext w wr) (fun k => xs.length - k) 0 (.cons rfl (.cons rfl (.cons rfl (.nil _)))) ?_ ?_
  · exact ⟨by omega, rfl, hs, X⟩
  clear hs
  clear X
  rintro k wr ⟨hk0, hi, hs, X⟩
  refine c_seq ?_
  refine c_seqR ?_
  refine ops_cons rfl (ow_move rfl ?_)
  refine ops_cons rfl (ow_move rfl ?_)
  refine ops_cons rfl (ow_len Tryz.underlying30 rfl ?_)
  refine ops_cons rfl (ow_lss2 rfl rfl (fun hk => ?_) (fun hk => ?_))
  obtain ⟨x, hx, dx⟩ := drop_at' hk
  refine ops_nil ?_
  refine c_true rfl ?_
  refine c_skip ?_
  refine tq_n ?_
  refine c_seq ?_
  refine c_block ?_
  refine c_seqD [false, false, false, false, false, false, false, false, false, false, false, false, false, false, false, false, false, false, false, false, false, false, false, false] mixed (by kernel_rfl) ?_
  refine f_q rfl (fun wq sq => ow_move rfl ⟨rfl, Ext.refl _⟩) ?_
  refine f_q rfl (fun wq sq => ow_move rfl ⟨rfl, Ext.refl _⟩) ?_
  refine f_q rfl (fun wq sq => ow_indexT (hs.ext sq) eI_len rfl el30 rfl rfl rfl hx rfl ⟨rfl, Ext.refl _⟩) ?_
  refine f_q rfl (fun wq sq => ow_loadT (hs.ext sq) eI_len hx ti2 rfl rfl rfl ⟨rfl, Ext.refl _⟩) ?_
  refine f_q rfl (fun wq sq => ow_move rfl ⟨rfl, Ext.refl _⟩) ?_
  refine f_q rfl (fun wq sq => ow_sub rfl rfl (w64 (by omega)) ⟨rfl, Ext.refl _⟩) ?_
  refine f_qB rfl (fun wq sq => ow_call ent111 rfl (l01In_c _ _ _ _)) (fun h1 => ?_) (fun h1 => ?_)
  refine f_q rfl (fun wq sq => ow_not rfl ⟨rfl, Ext.refl _⟩) ?_
  refine f_q rfl (fun wq sq => ow_move rfl ⟨rfl, Ext.refl _⟩) ?_
  refine f_qw rfl rfl rfl (fun wq sq => ow_move rfl ⟨rfl, Ext.refl _⟩) ?_
  refine f_qwb rfl rfl rfl (fun wq sq => ow_gtr rfl rfl ⟨rfl, Ext.refl _⟩) (fun hp => ?_) (fun hp => ?_)
  obtain ⟨y, hy⟩ : ∃ y, xs[k - 1]? = some y := ⟨_, List.getElem?_eq_getElem (by omega)⟩
  refine f_qw rfl rfl rfl (fun wq sq => ow_move rfl ⟨rfl, Ext.refl _⟩) ?_
  refine f_qw rfl rfl rfl (fun wq sq => ow_move rfl ⟨rfl, Ext.refl _⟩) ?_
  refine f_qw rfl rfl rfl (fun wq sq => ow_move rfl ⟨rfl, Ext.refl _⟩) ?_
  refine f_qw rfl rfl rfl (fun wq sq => ow_indexT (hs.ext sq) eI_len rfl el30 rfl rfl rfl hx rfl ⟨rfl, Ext.refl _⟩) ?_
  refine f_qw rfl rfl rfl (fun wq sq => ow_loadT (hs.ext sq) eI_len hx ti2 rfl rfl rfl ⟨rfl, Ext.refl _⟩) ?_
  refine f_qw rfl rfl rfl (fun wq sq => ow_move rfl ⟨rfl, Ext.refl _⟩) ?_
  refine f_qw rfl rfl rfl (fun wq sq => ow_move rfl ⟨rfl, Ext.refl _⟩) ?_
  refine f_qw rfl rfl rfl (fun wq sq => ow_sub rfl rfl (w64 (by omega)) ⟨rfl, Ext.refl _⟩) ?_
  refine f_qw rfl rfl rfl (fun wq sq => ow_indexT (hs.ext sq) eI_len rfl el30 rfl rfl rfl hy (by omega) ⟨rfl, Ext.refl _⟩) ?_
  refine f_qw rfl rfl rfl (fun wq sq => ow_loadT (hs.ext sq) eI_len hy ti2 rfl rfl rfl ⟨rfl, Ext.refl _⟩) ?_
  refine f_qwb rfl rfl rfl (fun wq sq => ow_leq rfl rfl ⟨rfl, Ext.refl _⟩) (fun h4 => ?_) (fun h4 => ?_)
  refine f_qw rfl rfl rfl (fun wq sq => ow_pick rfl rfl ⟨rfl, Ext.refl _⟩) ?_
  refine f_q rfl (fun wq sq => ow_pick rfl rfl ⟨rfl, Ext.refl _⟩) ?_
  refine f_nil (fun w5 sq => ?_)
  have xq := sq
  replace hs := hs.ext xq
  replace X := Ext.trans X xq; clear xq sq
  refine ops_nil ?_
  refine c_true rfl ?_
  refine c_seqR ?_
  refine ops_cons rfl (ow_assign rfl ?_)
  refine ops_nil ?_
  refine c_ret ?_
  refine bq_r ?_
  refine tq_r ?_
  refine tq_r ?_
  refine bq_r ?_
  refine tq_r ?_
  refine fin_ret1 rfl rfl ?_
  · skip
    refine ⟨congrArg Value.bool ?_, X⟩
    first
    | (rw [risesB, hi, drop_end hk, rises_nil])
    | (rw [risesB, hi, dx, rises_bad0 (by assumption)])
    | (rw [risesB, hi, dx, rises_bad0 (by simp [inB]; omega)])
    | (rw [risesB, hi, dx, prevG_pos ‹_› hy, rises_bad1 (by omega)])
  refine f_qw rfl rfl rfl (fun wq sq => ow_pick rfl rfl ⟨rfl, Ext.refl _⟩) ?_
  refine f_q rfl (fun wq sq => ow_pick rfl rfl ⟨rfl, Ext.refl _⟩) ?_
  refine f_nil (fun w6 sq => ?_)
  have xq := sq
  replace hs := hs.ext xq
  replace X := Ext.trans X xq; clear xq sq
  refine ops_nil ?_
  refine c_false rfl ?_
  refine c_skip ?_
  refine bq_n ?_
  refine tq_n ?_
  refine c_region ?_
  refine ops_cons rfl (ow_move rfl ?_)
  refine ops_cons rfl (ow_add rfl rfl (w64 (by omega)) ?_)
  refine ops_cons rfl (ow_assign rfl ?_)
  refine ops_nil ?_
  refine tq_n ⟨k + 1, (.cons rfl (.cons rfl (.cons rfl (.nil _)))), ?_, ?_⟩
  · skip
    exact ⟨by omega, (by
      rw [hi, dx, prevG_succ hx]
      have hB : inB x 0 (n - 1) = true := by first | assumption | (rw [inB_iff]; omega)
      first | rw [prevG_zero ‹_›, rises_ok0 hB] | rw [prevG_pos ‹_› hy, rises_ok1 hB (by omega)]), hs, X⟩
  · first | omega | (dsimp only; omega)
  refine f_qw rfl rfl rfl (fun wq sq => ow_move rfl ⟨rfl, Ext.refl _⟩) ?_
  refine f_qs rfl rfl rfl rfl ?_
  refine f_qs rfl rfl rfl rfl ?_
  refine f_qs rfl rfl rfl rfl ?_
  refine f_qs rfl rfl rfl rfl ?_
  refine f_qs rfl rfl rfl rfl ?_
  refine f_qs rfl rfl rfl rfl ?_
  refine f_qs rfl rfl rfl rfl ?_
  refine f_qs rfl rfl rfl rfl ?_
  refine f_qs rfl rfl rfl rfl ?_
  refine f_qs rfl rfl rfl rfl ?_
  refine f_qw rfl rfl rfl (fun wq sq => ow_pick rfl rfl ⟨rfl, Ext.refl _⟩) ?_
  refine f_q rfl (fun wq sq => ow_pick rfl rfl ⟨rfl, Ext.refl _⟩) ?_
  refine f_nil (fun w7 sq => ?_)
  have xq := sq
  replace hs := hs.ext xq
  replace X := Ext.trans X xq; clear xq sq
  refine ops_nil ?_
  refine c_false rfl ?_
  refine c_skip ?_
  refine bq_n ?_
  refine tq_n ?_
  refine c_region ?_
  refine ops_cons rfl (ow_move rfl ?_)
  refine ops_cons rfl (ow_add rfl rfl (w64 (by omega)) ?_)
  refine ops_cons rfl (ow_assign rfl ?_)
  refine ops_nil ?_
  refine tq_n ⟨k + 1, (.cons rfl (.cons rfl (.cons rfl (.nil _)))), ?_, ?_⟩
  · skip
    exact ⟨by omega, (by
      rw [hi, dx, prevG_succ hx]
      have hB : inB x 0 (n - 1) = true := by first | assumption | (rw [inB_iff]; omega)
      first | rw [prevG_zero ‹_›, rises_ok0 hB] | rw [prevG_pos ‹_› hy, rises_ok1 hB (by omega)]), hs, X⟩
  · first | omega | (dsimp only; omega)
  refine f_q rfl (fun wq sq => ow_not rfl ⟨rfl, Ext.refl _⟩) ?_
  refine f_q rfl (fun wq sq => ow_move rfl ⟨rfl, Ext.refl _⟩) ?_
  refine f_qs rfl rfl rfl rfl ?_
  refine f_qs rfl rfl rfl rfl ?_
  refine f_qs rfl rfl rfl rfl ?_
  refine f_qs rfl rfl rfl rfl ?_
  refine f_qs rfl rfl rfl rfl ?_
  refine f_qs rfl rfl rfl rfl ?_
  refine f_qs rfl rfl rfl rfl ?_
  refine f_qs rfl rfl rfl rfl ?_
  refine f_qs rfl rfl rfl rfl ?_
  refine f_qs rfl rfl rfl rfl ?_
  refine f_qs rfl rfl rfl rfl ?_
  refine f_qs rfl rfl rfl rfl ?_
  refine f_qs rfl rfl rfl rfl ?_
  refine f_qs rfl rfl rfl rfl ?_
  refine f_q rfl (fun wq sq => ow_pick rfl rfl ⟨rfl, Ext.refl _⟩) ?_
  refine f_nil (fun w9 sq => ?_)
  have xq := sq
  replace hs := hs.ext xq
  replace X := Ext.trans X xq; clear xq sq
  refine ops_nil ?_
  refine c_true rfl ?_
  refine c_seqR ?_
  refine ops_cons rfl (ow_assign rfl ?_)
  refine ops_nil ?_
  refine c_ret ?_
  refine bq_r ?_
  refine tq_r ?_
  refine tq_r ?_
  refine bq_r ?_
  refine tq_r ?_
  refine fin_ret1 rfl rfl ?_
  · skip
    refine ⟨congrArg Value.bool ?_, X⟩
    first
    | (rw [risesB, hi, drop_end hk, rises_nil])
    | (rw [risesB, hi, dx, rises_bad0 (by assumption)])
    | (rw [risesB, hi, dx, rises_bad0 (by simp [inB]; omega)])
    | (rw [risesB, hi, dx, prevG_pos ‹_› hy, rises_bad1 (by omega)])
  refine ops_nil ?_
  refine c_false rfl ?_
  refine c_exit ?_
  refine tq_e ?_
  refine tq_e ?_
  refine bq_e ?_
  refine tq_n ?_
  refine c_seqR ?_
  refine ops_cons rfl (ow_assign rfl ?_)
  refine ops_nil ?_
  refine c_ret ?_
  refine fin_ret1 rfl rfl ?_
  · skip
    refine ⟨congrArg Value.bool ?_, X⟩
    first
    | (rw [risesB, hi, drop_end hk, rises_nil])
    | (rw [risesB, hi, dx, rises_bad0 (by assumption)])
    | (rw [risesB, hi, dx, rises_bad0 (by simp [inB]; omega)])
    | (rw [risesB, hi, dx, prevG_pos ‹_› hy, rises_bad1 (by omega)])

theorem isRising_c (A : Option Addr) (B c : Nat) (xs : List Int) (n : Int) (w : World) (hs : Sl B w A (xs.flatMap eI)) (hl : xs.length ≤ 1048576) (hn : 0 ≤ n ∧ n ≤ 1048576) :
    Calls Tryz.prog 236 #[.slice A xs.length c, .int .i64 n] w (Ret fun v w' => v = .bool (risesB xs n) ∧ Ext w w') := by
  have Bhs := hs.1
  have X := Ext.refl w
  refine calls_of (args := [.slice A xs.length c, .int .i64 n]) Tryz.func236 Tryz.ntmps236 rfl rfl ?_
  refine c_seqR ?_
  refine ops_cons rfl (ow_assign rfl ?_)
  refine ops_nil ?_
  refine c_seq ?_
  refine c_seqR ?_
  refine ops_cons rfl (ow_move rfl ?_)
  refine ops_cons rfl (ow_len Tryz.underlying30 rfl ?_)
  refine ops_cons rfl (ow_move rfl ?_)
  refine ops_nil ?_
  refine c_block ?_
  refine c_loop (G := Nat) (fun k => [(0, .slice A xs.length c), (1, .int .i64 n), (7, .slice A xs.length c), (8, .int .i64 (xs.length : Nat)), (9, .int .i64 (k : Nat))]) (fun k wr => k ≤ xs.length ∧ risesFrom n none xs = risesFrom n (prevG xs k) (xs.drop k) ∧ Sl B wr A (xs.flatMap eI) ∧ Ext w wr) (fun k => xs.length - k) 0 (.cons rfl (.cons rfl (.cons rfl (.cons rfl (.cons rfl (.nil _)))))) ?_ ?_
  · exact ⟨by omega, rfl, hs, X⟩
  clear hs
  clear X
  rintro k wr ⟨hk0, hi, hs, X⟩
  refine c_seqR ?_
  refine ops_cons rfl (ow_lss2 rfl rfl (fun hk => ?_) (fun hk => ?_))
  obtain ⟨x, hx, dx⟩ := drop_at' hk
  refine ops_nil ?_
  refine c_seq ?_
  refine c_true rfl ?_
  refine c_skip ?_
  refine tq_n ?_
  refine c_seq ?_
  refine c_block ?_
  refine c_seqR ?_
  refine ops_cons rfl (ow_move rfl ?_)
  refine ops_cons rfl (ow_indexT hs eI_len rfl el30 rfl rfl rfl hx rfl ?_)
  refine ops_cons rfl (ow_loadT hs eI_len hx ti2 rfl rfl rfl ?_)
  refine ops_cons rfl (ow_assign rfl ?_)
  refine ops_cons rfl (ow_assign rfl ?_)
  refine ops_nil ?_
  refine c_seqR ?_
  refine ops_cons rfl (ow_move rfl ?_)
  refine ops_cons rfl (ow_lss2 rfl rfl (fun h1 => ?_) (fun h1 => ?_))
  refine ops_cons rfl (ow_move rfl ?_)
  refine ops_skip rfl rfl rfl rfl ?_
  refine ops_skip rfl rfl rfl rfl ?_
  refine ops_skip rfl rfl rfl rfl ?_
  refine ops_cons rfl (ow_pick rfl rfl ?_)
  refine ops_cons rfl (ow_move rfl ?_)
  refine ops_skip rfl rfl rfl rfl ?_
  refine ops_skip rfl rfl rfl rfl ?_
  refine ops_skip rfl rfl rfl rfl ?_
  refine ops_skip2 rfl rfl rfl ?_
  refine ops_skip2 rfl rfl rfl ?_
  refine ops_skip2 rfl rfl rfl ?_
  refine ops_skip2 rfl rfl rfl ?_
  refine ops_skip2 rfl rfl rfl ?_
  refine ops_skip2 rfl rfl rfl ?_
  refine ops_skip2 rfl rfl rfl ?_
  refine ops_skip rfl rfl rfl rfl ?_
  refine ops_cons rfl (ow_pick rfl rfl ?_)
  refine ops_nil ?_
  refine c_true rfl ?_
  refine c_seqR ?_
  refine ops_cons rfl (ow_assign rfl ?_)
  refine ops_nil ?_
  refine c_ret ?_
  refine bq_r ?_
  refine tq_r ?_
  refine tq_r ?_
  refine bq_r ?_
  refine tq_r ?_
  refine fin_ret1 rfl rfl ?_
  · skip
    refine ⟨congrArg Value.bool ?_, X⟩
    first
    | (rw [risesB, hi, drop_end hk, rises_nil])
    | (rw [risesB, hi, dx, rises_bad0 (by assumption)])
    | (rw [risesB, hi, dx, rises_bad0 (by simp [inB]; omega)])
    | (rw [risesB, hi, dx, prevG_pos ‹_› hy, rises_bad1 (by omega)])
  refine ops_cons rfl (ow_move rfl ?_)
  refine ops_want rfl rfl rfl (ow_move rfl ?_)
  refine ops_want rfl rfl rfl (ow_move rfl ?_)
  refine ops_want rfl rfl rfl (ow_geq2 rfl rfl (fun h2 => ?_) (fun h2 => ?_))
  refine ops_cons rfl (ow_pick rfl rfl ?_)
  refine ops_cons rfl (ow_move rfl ?_)
  refine ops_skip rfl rfl rfl rfl ?_
  refine ops_skip rfl rfl rfl rfl ?_
  refine ops_skip rfl rfl rfl rfl ?_
  refine ops_skip2 rfl rfl rfl ?_
  refine ops_skip2 rfl rfl rfl ?_
  refine ops_skip2 rfl rfl rfl ?_
  refine ops_skip2 rfl rfl rfl ?_
  refine ops_skip2 rfl rfl rfl ?_
  refine ops_skip2 rfl rfl rfl ?_
  refine ops_skip2 rfl rfl rfl ?_
  refine ops_skip rfl rfl rfl rfl ?_
  refine ops_cons rfl (ow_pick rfl rfl ?_)
  refine ops_nil ?_
  refine c_true rfl ?_
  refine c_seqR ?_
  refine ops_cons rfl (ow_assign rfl ?_)
  refine ops_nil ?_
  refine c_ret ?_
  refine bq_r ?_
  refine tq_r ?_
  refine tq_r ?_
  refine bq_r ?_
  refine tq_r ?_
  refine fin_ret1 rfl rfl ?_
  · skip
    refine ⟨congrArg Value.bool ?_, X⟩
    first
    | (rw [risesB, hi, drop_end hk, rises_nil])
    | (rw [risesB, hi, dx, rises_bad0 (by assumption)])
    | (rw [risesB, hi, dx, rises_bad0 (by simp [inB]; omega)])
    | (rw [risesB, hi, dx, prevG_pos ‹_› hy, rises_bad1 (by omega)])
  refine ops_cons rfl (ow_pick rfl rfl ?_)
  refine ops_cons rfl (ow_move rfl ?_)
  refine ops_want rfl rfl rfl (ow_move rfl ?_)
  refine ops_want rfl rfl rfl (ow_gtr2 rfl rfl (fun hp => ?_) (fun hp => ?_))
  obtain ⟨y, hy⟩ : ∃ y, xs[k - 1]? = some y := ⟨_, List.getElem?_eq_getElem (by omega)⟩
  refine ops_want rfl rfl rfl (ow_move rfl ?_)
  refine ops_want rfl rfl rfl (ow_move rfl ?_)
  refine ops_want rfl rfl rfl (ow_move rfl ?_)
  refine ops_want rfl rfl rfl (ow_sub rfl rfl (w64 (by omega)) ?_)
  refine ops_want rfl rfl rfl (ow_indexT hs eI_len rfl el30 rfl rfl rfl hy (by omega) ?_)
  refine ops_want rfl rfl rfl (ow_loadT hs eI_len hy ti2 rfl rfl rfl ?_)
  refine ops_want rfl rfl rfl (ow_move rfl ?_)
  refine ops_want rfl rfl rfl (ow_geq2 rfl rfl (fun h3 => ?_) (fun h3 => ?_))
  refine ops_want rfl rfl rfl (ow_pick rfl rfl ?_)
  refine ops_cons rfl (ow_pick rfl rfl ?_)
  refine ops_nil ?_
  refine c_true rfl ?_
  refine c_seqR ?_
  refine ops_cons rfl (ow_assign rfl ?_)
  refine ops_nil ?_
  refine c_ret ?_
  refine bq_r ?_
  refine tq_r ?_
  refine tq_r ?_
  refine bq_r ?_
  refine tq_r ?_
  refine fin_ret1 rfl rfl ?_
  · skip
    refine ⟨congrArg Value.bool ?_, X⟩
    first
    | (rw [risesB, hi, drop_end hk, rises_nil])
    | (rw [risesB, hi, dx, rises_bad0 (by assumption)])
    | (rw [risesB, hi, dx, rises_bad0 (by simp [inB]; omega)])
    | (rw [risesB, hi, dx, prevG_pos ‹_› hy, rises_bad1 (by omega)])
  refine ops_want rfl rfl rfl (ow_pick rfl rfl ?_)
  refine ops_cons rfl (ow_pick rfl rfl ?_)
  refine ops_nil ?_
  refine c_false rfl ?_
  refine c_skip ?_
  refine bq_n ?_
  refine tq_n ?_
  refine c_region ?_
  refine ops_cons rfl (ow_add rfl rfl (w64 (by omega)) ?_)
  refine ops_cons rfl (ow_move rfl ?_)
  refine ops_nil ?_
  refine tq_n ⟨k + 1, (.cons rfl (.cons rfl (.cons rfl (.cons rfl (.cons rfl (.nil _)))))), ?_, ?_⟩
  · skip
    exact ⟨by omega, (by
      rw [hi, dx, prevG_succ hx]
      have hB : inB x 0 (n - 1) = true := by first | assumption | (rw [inB_iff]; omega)
      first | rw [prevG_zero ‹_›, rises_ok0 hB] | rw [prevG_pos ‹_› hy, rises_ok1 hB (by omega)]), hs, X⟩
  · first | omega | (dsimp only; omega)
  refine ops_want rfl rfl rfl (ow_move rfl ?_)
  refine ops_skip rfl rfl rfl rfl ?_
  refine ops_skip rfl rfl rfl rfl ?_
  refine ops_skip rfl rfl rfl rfl ?_
  refine ops_skip rfl rfl rfl rfl ?_
  refine ops_skip rfl rfl rfl rfl ?_
  refine ops_skip rfl rfl rfl rfl ?_
  refine ops_skip rfl rfl rfl rfl ?_
  refine ops_want rfl rfl rfl (ow_pick rfl rfl ?_)
  refine ops_cons rfl (ow_pick rfl rfl ?_)
  refine ops_nil ?_
  refine c_false rfl ?_
  refine c_skip ?_
  refine bq_n ?_
  refine tq_n ?_
  refine c_region ?_
  refine ops_cons rfl (ow_add rfl rfl (w64 (by omega)) ?_)
  refine ops_cons rfl (ow_move rfl ?_)
  refine ops_nil ?_
  refine tq_n ⟨k + 1, (.cons rfl (.cons rfl (.cons rfl (.cons rfl (.cons rfl (.nil _)))))), ?_, ?_⟩
  · skip
    exact ⟨by omega, (by
      rw [hi, dx, prevG_succ hx]
      have hB : inB x 0 (n - 1) = true := by first | assumption | (rw [inB_iff]; omega)
      first | rw [prevG_zero ‹_›, rises_ok0 hB] | rw [prevG_pos ‹_› hy, rises_ok1 hB (by omega)]), hs, X⟩
  · first | omega | (dsimp only; omega)
  refine ops_nil ?_
  refine c_seq ?_
  refine c_false rfl ?_
  refine c_exit ?_
  refine tq_e ?_
  refine tq_e ?_
  refine bq_e ?_
  refine tq_n ?_
  refine c_seqR ?_
  refine ops_cons rfl (ow_assign rfl ?_)
  refine ops_nil ?_
  refine c_ret ?_
  refine fin_ret1 rfl rfl ?_
  · skip
    refine ⟨congrArg Value.bool ?_, X⟩
    first
    | (rw [risesB, hi, drop_end hk, rises_nil])
    | (rw [risesB, hi, dx, rises_bad0 (by assumption)])
    | (rw [risesB, hi, dx, rises_bad0 (by simp [inB]; omega)])
    | (rw [risesB, hi, dx, prevG_pos ‹_› hy, rises_bad1 (by omega)])

theorem l01Has_c (A : Option Addr) (B c : Nat) (xs : List Int) (n : Int) (w : World) (hs : Sl B w A (xs.flatMap eI)) (hl : xs.length ≤ 1048576) :
    Calls Tryz.prog 99 #[.slice A xs.length c, .int .i64 n] w (Ret fun v w' => v = .bool (hasB xs n) ∧ Ext w w') := by
  have Bhs := hs.1
  have X := Ext.refl w
  refine calls_of (args := [.slice A xs.length c, .int .i64 n]) Tryz.func99 Tryz.ntmps99 rfl rfl ?_
  refine c_seqR ?_
  refine ops_cons rfl (ow_assign rfl ?_)
  refine ops_nil ?_
  refine c_seq ?_
  refine c_seqR ?_
  refine ops_cons rfl (ow_assign rfl ?_)
  refine ops_nil ?_
  refine c_block ?_
  refine c_loop (G := Nat) (fun k => [(0, .slice A xs.length c), (1, .int .i64 n), (5, .int .i64 (k : Nat))]) (fun k wr => k ≤ xs.length ∧ hasB xs n = hasB (xs.drop k) n ∧ Sl B wr A (xs.flatMap eI) ∧ Ext w wr) (fun k => xs.length - k) 0 (.cons rfl (.cons rfl (.cons rfl (.nil _)))) ?_ ?_
  · exact ⟨by omega, rfl, hs, X⟩
  clear hs
  clear X
  rintro k wr ⟨hk0, hi, hs, X⟩
  refine c_seq ?_
  refine c_seqR ?_
  refine ops_cons rfl (ow_move rfl ?_)
  refine ops_cons rfl (ow_move rfl ?_)
  refine ops_cons rfl (ow_len Tryz.underlying30 rfl ?_)
  refine ops_cons rfl (ow_lss2 rfl rfl (fun hk => ?_) (fun hk => ?_))
  obtain ⟨x, hx, dx⟩ := drop_at' hk
  refine ops_nil ?_
  refine c_true rfl ?_
  refine c_skip ?_
  refine tq_n ?_
  refine c_seq ?_
  refine c_block ?_
  refine c_seqR ?_
  refine ops_cons rfl (ow_move rfl ?_)
  refine ops_cons rfl (ow_move rfl ?_)
  refine ops_cons rfl (ow_indexT hs eI_len rfl el30 rfl rfl rfl hx rfl ?_)
  refine ops_cons rfl (ow_loadT hs eI_len hx ti2 rfl rfl rfl ?_)
  refine ops_cons rfl (ow_move rfl ?_)
  refine ops_cons rfl (ow_eql2 rfl rfl (fun h1 => ?_) (fun h1 => ?_))
  refine ops_nil ?_
  refine c_true rfl ?_
  refine c_seqR ?_
  refine ops_cons rfl (ow_assign rfl ?_)
  refine ops_nil ?_
  refine c_ret ?_
  refine bq_r ?_
  refine tq_r ?_
  refine tq_r ?_
  refine bq_r ?_
  refine tq_r ?_
  refine fin_ret1 rfl rfl ?_
  · skip
    refine ⟨congrArg Value.bool ?_, X⟩
    first | (rw [hi, drop_end hk]; rfl) | (rw [hi, dx]; simp [hasB, *])
  refine ops_nil ?_
  refine c_false rfl ?_
  refine c_skip ?_
  refine bq_n ?_
  refine tq_n ?_
  refine c_region ?_
  refine ops_cons rfl (ow_move rfl ?_)
  refine ops_cons rfl (ow_add rfl rfl (w64 (by omega)) ?_)
  refine ops_cons rfl (ow_assign rfl ?_)
  refine ops_nil ?_
  refine tq_n ⟨k + 1, (.cons rfl (.cons rfl (.cons rfl (.nil _)))), ?_, ?_⟩
  · exact ⟨by omega, (by rw [hi, dx]; simp [hasB, *]), hs, X⟩
  · first | omega | (dsimp only; omega)
  refine ops_nil ?_
  refine c_false rfl ?_
  refine c_exit ?_
  refine tq_e ?_
  refine tq_e ?_
  refine bq_e ?_
  refine tq_n ?_
  refine c_seqR ?_
  refine ops_cons rfl (ow_assign rfl ?_)
  refine ops_nil ?_
  refine c_ret ?_
  refine fin_ret1 rfl rfl ?_
  · skip
    refine ⟨congrArg Value.bool ?_, X⟩
    first | (rw [hi, drop_end hk]; rfl) | (rw [hi, dx]; simp [hasB, *])

theorem index_c (A : Option Addr) (B c : Nat) (xs : List Int) (n : Int) (w : World) (hs : Sl B w A (xs.flatMap eI)) (hl : xs.length ≤ 1048576) :
    Calls Tryz.prog 167 #[.slice A xs.length c, .int .i64 n] w (Ret fun v w' => v = .int .i64 (idxI n 0 xs) ∧ Ext w w') := by
  have Bhs := hs.1
  have X := Ext.refl w
  refine calls_of (args := [.slice A xs.length c, .int .i64 n]) Tryz.func167 Tryz.ntmps167 rfl rfl ?_
  refine c_seqR ?_
  refine ops_cons rfl (ow_assign rfl ?_)
  refine ops_nil ?_
  refine c_seq ?_
  refine c_seqR ?_
  refine ops_cons rfl (ow_move rfl ?_)
  refine ops_cons rfl (ow_len Tryz.underlying30 rfl ?_)
  refine ops_cons rfl (ow_move rfl ?_)
  refine ops_nil ?_
  refine c_block ?_
  refine c_loop (G := Nat) (fun k => [(0, .slice A xs.length c), (1, .int .i64 n), (7, .int .i64 (xs.length : Nat)), (8, .int .i64 (k : Nat))]) (fun k wr => k ≤ xs.length ∧ idxI n 0 xs = idxI n k (xs.drop k) ∧ Sl B wr A (xs.flatMap eI) ∧ Ext w wr) (fun k => xs.length - k) 0 (.cons rfl (.cons rfl (.cons rfl (.cons rfl (.nil _))))) ?_ ?_
  · exact ⟨by omega, rfl, hs, X⟩
  clear hs
  clear X
  rintro k wr ⟨hk0, hi, hs, X⟩
  refine c_seqR ?_
  refine ops_cons rfl (ow_lss2 rfl rfl (fun hk => ?_) (fun hk => ?_))
  obtain ⟨x, hx, dx⟩ := drop_at' hk
  refine ops_nil ?_
  refine c_seq ?_
  refine c_true rfl ?_
  refine c_skip ?_
  refine tq_n ?_
  refine c_seq ?_
  refine c_block ?_
  refine c_seqR ?_
  refine ops_cons rfl (ow_move rfl ?_)
  refine ops_cons rfl (ow_assign rfl ?_)
  refine ops_nil ?_
  refine c_seqR ?_
  refine ops_cons rfl (ow_move rfl ?_)
  refine ops_cons rfl (ow_move rfl ?_)
  refine ops_cons rfl (ow_move rfl ?_)
  refine ops_cons rfl (ow_indexT hs eI_len rfl el30 rfl rfl rfl hx rfl ?_)
  refine ops_cons rfl (ow_loadT hs eI_len hx ti2 rfl rfl rfl ?_)
  refine ops_cons rfl (ow_eql2 rfl rfl (fun h1 => ?_) (fun h1 => ?_))
  refine ops_nil ?_
  refine c_true rfl ?_
  refine c_seqR ?_
  refine ops_cons rfl (ow_move rfl ?_)
  refine ops_cons rfl (ow_assign rfl ?_)
  refine ops_nil ?_
  refine c_ret ?_
  refine bq_r ?_
  refine tq_r ?_
  refine tq_r ?_
  refine bq_r ?_
  refine tq_r ?_
  refine fin_ret1 rfl rfl ?_
  · skip
    refine ⟨congrArg (Value.int .i64) ?_, X⟩
    first | (rw [hi, drop_end hk]; rfl) | (rw [hi, dx, idxI, if_pos (by omega)])
  refine ops_nil ?_
  refine c_false rfl ?_
  refine c_skip ?_
  refine bq_n ?_
  refine tq_n ?_
  refine c_region ?_
  refine ops_cons rfl (ow_add rfl rfl (w64 (by omega)) ?_)
  refine ops_cons rfl (ow_move rfl ?_)
  refine ops_nil ?_
  refine tq_n ⟨k + 1, (.cons rfl (.cons rfl (.cons rfl (.cons rfl (.nil _))))), ?_, ?_⟩
  · exact ⟨by omega, (by rw [hi, dx, idxI, if_neg (by omega)]; rfl), hs, X⟩
  · first | omega | (dsimp only; omega)
  refine ops_nil ?_
  refine c_seq ?_
  refine c_false rfl ?_
  refine c_exit ?_
  refine tq_e ?_
  refine tq_e ?_
  refine bq_e ?_
  refine tq_n ?_
  refine c_seqR ?_
  refine ops_cons rfl (ow_assign rfl ?_)
  refine ops_nil ?_
  refine c_ret ?_
  refine fin_ret1 rfl rfl ?_
  · skip
    refine ⟨congrArg (Value.int .i64) ?_, X⟩
    first | (rw [hi, drop_end hk]; rfl) | (rw [hi, dx, idxI, if_pos (by omega)])

theorem contains_c (A : Option Addr) (B c : Nat) (xs : List Int) (n : Int) (w : World) (hs : Sl B w A (xs.flatMap eI)) (hl : xs.length ≤ 1048576) :
    Calls Tryz.prog 83 #[.slice A xs.length c, .int .i64 n] w (Ret fun v w' => v = .bool (hasB xs n) ∧ Ext w w') := by
  have Bhs := hs.1
  have X := Ext.refl w
  refine calls_of (args := [.slice A xs.length c, .int .i64 n]) Tryz.func83 Tryz.ntmps83 rfl rfl ?_
  refine c_seqR ?_
  refine ops_cons rfl (ow_assign rfl ?_)
  refine ops_nil ?_
  refine c_seqR ?_
  refine ops_cons rfl (ow_move rfl ?_)
  refine ops_cons rfl (ow_move rfl ?_)
  refine ops_cons rfl (ow_call ent167 rfl (ret_mono (index_c _ _ _ _ _ _ hs hl) ?_))
  rintro _ w2 ⟨rfl, x1⟩
  replace hs := hs.ext x1
  replace X := Ext.trans X x1; clear x1
  refine ops_cons rfl (ow_geq rfl rfl ?_)
  refine ops_cons rfl (ow_assign rfl ?_)
  refine ops_nil ?_
  refine c_ret ?_
  refine fin_ret1 rfl rfl ?_
  exact ⟨congrArg Value.bool (idxI_has n xs 0 (by omega)), X⟩

theorem allWithin_c (A : Option Addr) (B c : Nat) (xs : List Int) (lo hi0 : Int) (w : World) (hs : Sl B w A (xs.flatMap eI)) (hl : xs.length ≤ 1048576) :
    Calls Tryz.prog 159 #[.slice A xs.length c, .int .i64 lo, .int .i64 hi0] w (Ret fun v w' => v = .bool (xs.all fun x => inB x lo hi0) ∧ Ext w w') := by
  have Bhs := hs.1
  have X := Ext.refl w
  refine calls_of (args := [.slice A xs.length c, .int .i64 lo, .int .i64 hi0]) Tryz.func159 Tryz.ntmps159 rfl rfl ?_
  refine c_seqR ?_
  refine ops_cons rfl (ow_assign rfl ?_)
  refine ops_nil ?_
  refine c_seq ?_
  refine c_seqR ?_
  refine ops_cons rfl (ow_move rfl ?_)
  refine ops_cons rfl (ow_len Tryz.underlying30 rfl ?_)
  refine ops_cons rfl (ow_move rfl ?_)
  refine ops_nil ?_
  refine c_block ?_
  refine c_loop (G := Nat) (fun k => [(1, .int .i64 lo), (2, .int .i64 hi0), (9, .slice A xs.length c), (10, .int .i64 (xs.length : Nat)), (11, .int .i64 (k : Nat))]) (fun k wr => k ≤ xs.length ∧ (xs.all fun x => inB x lo hi0) = ((xs.drop k).all fun x => inB x lo hi0) ∧ Sl B wr A (xs.flatMap eI) ∧ Ext w wr) (fun k => xs.length - k) 0 (.cons rfl (.cons rfl (.cons rfl (.cons rfl (.cons rfl (.nil _)))))) ?_ ?_
  · exact ⟨by omega, rfl, hs, X⟩
  clear hs
  clear X
  rintro k wr ⟨hk0, hi, hs, X⟩
  refine c_seqR ?_
  refine ops_cons rfl (ow_lss2 rfl rfl (fun hk => ?_) (fun hk => ?_))
  obtain ⟨x, hx, dx⟩ := drop_at' hk
  refine ops_nil ?_
  refine c_seq ?_
  refine c_true rfl ?_
  refine c_skip ?_
  refine tq_n ?_
  refine c_seq ?_
  refine c_block ?_
  refine c_seqR ?_
  refine ops_cons rfl (ow_indexT hs eI_len rfl el30 rfl rfl rfl hx rfl ?_)
  refine ops_cons rfl (ow_loadT hs eI_len hx ti2 rfl rfl rfl ?_)
  refine ops_cons rfl (ow_assign rfl ?_)
  refine ops_nil ?_
  refine c_seqR ?_
  refine ops_cons rfl (ow_move rfl ?_)
  refine ops_cons rfl (ow_move rfl ?_)
  refine ops_cons rfl (ow_lss2 rfl rfl (fun h1 => ?_) (fun h1 => ?_))
  refine ops_cons rfl (ow_move rfl ?_)
  refine ops_skip rfl rfl rfl rfl ?_
  refine ops_skip rfl rfl rfl rfl ?_
  refine ops_skip rfl rfl rfl rfl ?_
  refine ops_cons rfl (ow_pick rfl rfl ?_)
  refine ops_nil ?_
  refine c_true rfl ?_
  refine c_seqR ?_
  refine ops_cons rfl (ow_assign rfl ?_)
  refine ops_nil ?_
  refine c_ret ?_
  refine bq_r ?_
  refine tq_r ?_
  refine tq_r ?_
  refine bq_r ?_
  refine tq_r ?_
  refine fin_ret1 rfl rfl ?_
  · skip
    refine ⟨congrArg Value.bool ?_, X⟩
    first | (rw [hi, drop_end hk]; rfl) | (rw [hi, dx, List.all_cons, inB, decide_eq_false (by omega)]; rfl) | (rw [hi, dx, List.all_cons, inB, decide_eq_true (by omega), decide_eq_false (by omega)]; rfl)
  refine ops_cons rfl (ow_move rfl ?_)
  refine ops_want rfl rfl rfl (ow_move rfl ?_)
  refine ops_want rfl rfl rfl (ow_move rfl ?_)
  refine ops_want rfl rfl rfl (ow_gtr2 rfl rfl (fun h2 => ?_) (fun h2 => ?_))
  refine ops_cons rfl (ow_pick rfl rfl ?_)
  refine ops_nil ?_
  refine c_true rfl ?_
  refine c_seqR ?_
  refine ops_cons rfl (ow_assign rfl ?_)
  refine ops_nil ?_
  refine c_ret ?_
  refine bq_r ?_
  refine tq_r ?_
  refine tq_r ?_
  refine bq_r ?_
  refine tq_r ?_
  refine fin_ret1 rfl rfl ?_
  · skip
    refine ⟨congrArg Value.bool ?_, X⟩
    first | (rw [hi, drop_end hk]; rfl) | (rw [hi, dx, List.all_cons, inB, decide_eq_false (by omega)]; rfl) | (rw [hi, dx, List.all_cons, inB, decide_eq_true (by omega), decide_eq_false (by omega)]; rfl)
  refine ops_cons rfl (ow_pick rfl rfl ?_)
  refine ops_nil ?_
  refine c_false rfl ?_
  refine c_skip ?_
  refine bq_n ?_
  refine tq_n ?_
  refine c_region ?_
  refine ops_cons rfl (ow_add rfl rfl (w64 (by omega)) ?_)
  refine ops_cons rfl (ow_move rfl ?_)
  refine ops_nil ?_
  refine tq_n ⟨k + 1, (.cons rfl (.cons rfl (.cons rfl (.cons rfl (.cons rfl (.nil _)))))), ?_, ?_⟩
  · exact ⟨by omega, (by rw [hi, dx, List.all_cons, inB, decide_eq_true (by omega), decide_eq_true (by omega)]; rfl), hs, X⟩
  · first | omega | (dsimp only; omega)
  refine ops_nil ?_
  refine c_seq ?_
  refine c_false rfl ?_
  refine c_exit ?_
  refine tq_e ?_
  refine tq_e ?_
  refine bq_e ?_
  refine tq_n ?_
  refine c_seqR ?_
  refine ops_cons rfl (ow_assign rfl ?_)
  refine ops_nil ?_
  refine c_ret ?_
  refine fin_ret1 rfl rfl ?_
  · skip
    refine ⟨congrArg Value.bool ?_, X⟩
    first | (rw [hi, drop_end hk]; rfl) | (rw [hi, dx, List.all_cons, inB, decide_eq_false (by omega)]; rfl) | (rw [hi, dx, List.all_cons, inB, decide_eq_true (by omega), decide_eq_false (by omega)]; rfl)
end Go.Proofs.YtdoibplhbdkapaaGreatDoor
namespace Go.Proofs.YtdoibplhbdkapaaGreatDoor
open Go.RowKit
set_option linter.unusedVariables false
set_option linter.unusedSimpArgs false
set_option maxRecDepth 20000
theorem sIsMT_c (A : Option Addr) (B B2 c : Nat) (xs : List ModeI) (w : World) (hs : Sl B w A (xs.flatMap ModeI.cells)) (hn : Nexts B2 w xs) (hl : xs.length ≤ 1048576) (hz : ∀ x ∈ xs, x.m.next.length ≤ 1048576) :
    Calls Tryz.prog 225 #[.slice A xs.length c] w (Ret fun v w' => v = .bool (isMT (xs.map (·.m))) ∧ Ext w w') := by
  have Bhs := hs.1
  have Bhn := hn.1
  have X := Ext.refl w
  refine calls_of (args := [.slice A xs.length c]) Tryz.func225 Tryz.ntmps225 rfl rfl ?_
  refine c_seqR ?_
  refine ops_cons rfl (ow_assign rfl ?_)
  refine ops_nil ?_
  refine c_seq ?_
  refine c_seqR ?_
  refine ops_cons rfl (ow_move rfl ?_)
  refine ops_cons rfl (ow_len Tryz.underlying25 rfl ?_)
  refine ops_cons rfl (ow_callB ent111 rfl (l01In_c _ _ _ _) (fun w2 hB x1 => ?_) (fun w2 hB x1 => ?_))
  replace hs := hs.ext x1
  replace hn := hn.ext x1
  replace X := Ext.trans X x1; clear x1
  refine ops_cons rfl (ow_not rfl ?_)
  refine ops_nil ?_
  refine c_false rfl ?_
  refine c_skip ?_
  refine tq_n ?_
  refine c_seq ?_
  refine c_seqR ?_
  refine ops_cons rfl (ow_assign rfl ?_)
  refine ops_nil ?_
  refine c_block ?_
  refine c_loop (G := Nat) (fun k => [(0, .slice A xs.length c), (3, .int .i64 (k : Nat))]) (fun k wr => k ≤ xs.length ∧ modesFrom (xs.length : Int) 0 (xs.map (·.m)) = modesFrom (xs.length : Int) k ((xs.drop k).map (·.m)) ∧ Sl B wr A (xs.flatMap ModeI.cells) ∧ Nexts B2 wr xs ∧ Ext w wr) (fun k => xs.length - k) 0 (.cons rfl (.cons rfl (.nil _))) ?_ ?_
  · exact ⟨by omega, rfl, hs, hn, X⟩
  clear hs hn
  clear X
  rintro k wr ⟨hk0, hi, hs, hn, X⟩
  refine c_seq ?_
  refine c_seqR ?_
  refine ops_cons rfl (ow_move rfl ?_)
  refine ops_cons rfl (ow_move rfl ?_)
  refine ops_cons rfl (ow_len Tryz.underlying25 rfl ?_)
  refine ops_cons rfl (ow_lss2 rfl rfl (fun hk => ?_) (fun hk => ?_))
  obtain ⟨x, hx, dx⟩ := drop_at' hk
  refine ops_nil ?_
  refine c_true rfl ?_
  refine c_skip ?_
  refine tq_n ?_
  refine c_seq ?_
  refine c_block ?_
  refine c_seqR ?_
  refine ops_cons rfl (ow_move rfl ?_)
  refine ops_cons rfl (ow_move rfl ?_)
  refine ops_cons rfl (ow_indexT hs ModeI.len rfl el25 rfl rfl rfl hx rfl ?_)
  have hnx := hn.at_ hx
  have hlx := hz x (List.mem_of_getElem? hx)
  refine ops_cons rfl (ow_loadTA hs ModeI.len hx ti92 rfl ?_)
  refine ops_cons rfl (ow_alloc ti92 ?_)
  intro g6 w5 eg6 b3 x4 zg6
  have lg6 : w.heap.size ≤ g6 := Nat.le_trans X.size (Nat.le_of_eq eg6.symm)
  have pg6hs := Nat.le_trans hs.1 (Nat.le_of_eq eg6.symm)
  have pg6hn := Nat.le_trans hn.1 (Nat.le_of_eq eg6.symm)
  have pg6hnx := Nat.le_trans hnx.1 (Nat.le_of_eq eg6.symm)
  replace hs := hs.ext x4
  replace hn := hn.ext x4
  replace hnx := hnx.ext x4
  replace X := Ext.trans X x4; clear x4
  refine ops_cons rfl (ow_storeB b3 ti92 rfl rfl rfl rfl rfl rfl ?_)
  intro w9 b11 hg7 z10
  replace hs := hs.grown hg7 (by intro g hg; injection hg; omega)
  replace hn := hn.grown hg7 (by intro g hg; injection hg; omega)
  replace hnx := hnx.grown hg7 (by intro g hg; injection hg; omega)
  replace X := X.grown hg7 X.size (by intro g hg; injection hg; omega)
  clear hg7 b3
  refine ops_nil ?_
  refine c_seqR ?_
  refine ops_cons rfl (ow_fieldAddrB off92_0 rfl rfl ?_)
  refine ops_cons rfl (ow_loadB b11 ti2 rfl rfl ?_)
  refine ops_cons rfl (ow_callB ent111 rfl (l01In_c _ _ _ _) (fun w14 h12 x13 => ?_) (fun w14 h12 x13 => ?_))
  replace hs := hs.ext x13
  replace hn := hn.ext x13
  replace hnx := hnx.ext x13
  replace b11 := b11.ext x13
  replace X := Ext.trans X x13; clear x13
  refine ops_cons rfl (ow_not rfl ?_)
  refine ops_cons rfl (ow_move rfl ?_)
  refine ops_want rfl rfl rfl (ow_fieldAddrB off92_1 rfl rfl ?_)
  refine ops_want rfl rfl rfl (ow_loadB b11 ti2 rfl rfl ?_)
  refine ops_want rfl rfl rfl (ow_callB ent111 rfl (l01In_c _ _ _ _) (fun w17 h15 x16 => ?_) (fun w17 h15 x16 => ?_))
  replace hs := hs.ext x16
  replace hn := hn.ext x16
  replace hnx := hnx.ext x16
  replace b11 := b11.ext x16
  replace X := Ext.trans X x16; clear x16
  refine ops_want rfl rfl rfl (ow_not rfl ?_)
  refine ops_cons rfl (ow_pick rfl rfl ?_)
  refine ops_cons rfl (ow_move rfl ?_)
  refine ops_want rfl rfl rfl (ow_fieldAddrB off92_2 rfl rfl ?_)
  refine ops_want rfl rfl rfl (ow_loadB b11 ti30 rfl rfl ?_)
  refine ops_want rfl rfl rfl (ow_move rfl ?_)
  refine ops_want rfl rfl rfl (ow_len Tryz.underlying25 rfl ?_)
  refine ops_want rfl rfl rfl (ow_callB ent259 rfl (l01Rises_c _ _ _ _ _ _ hnx hlx (by omega)) (fun w20 h18 x19 => ?_) (fun w20 h18 x19 => ?_))
  replace hs := hs.ext x19
  replace hn := hn.ext x19
  replace hnx := hnx.ext x19
  replace b11 := b11.ext x19
  replace X := Ext.trans X x19; clear x19
  refine ops_want rfl rfl rfl (ow_not rfl ?_)
  refine ops_cons rfl (ow_pick rfl rfl ?_)
  refine ops_cons rfl (ow_move rfl ?_)
  refine ops_want rfl rfl rfl (ow_fieldAddrB off92_2 rfl rfl ?_)
  refine ops_want rfl rfl rfl (ow_loadB b11 ti30 rfl rfl ?_)
  refine ops_want rfl rfl rfl (ow_move rfl ?_)
  refine ops_want rfl rfl rfl (ow_callB ent99 rfl (l01Has_c _ _ _ _ _ _ hnx hlx) (fun w23 h21 x22 => ?_) (fun w23 h21 x22 => ?_))
  replace hs := hs.ext x22
  replace hn := hn.ext x22
  replace hnx := hnx.ext x22
  replace b11 := b11.ext x22
  replace X := Ext.trans X x22; clear x22
  refine ops_cons rfl (ow_pick rfl rfl ?_)
  refine ops_nil ?_
  refine c_true rfl ?_
  refine c_seqR ?_
  refine ops_cons rfl (ow_assign rfl ?_)
  refine ops_nil ?_
  refine c_ret ?_
  refine bq_r ?_
  refine tq_r ?_
  refine tq_r ?_
  refine bq_r ?_
  refine tq_r ?_
  refine fin_ret1 rfl rfl ?_
  · skip
    refine ⟨congrArg Value.bool ?_, X⟩
    rw [isMT, List.length_map]
    first
    | (rw [hB]; rfl)
    | (rw [hB, hi, drop_end hk]; rfl)
    | (rw [hi, drop_end hk]; simp [modesFrom, inB, *]; done)
    | (rw [hi, drop_end hk]; simp [modesFrom, inB]; omega)
    | (rw [hi, dx, List.map_cons, modesFrom]; simp [modeOk, *])
  replace hs := hs.ext x22
  replace hn := hn.ext x22
  replace hnx := hnx.ext x22
  replace b11 := b11.ext x22
  replace X := Ext.trans X x22; clear x22
  refine ops_cons rfl (ow_pick rfl rfl ?_)
  refine ops_nil ?_
  refine c_false rfl ?_
  refine c_skip ?_
  refine bq_n ?_
  refine tq_n ?_
  refine c_region ?_
  refine ops_cons rfl (ow_move rfl ?_)
  refine ops_cons rfl (ow_add rfl rfl (w64 (by omega)) ?_)
  refine ops_cons rfl (ow_assign rfl ?_)
  refine ops_nil ?_
  refine tq_n ⟨k + 1, (.cons rfl (.cons rfl (.nil _))), ?_, ?_⟩
  · exact ⟨by omega, (by rw [hi, dx, List.map_cons, modesFrom]; simp [modeOk, *]), hs, hn, X⟩
  · first | omega | (dsimp only; omega)
  replace hs := hs.ext x19
  replace hn := hn.ext x19
  replace hnx := hnx.ext x19
  replace b11 := b11.ext x19
  replace X := Ext.trans X x19; clear x19
  refine ops_want rfl rfl rfl (ow_not rfl ?_)
  refine ops_cons rfl (ow_pick rfl rfl ?_)
  refine ops_cons rfl (ow_move rfl ?_)
  refine ops_skip rfl rfl rfl rfl ?_
  refine ops_skip rfl rfl rfl rfl ?_
  refine ops_skip rfl rfl rfl rfl ?_
  refine ops_skip rfl rfl rfl rfl ?_
  refine ops_cons rfl (ow_pick rfl rfl ?_)
  refine ops_nil ?_
  refine c_true rfl ?_
  refine c_seqR ?_
  refine ops_cons rfl (ow_assign rfl ?_)
  refine ops_nil ?_
  refine c_ret ?_
  refine bq_r ?_
  refine tq_r ?_
  refine tq_r ?_
  refine bq_r ?_
  refine tq_r ?_
  refine fin_ret1 rfl rfl ?_
  · skip
    refine ⟨congrArg Value.bool ?_, X⟩
    rw [isMT, List.length_map]
    first
    | (rw [hB]; rfl)
    | (rw [hB, hi, drop_end hk]; rfl)
    | (rw [hi, drop_end hk]; simp [modesFrom, inB, *]; done)
    | (rw [hi, drop_end hk]; simp [modesFrom, inB]; omega)
    | (rw [hi, dx, List.map_cons, modesFrom]; simp [modeOk, *])
  replace hs := hs.ext x16
  replace hn := hn.ext x16
  replace hnx := hnx.ext x16
  replace b11 := b11.ext x16
  replace X := Ext.trans X x16; clear x16
  refine ops_want rfl rfl rfl (ow_not rfl ?_)
  refine ops_cons rfl (ow_pick rfl rfl ?_)
  refine ops_cons rfl (ow_move rfl ?_)
  refine ops_skip rfl rfl rfl rfl ?_
  refine ops_skip rfl rfl rfl rfl ?_
  refine ops_skip rfl rfl rfl rfl ?_
  refine ops_skip rfl rfl rfl rfl ?_
  refine ops_skip rfl rfl rfl rfl ?_
  refine ops_skip rfl rfl rfl rfl ?_
  refine ops_cons rfl (ow_pick rfl rfl ?_)
  refine ops_cons rfl (ow_move rfl ?_)
  refine ops_skip rfl rfl rfl rfl ?_
  refine ops_skip rfl rfl rfl rfl ?_
  refine ops_skip rfl rfl rfl rfl ?_
  refine ops_skip rfl rfl rfl rfl ?_
  refine ops_cons rfl (ow_pick rfl rfl ?_)
  refine ops_nil ?_
  refine c_true rfl ?_
  refine c_seqR ?_
  refine ops_cons rfl (ow_assign rfl ?_)
  refine ops_nil ?_
  refine c_ret ?_
  refine bq_r ?_
  refine tq_r ?_
  refine tq_r ?_
  refine bq_r ?_
  refine tq_r ?_
  refine fin_ret1 rfl rfl ?_
  · skip
    refine ⟨congrArg Value.bool ?_, X⟩
    rw [isMT, List.length_map]
    first
    | (rw [hB]; rfl)
    | (rw [hB, hi, drop_end hk]; rfl)
    | (rw [hi, drop_end hk]; simp [modesFrom, inB, *]; done)
    | (rw [hi, drop_end hk]; simp [modesFrom, inB]; omega)
    | (rw [hi, dx, List.map_cons, modesFrom]; simp [modeOk, *])
  replace hs := hs.ext x13
  replace hn := hn.ext x13
  replace hnx := hnx.ext x13
  replace b11 := b11.ext x13
  replace X := Ext.trans X x13; clear x13
  refine ops_cons rfl (ow_not rfl ?_)
  refine ops_cons rfl (ow_move rfl ?_)
  refine ops_skip rfl rfl rfl rfl ?_
  refine ops_skip rfl rfl rfl rfl ?_
  refine ops_skip rfl rfl rfl rfl ?_
  refine ops_skip rfl rfl rfl rfl ?_
  refine ops_cons rfl (ow_pick rfl rfl ?_)
  refine ops_cons rfl (ow_move rfl ?_)
  refine ops_skip rfl rfl rfl rfl ?_
  refine ops_skip rfl rfl rfl rfl ?_
  refine ops_skip rfl rfl rfl rfl ?_
  refine ops_skip rfl rfl rfl rfl ?_
  refine ops_skip rfl rfl rfl rfl ?_
  refine ops_skip rfl rfl rfl rfl ?_
  refine ops_cons rfl (ow_pick rfl rfl ?_)
  refine ops_cons rfl (ow_move rfl ?_)
  refine ops_skip rfl rfl rfl rfl ?_
  refine ops_skip rfl rfl rfl rfl ?_
  refine ops_skip rfl rfl rfl rfl ?_
  refine ops_skip rfl rfl rfl rfl ?_
  refine ops_cons rfl (ow_pick rfl rfl ?_)
  refine ops_nil ?_
  refine c_true rfl ?_
  refine c_seqR ?_
  refine ops_cons rfl (ow_assign rfl ?_)
  refine ops_nil ?_
  refine c_ret ?_
  refine bq_r ?_
  refine tq_r ?_
  refine tq_r ?_
  refine bq_r ?_
  refine tq_r ?_
  refine fin_ret1 rfl rfl ?_
  · skip
    refine ⟨congrArg Value.bool ?_, X⟩
    rw [isMT, List.length_map]
    first
    | (rw [hB]; rfl)
    | (rw [hB, hi, drop_end hk]; rfl)
    | (rw [hi, drop_end hk]; simp [modesFrom, inB, *]; done)
    | (rw [hi, drop_end hk]; simp [modesFrom, inB]; omega)
    | (rw [hi, dx, List.map_cons, modesFrom]; simp [modeOk, *])
  refine ops_nil ?_
  refine c_false rfl ?_
  refine c_exit ?_
  refine tq_e ?_
  refine tq_e ?_
  refine bq_e ?_
  refine tq_n ?_
  refine c_seqR ?_
  refine ops_cons rfl (ow_assign rfl ?_)
  refine ops_nil ?_
  refine c_ret ?_
  refine fin_ret1 rfl rfl ?_
  · skip
    refine ⟨congrArg Value.bool ?_, X⟩
    rw [isMT, List.length_map]
    first
    | (rw [hB]; rfl)
    | (rw [hB, hi, drop_end hk]; rfl)
    | (rw [hi, drop_end hk]; simp [modesFrom, inB, *]; done)
    | (rw [hi, drop_end hk]; simp [modesFrom, inB]; omega)
    | (rw [hi, dx, List.map_cons, modesFrom]; simp [modeOk, *])
  replace hs := hs.ext x1
  replace hn := hn.ext x1
  replace X := Ext.trans X x1; clear x1
  refine ops_cons rfl (ow_not rfl ?_)
  refine ops_nil ?_
  refine c_true rfl ?_
  refine c_seqR ?_
  refine ops_cons rfl (ow_assign rfl ?_)
  refine ops_nil ?_
  refine c_ret ?_
  refine tq_r ?_
  refine fin_ret1 rfl rfl ?_
  · skip
    refine ⟨congrArg Value.bool ?_, X⟩
    rw [isMT, List.length_map]
    first
    | (rw [hB]; rfl)
    | (rw [hB, hi, drop_end hk]; rfl)
    | (rw [hi, drop_end hk]; simp [modesFrom, inB, *]; done)
    | (rw [hi, drop_end hk]; simp [modesFrom, inB]; omega)
    | (rw [hi, dx, List.map_cons, modesFrom]; simp [modeOk, *])

theorem iIsMT_c (A : Option Addr) (B B2 c : Nat) (xs : List ModeI) (w : World) (hs : Sl B w A (xs.flatMap ModeI.cells)) (hn : Nexts B2 w xs) (hl : xs.length ≤ 1048576) (hz : ∀ x ∈ xs, x.m.next.length ≤ 1048576) :
    Calls Tryz.prog 163 #[.slice A xs.length c] w (Ret fun v w' => v = .bool (isMT (xs.map (·.m))) ∧ Ext w w') := by
  have Bhs := hs.1
  have Bhn := hn.1
  have X := Ext.refl w
  refine calls_of (args := [.slice A xs.length c]) Tryz.func163 Tryz.ntmps163 rfl rfl ?_
  refine c_seqR ?_
  refine ops_cons rfl (ow_assign rfl ?_)
  refine ops_nil ?_
  refine c_seq ?_
  refine c_seqR ?_
  refine ops_cons rfl (ow_move rfl ?_)
  refine ops_cons rfl (ow_len Tryz.underlying25 rfl ?_)
  refine ops_cons rfl (ow_move rfl ?_)
  refine ops_nil ?_
  refine c_block ?_
  refine c_loop (G := Nat) (fun k => [(0, .slice A xs.length c), (5, .slice A xs.length c), (6, .int .i64 (xs.length : Nat)), (7, .int .i64 (k : Nat))]) (fun k wr => k ≤ xs.length ∧ modesFrom (xs.length : Int) 0 (xs.map (·.m)) = modesFrom (xs.length : Int) k ((xs.drop k).map (·.m)) ∧ Sl B wr A (xs.flatMap ModeI.cells) ∧ Nexts B2 wr xs ∧ Ext w wr) (fun k => xs.length - k) 0 (.cons rfl (.cons rfl (.cons rfl (.cons rfl (.nil _))))) ?_ ?_
  · exact ⟨by omega, rfl, hs, hn, X⟩
  clear hs hn
  clear X
  rintro k wr ⟨hk0, hi, hs, hn, X⟩
  refine c_seqR ?_
  refine ops_cons rfl (ow_lss2 rfl rfl (fun hk => ?_) (fun hk => ?_))
  obtain ⟨x, hx, dx⟩ := drop_at' hk
  refine ops_nil ?_
  refine c_seq ?_
  refine c_true rfl ?_
  refine c_skip ?_
  refine tq_n ?_
  refine c_seq ?_
  refine c_block ?_
  refine c_seqR ?_
  refine ops_cons rfl (ow_move rfl ?_)
  refine ops_cons rfl (ow_indexT hs ModeI.len rfl el25 rfl rfl rfl hx rfl ?_)
  have hnx := hn.at_ hx
  have hlx := hz x (List.mem_of_getElem? hx)
  refine ops_cons rfl (ow_loadTA hs ModeI.len hx ti92 rfl ?_)
  refine ops_cons rfl (ow_alloc ti92 ?_)
  intro g4 w3 eg4 b1 x2 zg4
  have lg4 : w.heap.size ≤ g4 := Nat.le_trans X.size (Nat.le_of_eq eg4.symm)
  have pg4hs := Nat.le_trans hs.1 (Nat.le_of_eq eg4.symm)
  have pg4hn := Nat.le_trans hn.1 (Nat.le_of_eq eg4.symm)
  have pg4hnx := Nat.le_trans hnx.1 (Nat.le_of_eq eg4.symm)
  replace hs := hs.ext x2
  replace hn := hn.ext x2
  replace hnx := hnx.ext x2
  replace X := Ext.trans X x2; clear x2
  refine ops_cons rfl (ow_assign rfl ?_)
  refine ops_cons rfl (ow_storeB b1 ti92 rfl rfl rfl rfl rfl rfl ?_)
  intro w6 b8 hg5 z7
  replace hs := hs.grown hg5 (by intro g hg; injection hg; omega)
  replace hn := hn.grown hg5 (by intro g hg; injection hg; omega)
  replace hnx := hnx.grown hg5 (by intro g hg; injection hg; omega)
  replace X := X.grown hg5 X.size (by intro g hg; injection hg; omega)
  clear hg5 b1
  refine ops_nil ?_
  refine c_seqR ?_
  refine ops_cons rfl (ow_fieldAddrB off92_0 rfl rfl ?_)
  refine ops_cons rfl (ow_loadB b8 ti2 rfl rfl ?_)
  refine ops_cons rfl (ow_callB ent109 rfl (within_c _ _ _ _) (fun w11 h9 x10 => ?_) (fun w11 h9 x10 => ?_))
  replace hs := hs.ext x10
  replace hn := hn.ext x10
  replace hnx := hnx.ext x10
  replace b8 := b8.ext x10
  replace X := Ext.trans X x10; clear x10
  refine ops_cons rfl (ow_not rfl ?_)
  refine ops_cons rfl (ow_move rfl ?_)
  refine ops_want rfl rfl rfl (ow_fieldAddrB off92_1 rfl rfl ?_)
  refine ops_want rfl rfl rfl (ow_loadB b8 ti2 rfl rfl ?_)
  refine ops_want rfl rfl rfl (ow_callB ent109 rfl (within_c _ _ _ _) (fun w14 h12 x13 => ?_) (fun w14 h12 x13 => ?_))
  replace hs := hs.ext x13
  replace hn := hn.ext x13
  replace hnx := hnx.ext x13
  replace b8 := b8.ext x13
  replace X := Ext.trans X x13; clear x13
  refine ops_want rfl rfl rfl (ow_not rfl ?_)
  refine ops_cons rfl (ow_pick rfl rfl ?_)
  refine ops_cons rfl (ow_move rfl ?_)
  refine ops_want rfl rfl rfl (ow_fieldAddrB off92_2 rfl rfl ?_)
  refine ops_want rfl rfl rfl (ow_loadB b8 ti30 rfl rfl ?_)
  refine ops_want rfl rfl rfl (ow_move rfl ?_)
  refine ops_want rfl rfl rfl (ow_len Tryz.underlying25 rfl ?_)
  refine ops_want rfl rfl rfl (ow_callB ent236 rfl (isRising_c _ _ _ _ _ _ hnx hlx (by omega)) (fun w17 h15 x16 => ?_) (fun w17 h15 x16 => ?_))
  replace hs := hs.ext x16
  replace hn := hn.ext x16
  replace hnx := hnx.ext x16
  replace b8 := b8.ext x16
  replace X := Ext.trans X x16; clear x16
  refine ops_want rfl rfl rfl (ow_not rfl ?_)
  refine ops_cons rfl (ow_pick rfl rfl ?_)
  refine ops_cons rfl (ow_move rfl ?_)
  refine ops_want rfl rfl rfl (ow_fieldAddrB off92_2 rfl rfl ?_)
  refine ops_want rfl rfl rfl (ow_loadB b8 ti30 rfl rfl ?_)
  refine ops_want rfl rfl rfl (ow_move rfl ?_)
  refine ops_want rfl rfl rfl (ow_callB ent83 rfl (contains_c _ _ _ _ _ _ hnx hlx) (fun w20 h18 x19 => ?_) (fun w20 h18 x19 => ?_))
  replace hs := hs.ext x19
  replace hn := hn.ext x19
  replace hnx := hnx.ext x19
  replace b8 := b8.ext x19
  replace X := Ext.trans X x19; clear x19
  refine ops_cons rfl (ow_pick rfl rfl ?_)
  refine ops_nil ?_
  refine c_true rfl ?_
  refine c_seqR ?_
  refine ops_cons rfl (ow_assign rfl ?_)
  refine ops_nil ?_
  refine c_ret ?_
  refine bq_r ?_
  refine tq_r ?_
  refine tq_r ?_
  refine bq_r ?_
  refine tq_r ?_
  refine fin_ret1 rfl rfl ?_
  · skip
    refine ⟨congrArg Value.bool ?_, X⟩
    rw [isMT, List.length_map]
    first
    | (rw [hB]; rfl)
    | (rw [hB, hi, drop_end hk]; rfl)
    | (rw [hi, drop_end hk]; simp [modesFrom, inB, *]; done)
    | (rw [hi, drop_end hk]; simp [modesFrom, inB]; omega)
    | (rw [hi, dx, List.map_cons, modesFrom]; simp [modeOk, *])
  replace hs := hs.ext x19
  replace hn := hn.ext x19
  replace hnx := hnx.ext x19
  replace b8 := b8.ext x19
  replace X := Ext.trans X x19; clear x19
  refine ops_cons rfl (ow_pick rfl rfl ?_)
  refine ops_nil ?_
  refine c_false rfl ?_
  refine c_skip ?_
  refine bq_n ?_
  refine tq_n ?_
  refine c_region ?_
  refine ops_cons rfl (ow_add rfl rfl (w64 (by omega)) ?_)
  refine ops_cons rfl (ow_move rfl ?_)
  refine ops_nil ?_
  refine tq_n ⟨k + 1, (.cons rfl (.cons rfl (.cons rfl (.cons rfl (.nil _))))), ?_, ?_⟩
  · exact ⟨by omega, (by rw [hi, dx, List.map_cons, modesFrom]; simp [modeOk, *]), hs, hn, X⟩
  · first | omega | (dsimp only; omega)
  replace hs := hs.ext x16
  replace hn := hn.ext x16
  replace hnx := hnx.ext x16
  replace b8 := b8.ext x16
  replace X := Ext.trans X x16; clear x16
  refine ops_want rfl rfl rfl (ow_not rfl ?_)
  refine ops_cons rfl (ow_pick rfl rfl ?_)
  refine ops_cons rfl (ow_move rfl ?_)
  refine ops_skip rfl rfl rfl rfl ?_
  refine ops_skip rfl rfl rfl rfl ?_
  refine ops_skip rfl rfl rfl rfl ?_
  refine ops_skip rfl rfl rfl rfl ?_
  refine ops_cons rfl (ow_pick rfl rfl ?_)
  refine ops_nil ?_
  refine c_true rfl ?_
  refine c_seqR ?_
  refine ops_cons rfl (ow_assign rfl ?_)
  refine ops_nil ?_
  refine c_ret ?_
  refine bq_r ?_
  refine tq_r ?_
  refine tq_r ?_
  refine bq_r ?_
  refine tq_r ?_
  refine fin_ret1 rfl rfl ?_
  · skip
    refine ⟨congrArg Value.bool ?_, X⟩
    rw [isMT, List.length_map]
    first
    | (rw [hB]; rfl)
    | (rw [hB, hi, drop_end hk]; rfl)
    | (rw [hi, drop_end hk]; simp [modesFrom, inB, *]; done)
    | (rw [hi, drop_end hk]; simp [modesFrom, inB]; omega)
    | (rw [hi, dx, List.map_cons, modesFrom]; simp [modeOk, *])
  replace hs := hs.ext x13
  replace hn := hn.ext x13
  replace hnx := hnx.ext x13
  replace b8 := b8.ext x13
  replace X := Ext.trans X x13; clear x13
  refine ops_want rfl rfl rfl (ow_not rfl ?_)
  refine ops_cons rfl (ow_pick rfl rfl ?_)
  refine ops_cons rfl (ow_move rfl ?_)
  refine ops_skip rfl rfl rfl rfl ?_
  refine ops_skip rfl rfl rfl rfl ?_
  refine ops_skip rfl rfl rfl rfl ?_
  refine ops_skip rfl rfl rfl rfl ?_
  refine ops_skip rfl rfl rfl rfl ?_
  refine ops_skip rfl rfl rfl rfl ?_
  refine ops_cons rfl (ow_pick rfl rfl ?_)
  refine ops_cons rfl (ow_move rfl ?_)
  refine ops_skip rfl rfl rfl rfl ?_
  refine ops_skip rfl rfl rfl rfl ?_
  refine ops_skip rfl rfl rfl rfl ?_
  refine ops_skip rfl rfl rfl rfl ?_
  refine ops_cons rfl (ow_pick rfl rfl ?_)
  refine ops_nil ?_
  refine c_true rfl ?_
  refine c_seqR ?_
  refine ops_cons rfl (ow_assign rfl ?_)
  refine ops_nil ?_
  refine c_ret ?_
  refine bq_r ?_
  refine tq_r ?_
  refine tq_r ?_
  refine bq_r ?_
  refine tq_r ?_
  refine fin_ret1 rfl rfl ?_
  · skip
    refine ⟨congrArg Value.bool ?_, X⟩
    rw [isMT, List.length_map]
    first
    | (rw [hB]; rfl)
    | (rw [hB, hi, drop_end hk]; rfl)
    | (rw [hi, drop_end hk]; simp [modesFrom, inB, *]; done)
    | (rw [hi, drop_end hk]; simp [modesFrom, inB]; omega)
    | (rw [hi, dx, List.map_cons, modesFrom]; simp [modeOk, *])
  replace hs := hs.ext x10
  replace hn := hn.ext x10
  replace hnx := hnx.ext x10
  replace b8 := b8.ext x10
  replace X := Ext.trans X x10; clear x10
  refine ops_cons rfl (ow_not rfl ?_)
  refine ops_cons rfl (ow_move rfl ?_)
  refine ops_skip rfl rfl rfl rfl ?_
  refine ops_skip rfl rfl rfl rfl ?_
  refine ops_skip rfl rfl rfl rfl ?_
  refine ops_skip rfl rfl rfl rfl ?_
  refine ops_cons rfl (ow_pick rfl rfl ?_)
  refine ops_cons rfl (ow_move rfl ?_)
  refine ops_skip rfl rfl rfl rfl ?_
  refine ops_skip rfl rfl rfl rfl ?_
  refine ops_skip rfl rfl rfl rfl ?_
  refine ops_skip rfl rfl rfl rfl ?_
  refine ops_skip rfl rfl rfl rfl ?_
  refine ops_skip rfl rfl rfl rfl ?_
  refine ops_cons rfl (ow_pick rfl rfl ?_)
  refine ops_cons rfl (ow_move rfl ?_)
  refine ops_skip rfl rfl rfl rfl ?_
  refine ops_skip rfl rfl rfl rfl ?_
  refine ops_skip rfl rfl rfl rfl ?_
  refine ops_skip rfl rfl rfl rfl ?_
  refine ops_cons rfl (ow_pick rfl rfl ?_)
  refine ops_nil ?_
  refine c_true rfl ?_
  refine c_seqR ?_
  refine ops_cons rfl (ow_assign rfl ?_)
  refine ops_nil ?_
  refine c_ret ?_
  refine bq_r ?_
  refine tq_r ?_
  refine tq_r ?_
  refine bq_r ?_
  refine tq_r ?_
  refine fin_ret1 rfl rfl ?_
  · skip
    refine ⟨congrArg Value.bool ?_, X⟩
    rw [isMT, List.length_map]
    first
    | (rw [hB]; rfl)
    | (rw [hB, hi, drop_end hk]; rfl)
    | (rw [hi, drop_end hk]; simp [modesFrom, inB, *]; done)
    | (rw [hi, drop_end hk]; simp [modesFrom, inB]; omega)
    | (rw [hi, dx, List.map_cons, modesFrom]; simp [modeOk, *])
  refine ops_nil ?_
  refine c_seq ?_
  refine c_false rfl ?_
  refine c_exit ?_
  refine tq_e ?_
  refine tq_e ?_
  refine bq_e ?_
  refine tq_n ?_
  refine c_seqR ?_
  refine ops_cons rfl (ow_move rfl ?_)
  refine ops_cons rfl (ow_len Tryz.underlying25 rfl ?_)
  refine ops_cons rfl (ow_geq2 rfl rfl (fun h21 => ?_) (fun h21 => ?_))
  refine ops_cons rfl (ow_move rfl ?_)
  refine ops_want rfl rfl rfl (ow_move rfl ?_)
  refine ops_want rfl rfl rfl (ow_len Tryz.underlying25 rfl ?_)
  refine ops_want rfl rfl rfl (ow_leq rfl rfl ?_)
  refine ops_cons rfl (ow_pick rfl rfl ?_)
  refine ops_cons rfl (ow_assign rfl ?_)
  refine ops_nil ?_
  refine c_ret ?_
  refine fin_ret1 rfl rfl ?_
  · skip
    refine ⟨congrArg Value.bool ?_, X⟩
    rw [isMT, List.length_map]
    first
    | (rw [hB]; rfl)
    | (rw [hB, hi, drop_end hk]; rfl)
    | (rw [hi, drop_end hk]; simp [modesFrom, inB, *]; done)
    | (rw [hi, drop_end hk]; simp [modesFrom, inB]; omega)
    | (rw [hi, dx, List.map_cons, modesFrom]; simp [modeOk, *])
  refine ops_cons rfl (ow_move rfl ?_)
  refine ops_skip rfl rfl rfl rfl ?_
  refine ops_skip rfl rfl rfl rfl ?_
  refine ops_skip rfl rfl rfl rfl ?_
  refine ops_cons rfl (ow_pick rfl rfl ?_)
  refine ops_cons rfl (ow_assign rfl ?_)
  refine ops_nil ?_
  refine c_ret ?_
  refine fin_ret1 rfl rfl ?_
  · skip
    refine ⟨congrArg Value.bool ?_, X⟩
    rw [isMT, List.length_map]
    first
    | (rw [hB]; rfl)
    | (rw [hB, hi, drop_end hk]; rfl)
    | (rw [hi, drop_end hk]; simp [modesFrom, inB, *]; done)
    | (rw [hi, drop_end hk]; simp [modesFrom, inB]; omega)
    | (rw [hi, dx, List.map_cons, modesFrom]; simp [modeOk, *])
end Go.Proofs.YtdoibplhbdkapaaGreatDoor
