/- Flow: a small program logic over the model's own rules: frames as association lists, regions that draw their order taken once. No condition. -/
import Derived.WalkKit
import Derived.Deep.Quiet
namespace Go.Proofs.Ytdoibplhbdkapaa
open Go.RowKit
set_option linter.unusedVariables false
set_option linter.unusedSimpArgs false

/-! ### Worlds that only grow -/

abbrev Ext (w w' : World) : Prop := Below w.heap.size w w'

theorem Ext.refl (w : World) : Ext w w := Below.refl _ _
theorem Ext.trans {a b c : World} (h : Ext a b) (k : Ext b c) : Ext a c := Below.trans h (Below.mono k h.size)
theorem Ext.drew (w : World) : Ext w w.drew := (Below.refl _ _).drew
theorem Ext.alloc (w : World) (o : Obj) : Ext w (w.alloc o) := (Below.refl _ _).alloc (Nat.le_refl _) o

/-- closed under growth -/
def Up (S : World → Prop) : Prop := ∀ w w', S w → Ext w w' → S w'
theorem Up.ext (w : World) : Up (Ext w) := fun _ _ h k => Ext.trans h k
theorem Up.and {S T : World → Prop} (hs : Up S) (ht : Up T) : Up (fun w => S w ∧ T w) := fun w w' h k => ⟨hs w w' h.1 k, ht w w' h.2 k⟩
theorem Up.pure (p : Prop) : Up (fun _ => p) := fun _ _ h _ => h

/-! ### Frames as association lists -/

def lk : List (Nat × Value) → Nat → Option Value
  | [], _ => none
  | (k, v) :: r, t => bif Nat.beq k t then some v else lk r t

def evO (e : List (Nat × Value)) : Operand → Option Value
  | .tmp t => lk e t
  | .const v => some v
  | .global g => some (.pointer (some ⟨g, 0, none⟩))
  | .func f => some (.func (.func f) #[] #[])

/-- what is known of an evaluation -/
def Knows (e : List (Nat × Value)) (ρ : Operand → Value) : Prop := ∀ x v, evO e x = some v → ρ x = v

def Fits (n : Nat) (e : List (Nat × Value)) (a : Act) : Prop :=
  a.defers = [] ∧ a.tmps.size = n ∧ ∀ t v, lk e t = some v → a.tmps.getD t undef = v

def updO (e : List (Nat × Value)) : Option Tmp → Value → List (Nat × Value)
  | some d, v => (d, v) :: e
  | none, _ => e

theorem Fits.knows {n : Nat} {e : List (Nat × Value)} {a : Act} (h : Fits n e a) : Knows e a.eval := by
  intro x v hx
  cases x with
  | tmp t => exact h.2.2 t v hx
  | const u => simp only [evO, Option.some.injEq] at hx; rw [← hx]; rfl
  | «global» g => simp only [evO, Option.some.injEq] at hx; rw [← hx]; rfl
  | func f => simp only [evO, Option.some.injEq] at hx; rw [← hx]; rfl

theorem lk_cons (d : Nat) (v : Value) (e : List (Nat × Value)) (t : Nat) : lk ((d, v) :: e) t = if d = t then some v else lk e t := by
  by_cases h : d = t
  · subst h; simp [lk]
  · have : Nat.beq d t = false := by
      cases hb : Nat.beq d t with
      | false => rfl
      | true => exact absurd (Nat.eq_of_beq_eq_true hb) h
    simp [lk, this, h]

def dstOk (n : Nat) : Option Tmp → Bool
  | some d => Nat.blt d n
  | none => true

theorem Fits.put {n : Nat} {e : List (Nat × Value)} {a : Act} (h : Fits n e a) (d : Option Tmp) (v : Value) (hd : dstOk n d = true) : Fits n (updO e d v) (a.put d v) := by
  cases d with
  | none => exact h
  | some d =>
    have hd' : d < n := by simpa [dstOk] using hd
    refine ⟨h.1, by simp [Act.put, h.2.1], fun t u ht => ?_⟩
    simp only [updO] at ht
    rw [lk_cons] at ht
    by_cases hdt : d = t
    · subst hdt
      simp only [if_true, Option.some.injEq] at ht
      subst ht
      simp [Act.put, h.2.1, hd']
    · rw [if_neg hdt] at ht
      have := h.2.2 t u ht
      simp only [Act.put]
      simp only [Array.getD_eq_getD_getElem?] at this ⊢
      rw [Array.getElem?_setIfInBounds_ne hdt]
      exact this

/-- a smaller frame -/
def subO (e' e : List (Nat × Value)) : Prop := ∀ t v, lk e' t = some v → lk e t = some v
theorem Fits.sub {n : Nat} {e e' : List (Nat × Value)} {a : Act} (h : Fits n e a) (hs : subO e' e) : Fits n e' a := ⟨h.1, h.2.1, fun t v ht => h.2.2 t v (hs t v ht)⟩
theorem subO.nil (e : List (Nat × Value)) : subO [] e := fun t v h => by simp [lk] at h
theorem subO.cons {e e' : List (Nat × Value)} {d : Nat} {v : Value} (h : lk e d = some v) (hs : subO e' e) : subO ((d, v) :: e') e := fun t u ht => by
  rw [lk_cons] at ht
  by_cases hdt : d = t
  · subst hdt; simp only [if_true, Option.some.injEq] at ht; subst ht; exact h
  · rw [if_neg hdt] at ht; exact hs t u ht

/-! ### One operation -/

def upto (P : Program) (K : Value → World → Prop) : Result Next → Prop
  | .ok (.value v) w' => K v w'
  | .ok .skip w' => K undef w'
  | .ok (.enter f args) w' => Calls P f args w' fun
      | .returned v, w'' => K v w''
      | _, _ => False
  | _ => False

def OpWp (P : Program) (e : List (Nat × Value)) (op : Op) (ty : TypeId) (w : World) (K : Value → World → Prop) : Prop :=
  ∀ (ρ : Operand → Value) (dst : Option Tmp) (pos : String) (af : Array Edge) (g : Option (Nat × Bool)), Knows e ρ → upto P K ((execOp ρ ⟨dst, op, ty, pos, af, g⟩).run P w)

theorem upto_mono {P : Program} {K K' : Value → World → Prop} {r : Result Next} (h : ∀ v w, K v w → K' v w) (hr : upto P K r) : upto P K' r := by
  cases r with
  | halt x w => exact hr
  | ok n w =>
    cases n <;> simp only [upto] at hr ⊢ <;> first
      | exact h _ _ hr
      | exact Calls.mono hr (fun e w'' he => by cases e <;> first | exact h _ _ he | exact he)

theorem OpWp.mono {P : Program} {e : List (Nat × Value)} {op : Op} {ty : TypeId} {w : World} {K K' : Value → World → Prop} (h : OpWp P e op ty w K) (hk : ∀ v w, K v w → K' v w) : OpWp P e op ty w K' :=
  fun ρ d p af g hρ => upto_mono hk (h ρ d p af g hρ)

theorem wp_of_upto {P : Program} {a : Act} {o : Oper} {w : World} {K : Value → World → Prop} {next : Act → World → Prop} {Q : Exit → Act → World → Prop}
    (h : upto P K ((execOp a.eval o).run P w)) (hk : ∀ v w', K v w' → next (a.put o.dst v) w') : o.wp P a w next Q := by
  unfold Oper.wp
  generalize (execOp a.eval o).run P w = r at *
  cases r with
  | halt x w => exact h.elim
  | ok n w =>
    cases n <;> simp only [upto] at h <;> simp only [Oper.upon] <;> first
      | exact hk _ _ h
      | exact Calls.mono h (fun e w'' he => by cases e <;> first | exact hk _ _ he | exact he.elim)

theorem OpWp.wp {P : Program} {n : Nat} {e : List (Nat × Value)} {a : Act} {o : Oper} {w : World} {K : Value → World → Prop} {next : Act → World → Prop} {Q : Exit → Act → World → Prop}
    (h : OpWp P e o.op o.type w K) (ha : Fits n e a) (hk : ∀ v w', K v w' → next (a.put o.dst v) w') : o.wp P a w next Q :=
  wp_of_upto (h a.eval o.dst o.pos o.after o.guard ha.knows) hk

/-! ### A list of operations, one behind the other -/

def OpsWp (P : Program) (n : Nat) (ops : Array Oper) (l : List Oper) (e : List (Nat × Value)) (w : World) (K : List (Nat × Value) → World → Prop) : Prop :=
  ∀ (a : Act) (Q : Exit → Act → World → Prop), Fits n e a → (∀ e' a' w', Fits n e' a' → K e' w' → Q .normal a' w') → wpList P ops Q l a w

section
variable {P : Program} {n : Nat} {ops : Array Oper} {rest : List Oper} {e : List (Nat × Value)} {w : World} {K : List (Nat × Value) → World → Prop}

theorem ops_nil (h : K e w) : OpsWp P n ops [] e w K := fun _ _ ha hK => wpList_nil (hK _ _ _ ha h)

theorem ops_cons {dst : Option Tmp} {op : Op} {ty : TypeId} {pos : String} {af : Array Edge} (hd : dstOk n dst = true)
    (h : OpWp P e op ty w fun v w' => OpsWp P n ops rest (updO e dst v) w' K) : OpsWp P n ops (⟨dst, op, ty, pos, af, none⟩ :: rest) e w K :=
  fun _ Q ha hK => wpList_plain rfl fun _ hK' => OpWp.wp (o := ⟨dst, op, ty, pos, af, none⟩) h ha fun v w' hv => hK' _ _ (hv _ Q (ha.put dst v hd) hK)

/-- a guarded operation that is wanted -/
theorem ops_want {dst : Option Tmp} {op : Op} {ty : TypeId} {pos : String} {af : Array Edge} {j : Nat} {b : Bool} {d : Nat} (hj : (ops[j]?).bind (·.dst) = some d) (hb : lk e d = some (.bool b)) (hd : dstOk n dst = true)
    (h : OpWp P e op ty w fun v w' => OpsWp P n ops rest (updO e dst v) w' K) : OpsWp P n ops (⟨dst, op, ty, pos, af, some (j, b)⟩ :: rest) e w K :=
  fun a Q ha hK => wpList_step fun _ hK' => by
    have hw : Region.wanted ⟨dst, op, ty, pos, af, some (j, b)⟩ (yielded ops a.tmps) = true := by
      have := ha.2.2 d _ hb
      simp only [Array.getD_eq_getD_getElem?] at this
      simp only [Region.wanted, yielded, hj, beq_iff_eq]
      cases ht : a.tmps[d]? with
      | none => rw [ht] at this; simp [undef] at this
      | some u => rw [ht] at this; simp at this; subst this; simp [ht]
    rw [if_pos hw]
    exact OpWp.wp (o := ⟨dst, op, ty, pos, af, some (j, b)⟩) h ha fun v w' hv => hK' _ _ (hv _ Q (ha.put dst v hd) hK)

/-- a guarded operation that is not wanted: its guard says the other -/
theorem ops_skip {dst : Option Tmp} {op : Op} {ty : TypeId} {pos : String} {af : Array Edge} {j : Nat} {b c : Bool} {d : Nat} (hj : (ops[j]?).bind (·.dst) = some d) (hb : lk e d = some (.bool c)) (hbc : (c == b) = false) (hd : dstOk n dst = true)
    (h : OpsWp P n ops rest (updO e dst undef) w K) : OpsWp P n ops (⟨dst, op, ty, pos, af, some (j, b)⟩ :: rest) e w K :=
  fun a Q ha hK => wpList_skip (by
    have := ha.2.2 d _ hb
    simp only [Array.getD_eq_getD_getElem?] at this
    simp only [Region.wanted, yielded, hj]
    cases ht : a.tmps[d]? with
    | none => rw [ht] at this; simp [undef] at this
    | some u => rw [ht] at this; simp at this; subst this; cases c <;> cases b <;> simp_all) (h _ Q (ha.put dst undef hd) hK)

/-- a guarded operation whose guard was itself not wanted -/
theorem ops_skip2 {dst : Option Tmp} {op : Op} {ty : TypeId} {pos : String} {af : Array Edge} {j : Nat} {b : Bool} {d : Nat} (hj : (ops[j]?).bind (·.dst) = some d) (hb : lk e d = some undef) (hd : dstOk n dst = true)
    (h : OpsWp P n ops rest (updO e dst undef) w K) : OpsWp P n ops (⟨dst, op, ty, pos, af, some (j, b)⟩ :: rest) e w K :=
  fun a Q ha hK => wpList_skip (by
    have := ha.2.2 d _ hb
    simp only [Array.getD_eq_getD_getElem?] at this
    simp only [Region.wanted, yielded, hj]
    cases ht : a.tmps[d]? with
    | none => simp [ht]
    | some u => rw [ht] at this; simp at this; subst this; simp [ht, undef]) (h _ Q (ha.put dst undef hd) hK)
end

/-! ### Code -/

def CWp (P : Program) (n : Nat) (c : Code) (e : List (Nat × Value)) (w : World) (Q : Exit → List (Nat × Value) → World → Prop) : Prop :=
  ∀ a, Fits n e a → c.wp P (fun x a' w' => ∃ e', Fits n e' a' ∧ Q x e' w') a w

section
variable {P : Program} {n : Nat} {e : List (Nat × Value)} {w : World} {Q : Exit → List (Nat × Value) → World → Prop}

theorem c_mono {c : Code} {Q' : Exit → List (Nat × Value) → World → Prop} (h : CWp P n c e w Q) (hq : ∀ x e w, Q x e w → Q' x e w) : CWp P n c e w Q' :=
  fun a ha => wp_mono (h a ha) fun _ _ _ ⟨e', hf, hQ⟩ => ⟨e', hf, hq _ _ _ hQ⟩

theorem c_sub {c : Code} {e' : List (Nat × Value)} (hs : subO e' e) (h : CWp P n c e' w Q) : CWp P n c e w Q := fun a ha => h a (ha.sub hs)

/-- what becomes of the ways out of the first of two pieces -/
def thenQ (K : List (Nat × Value) → World → Prop) (Q : Exit → List (Nat × Value) → World → Prop) : Exit → List (Nat × Value) → World → Prop
  | .normal, e, w => K e w
  | x, e, w => Q x e w

def blkQ (id : Nat) (Q : Exit → List (Nat × Value) → World → Prop) : Exit → List (Nat × Value) → World → Prop
  | .exit id', e, w => if id' = id then Q .normal e w else Q (.exit id') e w
  | x, e, w => Q x e w

theorem c_seq {x y : Code} (h : CWp P n x e w (thenQ (fun e' w' => CWp P n y e' w' Q) Q)) : CWp P n (.seq x y) e w Q :=
  fun a ha => wp_seq (wp_mono (h a ha) fun x a' w' ⟨e', hf, hQ⟩ => by
    cases x <;> first
      | exact hQ a' hf
      | exact ⟨e', hf, hQ⟩)

section
variable {K : List (Nat × Value) → World → Prop}
theorem tq_n (h : K e w) : thenQ K Q .normal e w := h
theorem tq_r (h : Q .ret e w) : thenQ K Q .ret e w := h
theorem tq_e {id : Nat} (h : Q (.exit id) e w) : thenQ K Q (.exit id) e w := h
theorem bq_n {id : Nat} (h : Q .normal e w) : blkQ id Q .normal e w := h
theorem bq_r {id : Nat} (h : Q .ret e w) : blkQ id Q .ret e w := h
theorem bq_e {id : Nat} (h : Q .normal e w) : blkQ id Q (.exit id) e w := by simp only [blkQ, if_true]; exact h
theorem bq_o {id id' : Nat} (hne : (Nat.beq id' id) = false) (h : Q (.exit id') e w) : blkQ id Q (.exit id') e w := by
  simp only [blkQ]
  rw [if_neg (fun e => by rw [e] at hne; simp at hne)]
  exact h
end
theorem c_skip (h : Q .normal e w) : CWp P n .skip e w Q := fun _ ha => wp_skip ⟨e, ha, h⟩
theorem c_ret (h : Q .ret e w) : CWp P n .ret e w Q := fun _ ha => wp_ret ⟨e, ha, h⟩
theorem c_exit {id : Nat} (h : Q (.exit id) e w) : CWp P n (.exit id) e w Q := fun _ ha => wp_exit ⟨e, ha, h⟩
theorem c_label {l : Nat} (h : Q .normal e w) : CWp P n (.label l) e w Q := fun _ ha => wp_label ⟨e, ha, h⟩

theorem c_cond {c : Operand} {x y : Code} {t : Bool} (hc : evO e c = some (.bool t)) (h : CWp P n (if t then x else y) e w Q) : CWp P n (.cond c x y) e w Q :=
  fun a ha => wp_cond (ha.knows c _ hc) (h a ha)
theorem c_true {c : Operand} {x y : Code} (hc : evO e c = some (.bool true)) (h : CWp P n x e w Q) : CWp P n (.cond c x y) e w Q := c_cond hc h
theorem c_false {c : Operand} {x y : Code} (hc : evO e c = some (.bool false)) (h : CWp P n y e w Q) : CWp P n (.cond c x y) e w Q := c_cond hc h
theorem c_split {c : Operand} {x y : Code} {t : Bool} (hc : evO e c = some (.bool t)) (h1 : t = true → CWp P n x e w Q) (h2 : t = false → CWp P n y e w Q) : CWp P n (.cond c x y) e w Q := by
  cases t
  · exact c_false hc (h2 rfl)
  · exact c_true hc (h1 rfl)

theorem c_block {id : Nat} {c : Code} (h : CWp P n c e w (blkQ id Q)) : CWp P n (.block id c) e w Q :=
  fun a ha => wp_block (wp_mono (h a ha) fun x a' w' ⟨e', hf, hQ⟩ => by
    cases x with
    | exit id' =>
      simp only [blkQ] at hQ
      simp only [Exit.inBlock]
      split <;> rename_i hid <;> simp only [hid, if_true, if_false] at hQ <;> exact ⟨e', hf, hQ⟩
    | _ => exact ⟨e', hf, hQ⟩)

/-- a loop: a ghost 'g', what the slots hold at its head, what is known of the world, a measure -/
theorem c_loop {c : Code} {G : Type} (vals : G → List (Nat × Value)) (I : G → World → Prop) (μ : G → Nat) (g0 : G)
    (h0 : subO (vals g0) e) (hI : I g0 w)
    (round : ∀ g w, I g w → CWp P n c (vals g) w (thenQ (fun e' w' => ∃ g', subO (vals g') e' ∧ I g' w' ∧ μ g' < μ g) Q)) : CWp P n (.loop c) e w Q := by
  intro a ha b k cs
  have key : ∀ m g a w, μ g = m → Fits n (vals g) a → I g w →
      ∃ x a' w', (∃ e', Fits n e' a' ∧ Q x e' w') ∧ Arrives P (lone (b.at a (.code c :: .inLoop c :: k)) cs w) b k cs x a' w' := by
    intro m
    induction m using Nat.strongRecOn with
    | _ m ih =>
      intro g a w hm hf hi
      obtain ⟨x, a₁, w₁, ⟨e', hf', hq⟩, harr⟩ := round g w hi a hf b (.inLoop c :: k) cs
      cases x with
      | normal =>
        obtain ⟨g', hs', hi', hlt⟩ := hq
        obtain ⟨x₂, a₂, w₂, hq₂, harr₂⟩ := ih (μ g') (hm ▸ hlt) g' a₁ w₁ rfl (hf'.sub hs') hi'
        exact ⟨x₂, a₂, w₂, hq₂, .of_steps (Steps.trans harr (.one step_inLoop)) harr₂⟩
      | exit id => exact ⟨_, a₁, w₁, ⟨e', hf', hq⟩, .pass (x := .inLoop c) rfl (fun _ _ => .inl (by simp)) harr⟩
      | goto l => exact ⟨_, a₁, w₁, ⟨e', hf', hq⟩, .pass (x := .inLoop c) rfl (fun _ _ => .inl (by simp)) harr⟩
      | ret => exact ⟨_, a₁, w₁, ⟨e', hf', hq⟩, .pass (x := .inLoop c) rfl (fun _ _ => .inl (by simp)) harr⟩
      | panic ch => exact ⟨_, a₁, w₁, ⟨e', hf', hq⟩, .pass (x := .inLoop c) rfl (fun _ _ => .inl (by simp)) harr⟩
      | outgrown => exact ⟨_, a₁, w₁, ⟨e', hf', hq⟩, .pass (x := .inLoop c) rfl (fun _ _ => .inl (by simp)) harr⟩
  obtain ⟨x, a', w', hq, harr⟩ := key _ g0 a w rfl (ha.sub h0) hI
  exact ⟨x, a', w', hq, .of_steps (.one step_loop) harr⟩

/-- a region that does not draw -/
theorem c_region {id : Nat} {l : List Oper} (h : OpsWp P n l.toArray l e w (fun e' w' => Q .normal e' w')) : CWp P n (.region id l.toArray false) e w Q :=
  fun a ha => wp_region_lit (h a _ ha fun e' _ _ hf hk => ⟨e', hf, hk⟩)
end

/-- a region that does not draw, and what follows it -/
theorem c_seqR {P : Program} {n : Nat} {e : List (Nat × Value)} {w : World} {Q : Exit → List (Nat × Value) → World → Prop} {id : Nat} {l : List Oper} {y : Code} (h : OpsWp P n l.toArray l e w (fun e' w' => CWp P n y e' w' Q)) : CWp P n (.seq (.region id l.toArray false) y) e w Q := c_seq (c_region h)

/-- what a function's end is held against -/
def fin (P : Program) (n : Nat) (fn : Func) (R : Value → World → Prop) : Exit → List (Nat × Value) → World → Prop
  | .normal, e, w => ∀ a, Fits n e a → ∃ v, (results fn a.tmps).run P w = .ok v w ∧ R v w
  | .ret, e, w => ∀ a, Fits n e a → ∃ v, (results fn a.tmps).run P w = .ok v w ∧ R v w
  | _, _, _ => False

def Ret (R : Value → World → Prop) : Ending → World → Prop
  | .returned v, w => R v w
  | _, _ => False

def frameOf : Nat → List Value → List (Nat × Value)
  | _, [] => []
  | i, v :: r => (i, v) :: frameOf (i + 1) r

theorem lk_frameOf (l : List Value) : ∀ i t v, lk (frameOf i l) t = some v → i ≤ t ∧ l[t - i]? = some v := by
  induction l with
  | nil => intro i t v h; simp [frameOf, lk] at h
  | cons x r ih =>
    intro i t v h
    simp only [frameOf] at h
    rw [lk_cons] at h
    by_cases hit : i = t
    · subst hit; simp at h; simp [h]
    · rw [if_neg hit] at h
      obtain ⟨h1, h2⟩ := ih _ _ _ h
      refine ⟨by omega, ?_⟩
      have : t - i = (t - (i + 1)) + 1 := by omega
      rw [this]
      simpa using h2

theorem calls_of {P : Program} {f : FuncId} {fn : Func} {c : Code} {n : Nat} {args : List Value} {w : World} {R : Value → World → Prop}
    (hf : P.funcs[f]? = some fn) (hN : fn.ntmps = n) (hc : fn.body = some c) (hn : Nat.ble args.length n = true)
    (h : CWp P n c (frameOf 0 args) w (fin P n fn R)) : Calls P f args.toArray w (Ret R) := by
  subst hN
  refine calls_of_wp hf hc ?_
  have hn' : args.length ≤ fn.ntmps := by simpa using hn
  refine wp_mono (h _ ⟨rfl, by simp; omega, fun t v ht => ?_⟩) ?_
  · obtain ⟨_, h2⟩ := lk_frameOf args 0 t v ht
    simp only [Nat.sub_zero] at h2
    have hlt : t < args.length := (List.getElem?_eq_some_iff.1 h2).1
    have h3 : args[t] = v := by rw [List.getElem?_eq_getElem hlt] at h2; simpa using h2
    simp [Array.getD_eq_getD_getElem?, Array.getElem?_append, hlt, h3]
  · rintro x a' w' ⟨e', hf', hq⟩
    cases x <;> simp only [fin] at hq <;> first
      | (obtain ⟨v, hr, hR⟩ := hq a' hf'; exact ⟨hf'.1, v, hr, hR⟩)
      | exact hq.elim

theorem ret_mono {P : Program} {f : FuncId} {args : Array Value} {w : World} {R K : Value → World → Prop} (h : Calls P f args w (Ret R)) (hk : ∀ v w', R v w' → K v w') : Calls P f args w (Ret K) :=
  Calls.mono h fun e w' he => by cases e <;> first | exact hk _ _ he | exact he.elim

section
variable {P : Program} {n : Nat} {fn : Func} {e : List (Nat × Value)} {w : World} {R : Value → World → Prop}
theorem fin_ret1 {t : Tmp} {v : Value} (hr : fn.results = #[.tmp t]) (hv : lk e t = some v) (h : R v w) : fin P n fn R .ret e w :=
  fun a ha => ⟨v, by rw [results_tmp hr, ha.2.2 t v hv], h⟩
theorem fin_ret2 {t u : Tmp} {v x : Value} (hr : fn.results = #[.tmp t, .tmp u]) (hv : lk e t = some v) (hx : lk e u = some x) (h : R (.tuple #[v, x]) w) : fin P n fn R .ret e w :=
  fun a ha => ⟨_, by rw [results_tmp2 hr, ha.2.2 t v hv, ha.2.2 u x hx], h⟩
theorem fin_ret3 {t u s : Tmp} {v x y : Value} (hr : fn.results = #[.tmp t, .tmp u, .tmp s]) (hv : lk e t = some v) (hx : lk e u = some x) (hy : lk e s = some y) (h : R (.tuple #[v, x, y]) w) : fin P n fn R .ret e w :=
  fun a ha => ⟨.tuple #[v, x, y], by
    have h1 := ha.2.2 t v hv
    have h2 := ha.2.2 u x hx
    have h3 := ha.2.2 s y hy
    simp only [Array.getD_eq_getD_getElem?] at h1 h2 h3
    simp [results, hr, h1, h2, h3], h⟩
theorem fin_end0 (hr : fn.results = #[]) (h : R (.tuple #[]) w) : fin P n fn R .normal e w :=
  fun _ _ => ⟨_, results_none hr _ _ _, h⟩
theorem fin_ret0 (hr : fn.results = #[]) (h : R (.tuple #[]) w) : fin P n fn R .ret e w :=
  fun _ _ => ⟨_, results_none hr _ _ _, h⟩
end

end Go.Proofs.Ytdoibplhbdkapaa
