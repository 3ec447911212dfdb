/- The place of a slot in a table. No condition. -/
import Derived.Test.YtdoibplhbdkapaaD4
import Derived.Test.YtdoibplhbdkapaaFlowK
namespace Go.Proofs.Ytdoibplhbdkapaa
open Go.RowKit
set_option linter.unusedVariables false
set_option linter.unusedSimpArgs false
set_option maxRecDepth 20000
/-! ### a slot put into a table -/
theorem cmpS_lt {a b : SlotI} : cmpS a b < 0 ↔ a.mode < b.mode ∨ (a.mode = b.mode ∧ (a.round < b.round ∨ (a.round = b.round ∧ a.slot < b.slot))) := by
  simp only [cmpS, cmpI]
  (repeat' split) <;> omega
theorem cmpS_gt {a b : SlotI} : 0 < cmpS a b ↔ b.mode < a.mode ∨ (b.mode = a.mode ∧ (b.round < a.round ∨ (b.round = a.round ∧ b.slot < a.slot))) := by
  simp only [cmpS, cmpI]
  (repeat' split) <;> omega
theorem cmpS_eq0 {a b : SlotI} : cmpS a b = 0 ↔ a.mode = b.mode ∧ a.round = b.round ∧ a.slot = b.slot := by
  simp only [cmpS, cmpI]
  (repeat' split) <;> omega
theorem cmpS_in (a b : SlotI) : -1 ≤ cmpS a b ∧ cmpS a b ≤ 1 := by
  simp only [cmpS, cmpI]
  (repeat' split) <;> omega
theorem cmpS_neg (a b : SlotI) : cmpS b a = 0 - cmpS a b := by
  simp only [cmpS, cmpI]
  (repeat' split) <;> omega
theorem cmpS_trans {a b c : SlotI} (h1 : cmpS a b < 0) (h2 : cmpS b c < 0) : cmpS a c < 0 := by
  rw [cmpS_lt] at *; omega
theorem okFrom_pw : ∀ (xs : List SlotI) (p : Option SlotI), okFrom p xs = true → xs.Pairwise (fun a b => cmpS a b < 0) ∧ ∀ y, p = some y → ∀ x ∈ xs, cmpS y x < 0
  | [], p, _ => ⟨.nil, fun y _ x hx => by simp at hx⟩
  | x :: r, p, h => by
    have h1 : okFrom (some x) r = true ∧ ∀ y, p = some y → cmpS y x < 0 := by
      cases p <;> simp [okFrom] at h
      · exact ⟨h.2, fun y hy => by cases hy⟩
      · exact ⟨h.2, fun y hy => by cases hy; exact h.1.2⟩
    obtain ⟨h2, h3⟩ := okFrom_pw r (some x) h1.1
    refine ⟨List.Pairwise.cons (fun z hz => h3 x rfl z hz) h2, fun y hy z hz => ?_⟩
    rcases List.mem_cons.1 hz with rfl | hz
    · exact h1.2 y hy
    · exact cmpS_trans (h1.2 y hy) (h3 x rfl z hz)
theorem pw_okFrom : ∀ (xs : List SlotI) (p : Option SlotI), (∀ x ∈ xs, slotOk x = true) → xs.Pairwise (fun a b => cmpS a b < 0) → (∀ y, p = some y → ∀ x ∈ xs, cmpS y x < 0) → okFrom p xs = true
  | [], p, _, _, _ => by cases p <;> rfl
  | x :: r, p, h1, h2, h3 => by
    have h4 := List.pairwise_cons.1 h2
    have h5 := pw_okFrom r (some x) (fun z hz => h1 z (by simp [hz])) h4.2 (fun y hy z hz => by cases hy; exact h4.1 z hz)
    cases p with
    | none => simp [okFrom, h1 x (by simp), h5]
    | some y => simp [okFrom, h1 x (by simp), h5, h3 y rfl x (by simp)]
theorem isST_pw {xs : List SlotI} (h : isST xs = true) : xs.Pairwise (fun a b => cmpS a b < 0) := by
  simp only [isST, Bool.and_eq_true] at h
  exact (okFrom_pw xs none h.1).1
theorem pw_at : ∀ {xs : List SlotI} {i j : Nat} {a b : SlotI}, xs.Pairwise (fun a b => cmpS a b < 0) → xs[i]? = some a → xs[j]? = some b → i < j → cmpS a b < 0
  | [], i, j, a, b, _, ha, _, _ => by simp at ha
  | x :: r, 0, j + 1, a, b, h, ha, hb, _ => by
    simp at ha; subst ha
    exact (List.pairwise_cons.1 h).1 b (List.mem_of_getElem? (by simpa using hb))
  | x :: r, i + 1, j + 1, a, b, h, ha, hb, hij => pw_at (List.pairwise_cons.1 h).2 (by simpa using ha) (by simpa using hb) (by omega)
  | x :: r, i, 0, a, b, _, _, _, hij => by omega
/-- p is the place of x -/
def BS (xs : List SlotI) (x : SlotI) (p : Nat) : Prop := p ≤ xs.length ∧ (∀ k y, xs[k]? = some y → k < p → cmpS y x < 0) ∧ ∀ k y, xs[k]? = some y → p ≤ k → 0 ≤ cmpS y x
def hitB (xs : List SlotI) (x : SlotI) (p : Nat) : Bool := match xs[p]? with
  | some y => decide (cmpS y x = 0)
  | none => false
theorem hit_cmp {x y : SlotI} : hitS x.mode x.round x.slot y = true ↔ cmpS y x = 0 := by
  rw [cmpS_eq0]; simp [hitS, and_assoc]
theorem findS_nn {f : SlotI → Bool} : ∀ (xs : List SlotI) (k : Int), 0 ≤ k → (∃ y ∈ xs, f y = true) → 0 ≤ findS f k xs
  | [], _, _, ⟨y, hy, _⟩ => by simp at hy
  | x :: r, k, hk, ⟨y, hy, hf⟩ => by
    rw [findS]; split
    · exact hk
    · rename_i h
      rcases List.mem_cons.1 hy with rfl | hy
      · exact absurd hf h
      · exact findS_nn r (k + 1) (by omega) ⟨y, hy, hf⟩
theorem bs_hit {xs : List SlotI} {x : SlotI} {p : Nat} (hp : xs.Pairwise (fun a b => cmpS a b < 0)) (hb : BS xs x p) : hitB xs x p = true ↔ ¬ findS (hitS x.mode x.round x.slot) 0 xs < 0 := by
  constructor
  · intro h
    unfold hitB at h
    split at h
    · rename_i y hy
      have := findS_nn (f := hitS x.mode x.round x.slot) xs 0 (Int.le_refl _) ⟨y, List.mem_of_getElem? hy, hit_cmp.2 (by simpa using h)⟩
      omega
    · cases h
  · intro h
    obtain ⟨j, y, _, hy, hh⟩ := find_at h
    have h0 := hit_cmp.1 hh
    have hj : p ≤ j := by
      rcases Nat.lt_or_ge j p with h1 | h1
      · have := hb.2.1 j y hy h1; omega
      · exact h1
    have hjl := (List.getElem?_eq_some_iff.1 hy).1
    have hz := List.getElem?_eq_getElem (show p < xs.length by omega)
    have h2 := hb.2.2 p _ hz (Nat.le_refl _)
    rcases Nat.eq_or_lt_of_le hj with rfl | h3
    · unfold hitB; rw [hy]; simpa using h0
    · have h4 := pw_at hp hz hy h3
      rw [cmpS_lt] at h4; rw [cmpS_eq0] at h0
      have h5 : ¬ cmpS xs[p] x < 0 := by omega
      rw [cmpS_lt] at h5; omega
def insL (xs : List SlotI) (x : SlotI) (p : Nat) : List SlotI := xs.take p ++ x :: xs.drop p
theorem insL_len {xs : List SlotI} {x : SlotI} {p : Nat} (h : p ≤ xs.length) : (insL xs x p).length = xs.length + 1 := by
  rw [insL, List.length_append, List.length_cons, List.length_take, List.length_drop]; omega
theorem bs_take {xs : List SlotI} {x : SlotI} {p : Nat} (hb : BS xs x p) : ∀ y ∈ xs.take p, cmpS y x < 0 := fun y hy => by
  obtain ⟨k, hk⟩ := List.mem_iff_getElem?.1 hy
  rw [List.getElem?_take] at hk
  split at hk
  · exact hb.2.1 k y hk (by assumption)
  · cases hk
theorem bs_drop {xs : List SlotI} {x : SlotI} {p : Nat} (hp : xs.Pairwise (fun a b => cmpS a b < 0)) (hb : BS xs x p) (hn : hitB xs x p = false) : ∀ y ∈ xs.drop p, 0 < cmpS y x := fun y hy => by
  obtain ⟨k, hk⟩ := List.mem_iff_getElem?.1 hy
  rw [List.getElem?_drop] at hk
  have h1 := hb.2.2 _ y hk (by omega)
  by_cases h0 : cmpS y x = 0
  · have h2 := findS_nn (f := hitS x.mode x.round x.slot) xs 0 (Int.le_refl _) ⟨y, List.mem_of_getElem? hk, hit_cmp.2 h0⟩
    have := (bs_hit hp hb).2 (by omega)
    rw [hn] at this; cases this
  · omega
def ltL (xs : List SlotI) (x : SlotI) : List SlotI := xs.filter fun y => decide (cmpS y x < 0)
def gtL (xs : List SlotI) (x : SlotI) : List SlotI := xs.filter fun y => decide (0 < cmpS y x)
theorem ltL_len (xs : List SlotI) (x : SlotI) : (ltL xs x).length ≤ xs.length := List.length_filter_le _ _
theorem gtL_len (xs : List SlotI) (x : SlotI) : (gtL xs x).length ≤ xs.length := List.length_filter_le _ _
theorem ltL_step {xs : List SlotI} {k : Nat} {x y : SlotI} (h : xs[k]? = some y) : ltL (xs.take (k + 1)) x = if cmpS y x < 0 then ltL (xs.take k) x ++ [y] else ltL (xs.take k) x := by
  unfold ltL
  rw [List.take_add_one, h, Option.toList_some, List.filter_append]
  by_cases h1 : cmpS y x < 0 <;> simp [h1]
theorem gtL_step {xs : List SlotI} {k : Nat} {x y : SlotI} (h : xs[k]? = some y) : gtL (xs.take (k + 1)) x = if 0 < cmpS y x then gtL (xs.take k) x ++ [y] else gtL (xs.take k) x := by
  unfold gtL
  rw [List.take_add_one, h, Option.toList_some, List.filter_append]
  by_cases h1 : 0 < cmpS y x <;> simp [h1]
theorem bs_filter {xs : List SlotI} {x : SlotI} {p : Nat} (hp : xs.Pairwise (fun a b => cmpS a b < 0)) (hb : BS xs x p) (hn : hitB xs x p = false) : ltL xs x ++ x :: gtL xs x = insL xs x p := by
  have e1 : ltL xs x = xs.take p := by
    have : ltL (xs.take p ++ xs.drop p) x = xs.take p := by
      unfold ltL
      rw [List.filter_append, List.filter_eq_self.2 (fun y hy => by simpa using bs_take hb y hy), List.filter_eq_nil_iff.2 (fun y hy => by have := bs_drop hp hb hn y hy; simp; omega), List.append_nil]
    rwa [List.take_append_drop] at this
  have e2 : gtL xs x = xs.drop p := by
    have : gtL (xs.take p ++ xs.drop p) x = xs.drop p := by
      unfold gtL
      rw [List.filter_append, List.filter_eq_nil_iff.2 (fun y hy => by have := bs_take hb y hy; simp; omega), List.filter_eq_self.2 (fun y hy => by simpa using bs_drop hp hb hn y hy), List.nil_append]
    rwa [List.take_append_drop] at this
  rw [e1, e2, insL]
def insF (xs : List SlotI) (x : SlotI) : List SlotI × Int := if isST xs = true then (if slotOk x = true then (if findS (hitS x.mode x.round x.slot) 0 xs < 0 then (if xs.length = 120 then ([], 3) else (ltL xs x ++ x :: gtL xs x, 0)) else ([], 5)) else ([], 2)) else ([], 1)
theorem insF_len (xs : List SlotI) (x : SlotI) : (insF xs x).1.length ≤ 1048576 := by
  unfold insF
  split
  · rename_i h
    have := isST_len h
    have := ltL_len xs x
    have := gtL_len xs x
    split
    · split
      · split
        · simp
        · simp only [List.length_append, List.length_cons]; omega
      · simp
    · simp
  · simp
/-- what is known when the code is 0 -/
theorem insF_ok {xs : List SlotI} {x : SlotI} (h : ¬ (insF xs x).2 ≠ 0) : isST xs = true ∧ slotOk x = true ∧ findS (hitS x.mode x.round x.slot) 0 xs < 0 ∧ xs.length < 120 ∧ (insF xs x).1 = ltL xs x ++ x :: gtL xs x := by
  have h0 : (insF xs x).2 = 0 := by omega
  unfold insF at h0 ⊢
  split at h0
  · rename_i h1
    have h5 := isST_len h1
    split at h0
    · rename_i h2
      split at h0
      · rename_i h3
        split at h0
        · cases h0
        · rename_i h4
          rw [if_pos h1, if_pos h2, if_pos h3, if_neg h4]
          exact ⟨h1, h2, h3, by omega, rfl⟩
      · cases h0
    · cases h0
  · cases h0
theorem mem_lt {xs : List SlotI} {x y : SlotI} : y ∈ ltL xs x ↔ y ∈ xs ∧ cmpS y x < 0 := by simp [ltL, List.mem_filter]
theorem mem_gt {xs : List SlotI} {x y : SlotI} : y ∈ gtL xs x ↔ y ∈ xs ∧ 0 < cmpS y x := by simp [gtL, List.mem_filter]
theorem find_none {xs : List SlotI} {f : SlotI → Bool} (h : findS f 0 xs < 0) : ∀ y ∈ xs, f y = false := fun y hy => by
  cases h1 : f y with
  | false => rfl
  | true => have := findS_nn xs 0 (Int.le_refl _) ⟨y, hy, h1⟩; omega
theorem ins_st {xs : List SlotI} {x : SlotI} (h1 : isST xs = true) (h2 : slotOk x = true) (h4 : (ltL xs x ++ x :: gtL xs x).length ≤ 120) : isST (ltL xs x ++ x :: gtL xs x) = true := by
  have hp := isST_pw h1
  have ho : ∀ y ∈ xs, slotOk y = true := fun y hy => by
    obtain ⟨k, hk⟩ := List.mem_iff_getElem?.1 hy; exact isST_at h1 hk
  rw [isST, Bool.and_eq_true, decide_eq_true_eq]
  refine ⟨pw_okFrom _ none (fun y hy => ?_) ?_ (fun y hy => by cases hy), h4⟩
  · rcases List.mem_append.1 hy with hy | hy
    · exact ho y (mem_lt.1 hy).1
    · rcases List.mem_cons.1 hy with rfl | hy
      · exact h2
      · exact ho y (mem_gt.1 hy).1
  · rw [List.pairwise_append, List.pairwise_cons]
    refine ⟨hp.sublist List.filter_sublist, ⟨fun y hy => ?_, hp.sublist List.filter_sublist⟩, fun a ha b hb => ?_⟩
    · have := (mem_gt.1 hy).2
      rw [cmpS_neg y x]; omega
    · have h5 := (mem_lt.1 ha).2
      rcases List.mem_cons.1 hb with rfl | hb
      · exact h5
      · have h6 := (mem_gt.1 hb).2
        exact cmpS_trans h5 (by rw [cmpS_neg b x]; omega)
theorem pw_same {xs : List SlotI} (hp : xs.Pairwise (fun a b => cmpS a b < 0)) {a b : SlotI} (ha : a ∈ xs) (hb : b ∈ xs) (h : cmpS a b = 0) : a = b := by
  obtain ⟨i, hi⟩ := List.mem_iff_getElem?.1 ha
  obtain ⟨j, hj⟩ := List.mem_iff_getElem?.1 hb
  rcases Nat.lt_trichotomy i j with h1 | h1 | h1
  · have := pw_at hp hi hj h1; omega
  · subst h1; rw [hi] at hj; injection hj
  · have := pw_at hp hj hi h1; rw [cmpS_neg a b] at this; omega
theorem ins_find {ys : List SlotI} {x : SlotI} (h1 : isST ys = true) (h2 : x ∈ ys) : findD ys x.mode x.round x.slot = (x.desc, 0) := by
  have h3 := findS_nn (f := hitS x.mode x.round x.slot) ys 0 (Int.le_refl _) ⟨x, h2, hit_cmp.2 (cmpS_eq0.2 ⟨rfl, rfl, rfl⟩)⟩
  have h4 : ¬ findS (hitS x.mode x.round x.slot) 0 ys < 0 := by omega
  obtain ⟨j, y, hj, hy, hh⟩ := find_at h4
  have h5 := pw_same (isST_pw h1) (List.mem_of_getElem? hy) h2 (hit_cmp.1 hh)
  subst h5
  rw [findD, if_pos h1, if_neg h4, hj]; simp [hy]
theorem shr1 {z : Int} (h : 0 ≤ z) : z.fdiv (2 ^ (min ((1 : Int).toNat) IntKind.u64.bits)) = z / 2 := by
  show z.fdiv 2 = _
  rw [Int.fdiv_eq_ediv_of_nonneg _ (by omega)]
theorem wu {n : Int} (h : 0 ≤ n ∧ n ≤ 9223372036854775807) : IntKind.u64.wrap n = n := by
  have h1 : n % 18446744073709551616 = n := by omega
  simp [IntKind.wrap, IntKind.bits, IntKind.signed, h1]
theorem insCmp_c (a b : SlotI) (w : World)  :
    Calls Try.prog 57 #[.agg a.cells.toArray, .agg b.cells.toArray] w (Ret fun v w' => v = .int .i64 (cmpS a b) ∧ Ext w w') := by
  have X := Ext.refl w
  refine calls_of (args := [.agg a.cells.toArray, .agg b.cells.toArray]) Try.func57 Try.ntmps57 rfl rfl ?_
  refine c_seqR ?_
  refine ops_cons rfl (ow_box rfl rfl ?_)
  intro g4 w3 eg4 b1 x2 zg4
  have lg4 : w.heap.size ≤ g4 := Nat.le_trans X.size (Nat.le_of_eq eg4.symm)
  replace X := Ext.trans X x2; clear x2
  refine ops_cons rfl (ow_box rfl rfl ?_)
  intro g8 w7 eg8 b5 x6 zg8
  have lg8 : w.heap.size ≤ g8 := Nat.le_trans X.size (Nat.le_of_eq eg8.symm)
  have ng8b1 := Nat.lt_of_lt_of_eq b1.lt eg8.symm
  replace b1 := b1.ext x6
  replace X := Ext.trans X x6; clear x6
  refine ops_cons rfl (ow_assign rfl ?_)
  refine ops_nil ?_
  refine c_seqR ?_
  refine ops_cons rfl (ow_loadAB b1 ti49 rfl rfl ?_)
  refine ops_cons rfl (ow_loadAB b5 ti49 rfl rfl ?_)
  refine ops_cons rfl (ow_call ent30 rfl (ret_mono (iCompareSlots_c _ _ _) ?_))
  rintro _ w10 ⟨rfl, x9⟩
  replace b1 := b1.ext x9
  replace b5 := b5.ext x9
  replace X := Ext.trans X x9; clear x9
  refine ops_cons rfl (ow_assign rfl ?_)
  refine ops_nil ?_
  refine c_ret ?_
  refine fin_ret1 rfl rfl ?_
  exact ⟨by rfl, X⟩

theorem bsearch_c (A : Option Addr) (B c : Nat) (xs : List SlotI) (x : SlotI) (w : World) (hs : Sl B w A (xs.flatMap SlotI.cells)) (hl : xs.length ≤ 120) (hp : xs.Pairwise (fun a b => cmpS a b < 0)) :
    Calls Try.prog 56 #[.slice A xs.length c, .agg x.cells.toArray, .func (.func 57) #[] #[]] w (Ret fun v w' => ∃ p, v = .tuple #[.int .i64 (p : Nat), .bool (hitB xs x p)] ∧ BS xs x p ∧ Ext w w') := by
  have Bhs := hs.1
  have X := Ext.refl w
  refine calls_of (args := [.slice A xs.length c, .agg x.cells.toArray, .func (.func 57) #[] #[]]) Try.func56 Try.ntmps56 rfl rfl ?_
  refine c_seqR ?_
  refine ops_cons rfl (ow_box rfl rfl ?_)
  intro gX w2 egX bX x1 zgX
  have lgX : w.heap.size ≤ gX := Nat.le_trans X.size (Nat.le_of_eq egX.symm)
  have pgXhs := Nat.le_trans hs.1 (Nat.le_of_eq egX.symm)
  replace hs := hs.ext x1
  replace X := Ext.trans X x1; clear x1
  refine ops_cons rfl (ow_assign rfl ?_)
  refine ops_cons rfl (ow_assign rfl ?_)
  refine ops_nil ?_
  refine c_seqR ?_
  refine ops_cons rfl (ow_move rfl ?_)
  refine ops_cons rfl (ow_len Try.underlying43 rfl ?_)
  refine ops_cons rfl (ow_assign rfl ?_)
  refine ops_nil ?_
  refine c_seqR ?_
  refine ops_cons rfl (ow_move rfl ?_)
  refine ops_cons rfl (ow_assign rfl ?_)
  refine ops_cons rfl (ow_assign rfl ?_)
  refine ops_nil ?_
  refine c_seq ?_
  refine c_block ?_
  refine c_loop (G := Nat × Nat) (fun ⟨a, b⟩ => [(0, .slice A xs.length c), (2, .func (.func 57) #[] #[]), (4, .pointer (some ⟨gX, 0, none⟩)), (6, .int .i64 0), (7, .bool false), (8, .int .i64 (xs.length : Nat)), (9, .int .i64 (a : Nat)), (10, .int .i64 (b : Nat))]) (fun ⟨a, b⟩ wr => (a ≤ b ∧ b ≤ xs.length) ∧ (∀ k y, xs[k]? = some y → k < a → cmpS y x < 0) ∧ (∀ k y, xs[k]? = some y → b ≤ k → 0 ≤ cmpS y x) ∧ Sl B wr A (xs.flatMap SlotI.cells) ∧ Blk wr gX 49 x.cells ∧ Ext w wr) (fun ⟨a, b⟩ => b - a) (0, xs.length) (.cons rfl (.cons rfl (.cons rfl (.cons rfl (.cons rfl (.cons rfl (.cons rfl (.cons rfl (.nil _))))))))) ?_ ?_
  · exact ⟨⟨Nat.zero_le _, Nat.le_refl _⟩, (fun k y _ h => absurd h (Nat.not_lt_zero _)), (fun k y hk h => absurd (List.getElem?_eq_some_iff.1 hk).1 (Nat.not_lt.2 h)), hs, bX, X⟩
  clear hs bX
  clear X
  rintro ⟨a, b⟩ wr ⟨hab, hlo, hhi, hs, bX, X⟩
  refine c_seq ?_
  refine c_seqR ?_
  refine ops_cons rfl (ow_move rfl ?_)
  refine ops_cons rfl (ow_move rfl ?_)
  refine ops_cons rfl (ow_lss2 rfl rfl (fun hk => ?_) (fun hk => ?_))
  obtain ⟨y, hy, dy⟩ := drop_at (xs := xs) (k := (a + b) / 2) (by omega)
  refine ops_nil ?_
  refine c_true rfl ?_
  refine c_skip ?_
  refine tq_n ?_
  refine c_block ?_
  refine c_seqR ?_
  refine ops_cons rfl (ow_move rfl ?_)
  refine ops_cons rfl (ow_move rfl ?_)
  refine ops_cons rfl (ow_add rfl rfl (w64 (by omega)) ?_)
  refine ops_cons rfl (ow_conv Try.underlying3 Try.underlying104 rfl (wu (by omega)) ?_)
  refine ops_cons rfl (ow_shr rfl rfl (by omega) (shr1 (by omega)) ?_)
  refine ops_cons rfl (ow_conv Try.underlying104 Try.underlying3 rfl (show IntKind.i64.wrap _ = (((a + b) / 2 : Nat) : Int) from (w64 (by omega)).trans (by omega)) ?_)
  refine ops_cons rfl (ow_assign rfl ?_)
  refine ops_nil ?_
  refine c_seqD [false, false, false, false, false, false, false, false] mixed (by kernel_rfl) ?_
  refine f_q rfl (fun wq sq => ow_move rfl ⟨rfl, Ext.refl _⟩) ?_
  refine f_q rfl (fun wq sq => ow_move rfl ⟨rfl, Ext.refl _⟩) ?_
  refine f_q rfl (fun wq sq => ow_move rfl ⟨rfl, Ext.refl _⟩) ?_
  refine f_q rfl (fun wq sq => ow_indexT (hs.ext sq) SlotI.len rfl el43 rfl rfl rfl hy rfl ⟨rfl, Ext.refl _⟩) ?_
  refine f_q rfl (fun wq sq => ow_loadTA (hs.ext sq) SlotI.len hy ti49 rfl ⟨rfl, Ext.refl _⟩) ?_
  refine f_q rfl (fun wq sq => ow_loadAB (bX.ext sq) ti49 rfl rfl ⟨rfl, Ext.refl _⟩) ?_
  refine f_q rfl (fun wq sq => ow_callVL ent57 rfl rfl (insCmp_c y x _)) ?_
  refine f_qb rfl (fun wq sq => ow_lss rfl rfl ⟨rfl, Ext.refl _⟩) (fun hc => ?_) (fun hc => ?_)
  refine f_nil (fun w3 sq => ?_)
  have xq := sq
  replace hs := hs.ext xq
  replace bX := bX.ext xq
  replace X := Ext.trans X xq; clear xq sq
  refine ops_nil ?_
  refine c_true rfl ?_
  refine c_region ?_
  refine ops_cons rfl (ow_move rfl ?_)
  refine ops_cons rfl (ow_add rfl rfl (show IntKind.i64.wrap _ = (((a + b) / 2 + 1 : Nat) : Int) from (w64 (by omega)).trans (by omega)) ?_)
  refine ops_cons rfl (ow_assign rfl ?_)
  refine ops_nil ?_
  refine bq_n ?_
  refine tq_n ⟨((a + b) / 2 + 1, b), (.cons rfl (.cons rfl (.cons rfl (.cons rfl (.cons rfl (.cons rfl (.cons rfl (.cons rfl (.nil _))))))))), ?_, ?_⟩
  · exact ⟨⟨by omega, by omega⟩, (fun k z hz h => (Nat.lt_or_eq_of_le (Nat.le_of_lt_succ h)).elim (fun h => cmpS_trans (pw_at hp hz hy h) hc) (fun h => by subst h; rw [hy] at hz; injection hz with hz; subst hz; exact hc)), hhi, hs, bX, X⟩
  · first | omega | (dsimp only; omega)
  refine f_nil (fun w4 sq => ?_)
  have xq := sq
  replace hs := hs.ext xq
  replace bX := bX.ext xq
  replace X := Ext.trans X xq; clear xq sq
  refine ops_nil ?_
  refine c_false rfl ?_
  refine c_region ?_
  refine ops_cons rfl (ow_move rfl ?_)
  refine ops_cons rfl (ow_assign rfl ?_)
  refine ops_nil ?_
  refine bq_n ?_
  refine tq_n ⟨(a, (a + b) / 2), (.cons rfl (.cons rfl (.cons rfl (.cons rfl (.cons rfl (.cons rfl (.cons rfl (.cons rfl (.nil _))))))))), ?_, ?_⟩
  · exact ⟨⟨by omega, by omega⟩, hlo, (fun k z hz h => (Nat.lt_or_eq_of_le h).elim (fun h => Int.not_lt.1 fun h2 => hc (cmpS_trans (pw_at hp hy hz h) h2)) (fun h => by subst h; rw [hy] at hz; injection hz with hz; subst hz; exact Int.not_lt.1 hc)), hs, bX, X⟩
  · first | omega | (dsimp only; omega)
  refine ops_nil ?_
  refine c_false rfl ?_
  refine c_exit ?_
  refine tq_e ?_
  refine tq_e ?_
  refine bq_e ?_
  refine tq_n ?_
  refine c_seqD [false, false, false, false, false, false, false, false, false, false, false, false, false, false, false, false] mixed (by kernel_rfl) ?_
  refine f_q rfl (fun wq sq => ow_move rfl ⟨rfl, Ext.refl _⟩) ?_
  refine f_q rfl (fun wq sq => ow_move rfl ⟨rfl, Ext.refl _⟩) ?_
  refine f_q rfl (fun wq sq => ow_move rfl ⟨rfl, Ext.refl _⟩) ?_
  refine f_qb rfl (fun wq sq => ow_lss rfl rfl ⟨rfl, Ext.refl _⟩) (fun hl1 => ?_) (fun hl1 => ?_)
  obtain ⟨y, hy, dy⟩ := drop_at (xs := xs) (k := a) (by omega)
  refine f_q rfl (fun wq sq => ow_move rfl ⟨rfl, Ext.refl _⟩) ?_
  refine f_qw rfl rfl rfl (fun wq sq => ow_move rfl ⟨rfl, Ext.refl _⟩) ?_
  refine f_qw rfl rfl rfl (fun wq sq => ow_move rfl ⟨rfl, Ext.refl _⟩) ?_
  refine f_qw rfl rfl rfl (fun wq sq => ow_move rfl ⟨rfl, Ext.refl _⟩) ?_
  refine f_qw rfl rfl rfl (fun wq sq => ow_indexT (hs.ext sq) SlotI.len rfl el43 rfl rfl rfl hy rfl ⟨rfl, Ext.refl _⟩) ?_
  refine f_qw rfl rfl rfl (fun wq sq => ow_loadTA (hs.ext sq) SlotI.len hy ti49 rfl ⟨rfl, Ext.refl _⟩) ?_
  refine f_qw rfl rfl rfl (fun wq sq => ow_loadAB (bX.ext sq) ti49 rfl rfl ⟨rfl, Ext.refl _⟩) ?_
  refine f_qw rfl rfl rfl (fun wq sq => ow_callVL ent57 rfl rfl (insCmp_c y x _)) ?_
  refine f_qw rfl rfl rfl (fun wq sq => ow_eql rfl rfl ⟨rfl, Ext.refl _⟩) ?_
  refine f_q rfl (fun wq sq => ow_pick rfl rfl ⟨rfl, Ext.refl _⟩) ?_
  refine f_q rfl (fun wq sq => ow_assign rfl ⟨rfl, Ext.refl _⟩) ?_
  refine f_q rfl (fun wq sq => ow_assign rfl ⟨rfl, Ext.refl _⟩) ?_
  refine f_nil (fun w5 sq => ?_)
  have xq := sq
  replace hs := hs.ext xq
  replace bX := bX.ext xq
  replace X := Ext.trans X xq; clear xq sq
  refine ops_nil ?_
  refine c_ret ?_
  refine fin_ret2 rfl rfl rfl ?_
  · skip
    have hBS : BS xs x a := ⟨by omega, hlo, fun k y hk h => hhi k y hk (by omega)⟩
    first
    | (refine ⟨a, ?_, hBS, X⟩
       have e : hitB xs x a = decide (cmpS y x = 0) := by unfold hitB; rw [hy]
       rw [e])
    | (refine ⟨a, ?_, hBS, X⟩
       have e : hitB xs x a = false := by unfold hitB; rw [List.getElem?_eq_none (by omega)]
       rw [e])
  refine f_q rfl (fun wq sq => ow_move rfl ⟨rfl, Ext.refl _⟩) ?_
  refine f_qs rfl rfl rfl rfl ?_
  refine f_qs rfl rfl rfl rfl ?_
  refine f_qs rfl rfl rfl rfl ?_
  refine f_qs rfl rfl rfl rfl ?_
  refine f_qs rfl rfl rfl rfl ?_
  refine f_qs rfl rfl rfl rfl ?_
  refine f_qs rfl rfl rfl rfl ?_
  refine f_qs rfl rfl rfl rfl ?_
  refine f_q rfl (fun wq sq => ow_pick rfl rfl ⟨rfl, Ext.refl _⟩) ?_
  refine f_q rfl (fun wq sq => ow_assign rfl ⟨rfl, Ext.refl _⟩) ?_
  refine f_q rfl (fun wq sq => ow_assign rfl ⟨rfl, Ext.refl _⟩) ?_
  refine f_nil (fun w6 sq => ?_)
  have xq := sq
  replace hs := hs.ext xq
  replace bX := bX.ext xq
  replace X := Ext.trans X xq; clear xq sq
  refine ops_nil ?_
  refine c_ret ?_
  refine fin_ret2 rfl rfl rfl ?_
  · skip
    have hBS : BS xs x a := ⟨by omega, hlo, fun k y hk h => hhi k y hk (by omega)⟩
    first
    | (refine ⟨a, ?_, hBS, X⟩
       have e : hitB xs x a = decide (cmpS y x = 0) := by unfold hitB; rw [hy]
       rw [e])
    | (refine ⟨a, ?_, hBS, X⟩
       have e : hitB xs x a = false := by unfold hitB; rw [List.getElem?_eq_none (by omega)]
       rw [e])
end Go.Proofs.Ytdoibplhbdkapaa
