/- Blocks of demands are sorted by insertion, swapped and rotated. No condition. -/
import Derived.Test.YtdoibplhbdkapaaU2
import Derived.Test.YtdoibplhbdkapaaMod4
import Derived.Test.YtdoibplhbdkapaaFlowH
import Derived.Test.YtdoibplhbdkapaaFlowG
import Derived.Test.YtdoibplhbdkapaaFlowU
namespace Go.Proofs.Ytdoibplhbdkapaa
open Go.RowKit
set_option linter.unusedVariables false
set_option linter.unusedSimpArgs false
set_option maxRecDepth 20000
/-! ### stable sorting of demands, with no program in sight -/
def kf (k : Int) (xs : List Dem) : List Dem := xs.filter fun d => decide (d.every = k)
structure Sam (xs ys : List Dem) : Prop where
  f : ∀ k, kf k xs = kf k ys
  l : xs.length = ys.length
def Srt (xs : List Dem) : Prop := xs.Pairwise fun a b => a.every ≤ b.every
theorem kf_app (k : Int) (xs ys : List Dem) : kf k (xs ++ ys) = kf k xs ++ kf k ys := List.filter_append ..
theorem kf_nil {k : Int} {xs : List Dem} (h : ∀ x ∈ xs, x.every ≠ k) : kf k xs = [] := List.filter_eq_nil_iff.2 (fun x hx => by simpa using h x hx)
theorem Sam.refl (xs : List Dem) : Sam xs xs := ⟨fun _ => rfl, rfl⟩
theorem Sam.trans {xs ys zs : List Dem} (h : Sam xs ys) (h2 : Sam ys zs) : Sam xs zs := ⟨fun k => (h.f k).trans (h2.f k), h.l.trans h2.l⟩
theorem Sam.app {a b c d : List Dem} (h : Sam a b) (h2 : Sam c d) : Sam (a ++ c) (b ++ d) := ⟨fun k => by rw [kf_app, kf_app, h.f, h2.f], by rw [List.length_append, List.length_append, h.l, h2.l]⟩
theorem Sam.swap {u v : List Dem} (h : ∀ x ∈ u, ∀ y ∈ v, y.every ≠ x.every) : Sam (v ++ u) (u ++ v) := ⟨fun k => by
  rw [kf_app, kf_app]
  by_cases hk : ∃ x ∈ u, x.every = k
  · obtain ⟨x, hx, e⟩ := hk
    have : kf k v = [] := kf_nil fun y hy => e ▸ h x hx y hy
    rw [this]; simp
  · have : kf k u = [] := kf_nil fun x hx e => hk ⟨x, hx, e⟩
    rw [this]; simp, by simp [Nat.add_comm]⟩
theorem Sam.mem {xs ys : List Dem} (h : Sam xs ys) {x : Dem} (hx : x ∈ xs) : x ∈ ys := by
  have h1 : x ∈ kf x.every xs := List.mem_filter.2 ⟨hx, by simp⟩
  rw [h.f] at h1
  exact (List.mem_filter.1 h1).1
theorem Srt.app {xs ys : List Dem} (h : Srt xs) (h2 : Srt ys) (h3 : ∀ x ∈ xs, ∀ y ∈ ys, x.every ≤ y.every) : Srt (xs ++ ys) := List.pairwise_append.2 ⟨h, h2, h3⟩
theorem cut_at {s : List Dem} {k : Nat} {y : Dem} (h : s[k]? = some y) : s = s.take k ++ y :: s.drop (k + 1) := by
  obtain ⟨h1, h2⟩ := List.getElem?_eq_some_iff.1 h
  rw [← h2, List.getElem_cons_drop, List.take_append_drop]
theorem Srt.take {s : List Dem} {k : Nat} {y : Dem} (h : Srt s) (hk : s[k]? = some y) : ∀ z ∈ s.take (k + 1), z.every ≤ y.every := by
  intro z hz
  obtain ⟨h1, h2⟩ := List.getElem?_eq_some_iff.1 hk
  rw [List.take_add_one, hk, Option.toList_some, List.mem_append] at hz
  rw [cut_at hk] at h
  rcases hz with hz | hz
  · exact (List.pairwise_append.1 h).2.2 z hz y (by simp)
  · rw [List.mem_singleton] at hz; rw [hz]; exact Int.le_refl _
theorem Srt.drop {s : List Dem} {k : Nat} {y : Dem} (h : Srt s) (hk : s[k]? = some y) : ∀ z ∈ s.drop k, y.every ≤ z.every := by
  intro z hz
  obtain ⟨h1, h2⟩ := List.getElem?_eq_some_iff.1 hk
  rw [← List.getElem_cons_drop h1, h2, List.mem_cons] at hz
  rw [cut_at hk] at h
  rcases hz with rfl | hz
  · exact Int.le_refl _
  · exact (List.pairwise_cons.1 (List.pairwise_append.1 h).2.1).1 z hz
theorem Srt.left {xs ys : List Dem} (h : Srt (xs ++ ys)) : Srt xs := (List.pairwise_append.1 h).1
theorem Srt.right {xs ys : List Dem} (h : Srt (xs ++ ys)) : Srt ys := (List.pairwise_append.1 h).2.1
theorem Srt.one (x : Dem) : Srt [x] := List.pairwise_cons.2 ⟨fun _ h => absurd h (by simp), List.Pairwise.nil⟩
theorem Srt.nil_ : Srt [] := List.Pairwise.nil
/-- one is put into a sorted list, behind those that are not greater -/
theorem put_in {t1 t2 : List Dem} {x : Dem} (h : Srt (t1 ++ t2)) (h1 : ∀ y ∈ t1, y.every ≤ x.every) (h2 : ∀ y ∈ t2, x.every ≤ y.every) : Srt (t1 ++ x :: t2) :=
  List.pairwise_append.2 ⟨h.left, List.pairwise_cons.2 ⟨h2, h.right⟩, fun a ha b hb => by
    rcases List.mem_cons.1 hb with rfl | hb
    · exact h1 a ha
    · exact (List.pairwise_append.1 h).2.2 a ha b hb⟩
theorem put_back {t1 t2 : List Dem} {x : Dem} (h : ∀ y ∈ t2, x.every < y.every) : Sam (t1 ++ x :: t2) ((t1 ++ t2) ++ [x]) := by
  have h1 : Sam ([x] ++ t2) (t2 ++ [x]) := Sam.swap (u := t2) (v := [x]) (fun a ha b hb => by
    rw [List.mem_singleton] at hb; subst hb
    have := h a ha; omega)
  have h2 := (Sam.refl t1).app h1
  rw [List.append_assoc]; exact h2
theorem put_front {t1 t2 : List Dem} {x : Dem} (h : ∀ y ∈ t1, y.every < x.every) : Sam (t1 ++ x :: t2) ([x] ++ (t1 ++ t2)) := by
  have h1 : Sam (t1 ++ [x]) ([x] ++ t1) := Sam.swap (u := [x]) (v := t1) (fun a ha b hb => by
    rw [List.mem_singleton] at ha; subst ha
    have := h b hb; omega)
  have h2 := h1.app (Sam.refl t2)
  rw [List.append_assoc, List.append_assoc] at h2; exact h2
/-- two sorted lists, cut: the small ones of both, the great ones of both -/
theorem cut_same {s1a s1b s2a s2b : List Dem} (h : ∀ x ∈ s2a, ∀ y ∈ s1b, x.every < y.every) : Sam ((s1a ++ s2a) ++ (s1b ++ s2b)) ((s1a ++ s1b) ++ (s2a ++ s2b)) := by
  have h1 : Sam (s2a ++ s1b) (s1b ++ s2a) := Sam.swap (u := s1b) (v := s2a) (fun a ha b hb => by have := h b hb a ha; omega)
  have h2 := ((Sam.refl s1a).app h1).app (Sam.refl s2b)
  simp only [List.append_assoc] at h2 ⊢; exact h2
theorem cut_done {s1a s1b s2a s2b t1 t2 : List Dem} (e1 : Sam t1 (s1a ++ s2a)) (e2 : Sam t2 (s1b ++ s2b)) (g1 : Srt t1) (g2 : Srt t2) (h1 : Srt (s1a ++ s1b)) (h2 : Srt (s2a ++ s2b))
    (hA : ∀ x ∈ s1a, ∀ y ∈ s2b, x.every ≤ y.every) (hB : ∀ x ∈ s2a, ∀ y ∈ s1b, x.every < y.every) : Srt (t1 ++ t2) ∧ Sam (t1 ++ t2) ((s1a ++ s1b) ++ (s2a ++ s2b)) := by
  refine ⟨g1.app g2 fun x hx y hy => ?_, (e1.app e2).trans (cut_same hB)⟩
  have a1 := e1.mem hx; have a2 := e2.mem hy
  rw [List.mem_append] at a1 a2
  rcases a1 with a1 | a1 <;> rcases a2 with a2 | a2
  · exact (List.pairwise_append.1 h1).2.2 x a1 y a2
  · exact hA x a1 y a2
  · exact Int.le_of_lt (hB x a1 y a2)
  · exact (List.pairwise_append.1 h2).2.2 x a1 y a2
/-- what the reference makes -/
def sd (r : Nat) (xs : List Dem) : List Dem := (([1, 2, 4, 8] : List Int).take r).flatMap fun k => kf k xs
theorem sam_sd {xs ys : List Dem} (h : Sam xs ys) (r : Nat) : sd r xs = sd r ys := by
  unfold sd
  congr 1; funext k; exact h.f k
theorem kf_cons (k : Int) (d : Dem) (xs : List Dem) : kf k (d :: xs) = if d.every = k then d :: kf k xs else kf k xs := by
  unfold kf; rw [List.filter_cons]; simp
theorem srt_sd {xs : List Dem} (h : Srt xs) (he : ∀ d ∈ xs, d.every = 1 ∨ d.every = 2 ∨ d.every = 4 ∨ d.every = 8) : sd 4 xs = xs := by
  induction xs with
  | nil => rfl
  | cons d xs ih =>
    have h1 := List.pairwise_cons.1 h
    have ih := ih h1.2 (fun x hx => he x (by simp [hx]))
    have hz : ∀ k : Int, k < d.every → kf k xs = [] := fun k hk => kf_nil fun x hx => by have := h1.1 x hx; omega
    have e : sd 4 xs = kf 1 xs ++ (kf 2 xs ++ (kf 4 xs ++ (kf 8 xs ++ []))) := rfl
    have e2 : sd 4 (d :: xs) = kf 1 (d :: xs) ++ (kf 2 (d :: xs) ++ (kf 4 (d :: xs) ++ (kf 8 (d :: xs) ++ []))) := rfl
    rw [e] at ih
    rw [e2, kf_cons, kf_cons, kf_cons, kf_cons]
    rcases he d (by simp) with h2 | h2 | h2 | h2
    · rw [if_pos h2, if_neg (by omega), if_neg (by omega), if_neg (by omega)]; rw [List.cons_append, ih]
    · rw [if_neg (by omega), if_pos h2, if_neg (by omega), if_neg (by omega)]
      rw [hz 1 (by omega), List.nil_append] at ih ⊢; rw [List.cons_append, ih]
    · rw [if_neg (by omega), if_neg (by omega), if_pos h2, if_neg (by omega)]
      rw [hz 1 (by omega), List.nil_append, hz 2 (by omega), List.nil_append] at ih ⊢; rw [List.cons_append, ih]
    · rw [if_neg (by omega), if_neg (by omega), if_neg (by omega), if_pos h2]
      rw [hz 1 (by omega), List.nil_append, hz 2 (by omega), List.nil_append, hz 4 (by omega), List.nil_append] at ih ⊢; rw [List.cons_append, ih]
def sortF (xs : List Dem) : List Dem × Int := if areD xs = true then (sd 4 xs, 0) else ([], 1)
theorem sd_len (r : Nat) (xs : List Dem) : (sd r xs).length ≤ 4 * xs.length := by
  have h : ∀ k : Int, (kf k xs).length ≤ xs.length := fun k => List.length_filter_le ..
  have a1 := h 1; have a2 := h 2; have a4 := h 4; have a8 := h 8
  match r with
  | 0 => simp [sd]
  | 1 => simp [sd]; omega
  | 2 => simp [sd]; omega
  | 3 => simp [sd]; omega
  | r + 4 => simp [sd]; omega
theorem sortF_len (xs : List Dem) (h : xs.length ≤ 1048576) : (sortF xs).1.length ≤ 1048576 := by
  unfold sortF
  split
  · rename_i h1
    have h2 := areD_len h1
    have h3 := sd_len 4 xs
    simp only; omega
  · simp
theorem sd_step {r : Nat} {e : Int} (h : (r = 0 ∧ e = 1) ∨ (r = 1 ∧ e = 2) ∨ (r = 2 ∧ e = 4) ∨ (r = 3 ∧ e = 8)) (xs : List Dem) : sd (r + 1) xs = sd r xs ++ kf e xs := by
  rcases h with ⟨rfl, rfl⟩ | ⟨rfl, rfl⟩ | ⟨rfl, rfl⟩ | ⟨rfl, rfl⟩ <;> simp [sd]
theorem areD_ev {xs : List Dem} (h : areD xs = true) : ∀ d ∈ xs, d.every = 1 ∨ d.every = 2 ∨ d.every = 4 ∨ d.every = 8 := fun d hd => by
  have h1 := List.all_eq_true.1 (by simp only [areD, Bool.and_eq_true] at h; exact h.1) d hd
  simp only [demOk, evB, Bool.and_eq_true, Bool.or_eq_true, decide_eq_true_eq] at h1
  rcases h1.1.2 with ((h | h) | h) | h <;> simp [h]
theorem sort_done {t xs : List Dem} (h : areD xs = true) (hs : Srt t) (e : Sam t xs) : t = sd 4 xs := by
  rw [← sam_sd e 4]
  exact (srt_sd hs fun d hd => areD_ev h d (e.mem hd)).symm
theorem mid_at {L M : List Dem} {x : Dem} {n : Nat} (h : n = L.length) : (L ++ x :: M)[n]? = some x := by
  subst h; rw [List.getElem?_append_right (Nat.le_refl _)]; simp
theorem mid_set {L M : List Dem} {x y : Dem} {n : Nat} (h : n = L.length) : (L ++ x :: M).set n y = L ++ y :: M := by
  subst h; rw [List.set_append_right _ _ (Nat.le_refl _)]; simp
/-- two that stand side by side change places -/
theorem swap2 {L M : List Dem} {x y : Dem} {n : Nat} (h : n = L.length) : ((L ++ x :: y :: M).set n y).set (n + 1) x = L ++ y :: x :: M := by
  rw [mid_set h]
  have e : L ++ y :: y :: M = (L ++ [y]) ++ y :: M := by simp
  rw [e, mid_set (by simp [h])]; simp
theorem swap2' {L M : List Dem} {x y : Dem} {n : Nat} (h : n = L.length) : ((L ++ x :: y :: M).set (n + 1) x).set n y = L ++ y :: x :: M := by
  have e : L ++ x :: y :: M = (L ++ [x]) ++ y :: M := by simp
  rw [e, mid_set (by simp [h])]
  have e2 : (L ++ [x]) ++ x :: M = L ++ x :: x :: M := by simp
  rw [e2, mid_set h]
/-- two that stand apart change places -/
theorem swapFar {L R M : List Dem} {x y : Dem} {n m : Nat} (h : n = L.length) (h2 : m = n + 1 + R.length) : ((L ++ x :: (R ++ y :: M)).set n y).set m x = L ++ y :: (R ++ x :: M) := by
  rw [mid_set h]
  have e : L ++ y :: (R ++ y :: M) = (L ++ y :: R) ++ y :: M := by simp
  rw [e, mid_set (by simp [h, h2]; omega)]; simp
theorem far_at {L R M : List Dem} {x y : Dem} {m : Nat} (h2 : m = L.length + 1 + R.length) : (L ++ x :: (R ++ y :: M))[m]? = some y := by
  have e : L ++ x :: (R ++ y :: M) = (L ++ x :: R) ++ y :: M := by simp
  rw [e]; exact mid_at (by simp [h2]; omega)
theorem in_at {P S Q : List Dem} {n k : Nat} {x : Dem} (h : n = P.length + k) (hk : S[k]? = some x) : (P ++ (S ++ Q))[n]? = some x := by
  obtain ⟨h1, h2⟩ := List.getElem?_eq_some_iff.1 hk
  rw [List.getElem?_append_right (by omega), show n - P.length = k by omega, List.getElem?_append_left h1]; exact hk
theorem cons_of {α : Type} {l : List α} (h : 0 < l.length) : ∃ x r, l = x :: r := by
  cases l with
  | nil => simp at h
  | cons x r => exact ⟨x, r, rfl⟩
theorem snoc_of {α : Type} {l : List α} (h : 0 < l.length) : ∃ r x, l = r ++ [x] := ⟨l.dropLast, l.getLast (List.length_pos_iff.1 h), (List.dropLast_concat_getLast _).symm⟩
theorem own_n {w : World} {lo n c : Nat} {t : TypeId} {A : Option Addr} {L : List Dem} (h : Own w lo t 3 A n c (L.flatMap Dem.cells)) : n = L.length := by
  have h1 := h.len
  rw [flat_len Dem.len] at h1
  omega
def EvD (xs : List Dem) : Prop := ∀ d ∈ xs, 1 ≤ d.every ∧ d.every ≤ 8
theorem EvD.sub {xs ys : List Dem} (h : EvD xs) (hs : ∀ z ∈ ys, z ∈ xs) : EvD ys := fun d hd => h d (hs d hd)
theorem srt_one (S : List Dem) : Srt (S.take 1) := by
  cases S with
  | nil => exact Srt.nil_
  | cons x r => exact Srt.one x
theorem ins_start {S : List Dem} {p : Nat} {a : Int} (h : a = p) : a + 1 = p + (S.take 1).length ∨ (S.drop 1 = [] ∧ p + ((S.take 1).length : Int) ≤ a + 1) := by
  cases S with
  | nil => exact .inr ⟨rfl, by simp; omega⟩
  | cons x r => exact .inl (by first | omega | (simp; done) | (simp; omega))
theorem half_u {z : Int} (h : 0 ≤ z ∧ z ≤ 4194304) : Int.fdiv z (2 ^ (min ((1 : Int).toNat) IntKind.u64.bits)) = z / 2 := by
  show Int.fdiv z 2 = z / 2
  rw [Int.fdiv_eq_ediv_of_nonneg _ (by omega)]
theorem drop_cut (xs : List Dem) (k : Nat) : (xs.drop k).take 20 ++ xs.drop (k + 20) = xs.drop k := by
  rw [← List.drop_drop]; exact List.take_append_drop _ _
theorem kf_snoc {xs : List Dem} {k : Nat} {x : Dem} {e : Int} (h : xs[k]? = some x) : kf e (xs.take (k + 1)) = if x.every = e then kf e (xs.take k) ++ [x] else kf e (xs.take k) := by
  rw [List.take_add_one, h, Option.toList_some, kf_app, kf_cons]
  split <;> simp [kf]
theorem filter_end {xs : List Dem} {k : Nat} {e : Int} (h : xs.length ≤ k) : kf e xs = kf e (xs.take k) := by rw [List.take_of_length_le h]
theorem kf_le (e : Int) (xs : List Dem) (k : Nat) : (kf e (xs.take k)).length ≤ xs.length := Nat.le_trans (List.length_filter_le ..) (by rw [List.length_take]; omega)
theorem cmpD_c (a b : Dem) (w : World) (ha : 1 ≤ a.every ∧ a.every ≤ 8) (hb : 1 ≤ b.every ∧ b.every ≤ 8) :
    Calls Try.prog 49 #[.agg a.cells.toArray, .agg b.cells.toArray] w (Ret fun v w' => v = .int .i64 (a.every - b.every) ∧ Ext w w') := by
  have X := Ext.refl w
  refine calls_of (args := [.agg a.cells.toArray, .agg b.cells.toArray]) Try.func49 Try.ntmps49 rfl rfl ?_
  refine c_seqR ?_
  refine ops_cons rfl (ow_box rfl rfl ?_)
  intro g1 w2 eg1 q1 x1 zg1
  have lg1 : w.heap.size ≤ g1 := Nat.le_trans X.size (Nat.le_of_eq eg1.symm)
  replace X := Ext.trans X x1; clear x1
  refine ops_cons rfl (ow_box rfl rfl ?_)
  intro g2 w4 eg2 q2 x3 zg2
  have lg2 : w.heap.size ≤ g2 := Nat.le_trans X.size (Nat.le_of_eq eg2.symm)
  have ng2q1 := Nat.lt_of_lt_of_eq q1.lt eg2.symm
  replace q1 := q1.ext x3
  replace X := Ext.trans X x3; clear x3
  refine ops_cons rfl (ow_assign rfl ?_)
  refine ops_nil ?_
  refine c_seqR ?_
  refine ops_cons rfl (ow_fieldAddrB off73_1 rfl rfl ?_)
  refine ops_cons rfl (ow_loadB q1 ti2 rfl rfl ?_)
  refine ops_cons rfl (ow_fieldAddrB off73_1 rfl rfl ?_)
  refine ops_cons rfl (ow_loadB q2 ti2 rfl rfl ?_)
  refine ops_cons rfl (ow_sub rfl rfl (w64 (by omega)) ?_)
  refine ops_cons rfl (ow_assign rfl ?_)
  refine ops_nil ?_
  refine c_ret ?_
  refine fin_ret1 rfl rfl ?_
  exact ⟨by rfl, X⟩

theorem swapR_c (A : Option Addr) (n c lo : Nat) (P U R V Q : List Dem) (a b k : Int) (w : World) (oO : Own w lo 73 3 A n c ((P ++ (U ++ (R ++ (V ++ Q)))).flatMap Dem.cells)) (hn : n ≤ 1048576) (ha : a = P.length) (hb : b = P.length + U.length + R.length) (hk : k = U.length) (hV : V.length = U.length) :
    Calls Try.prog 116 #[.slice A n c, .int .i64 a, .int .i64 b, .int .i64 k, .func (.func 49) #[] #[]] w (Ret fun v w' => v = .tuple #[] ∧ Own w' lo 73 3 A n c ((P ++ (V ++ (R ++ (U ++ Q)))).flatMap Dem.cells) ∧ w.grownBy w' (Value.slice A n c).ownBlock) := by
  have hL := own_n oO
  simp only [List.length_append] at hL
  have X := gb_refl w (Value.slice A n c).ownBlock
  refine calls_of (args := [.slice A n c, .int .i64 a, .int .i64 b, .int .i64 k, .func (.func 49) #[] #[]]) Try.func116 Try.ntmps116 rfl rfl ?_
  refine c_seqR ?_
  refine ops_cons rfl (ow_assign rfl ?_)
  refine ops_nil ?_
  refine c_block ?_
  refine c_loop (G := Nat × List Dem × List Dem × List Dem × List Dem) (fun ⟨j, U1, U2, V1, V2⟩ => [(0, .slice A n c), (1, .int .i64 a), (2, .int .i64 b), (3, .int .i64 k), (10, .int .i64 (j : Nat))]) (fun ⟨j, U1, U2, V1, V2⟩ wr => U1 ++ U2 = U ∧ V1 ++ V2 = V ∧ (U1.length = j ∧ V1.length = j) ∧ Own wr lo 73 3 A n c ((P ++ (V1 ++ (U2 ++ (R ++ (U1 ++ (V2 ++ Q)))))).flatMap Dem.cells) ∧ w.grownBy wr (Value.slice A n c).ownBlock) (fun ⟨j, U1, U2, V1, V2⟩ => U.length - j) (0, [], U, [], V) (.cons rfl (.cons rfl (.cons rfl (.cons rfl (.cons rfl (.nil _)))))) ?_ ?_
  · exact ⟨rfl, rfl, ⟨rfl, rfl⟩, oO, X⟩
  clear oO
  clear X
  rintro ⟨j, U1, U2, V1, V2⟩ wr ⟨e1, e2, l1, oO, X⟩
  refine c_seq ?_
  refine c_seqR ?_
  refine ops_cons rfl (ow_move rfl ?_)
  refine ops_cons rfl (ow_move rfl ?_)
  refine ops_cons rfl (ow_lss2 rfl rfl (fun hj => ?_) (fun hj => ?_))
  have z1 := congrArg List.length e1
  have z2 := congrArg List.length e2
  simp only [List.length_append] at z1 z2
  obtain ⟨x, U3, eU⟩ := cons_of (l := U2) (by omega)
  obtain ⟨y, V3, eV⟩ := cons_of (l := V2) (by omega)
  subst eU; subst eV
  simp only [List.length_cons] at z1 z2
  replace oO := oO.to (cs' := ((P ++ V1) ++ x :: ((U3 ++ (R ++ U1)) ++ y :: (V3 ++ Q))).flatMap Dem.cells) (by simp)
  have hA := own_some oO (by omega)
  have hx : ((P ++ V1) ++ x :: ((U3 ++ (R ++ U1)) ++ y :: (V3 ++ Q)))[P.length + j]? = some x := mid_at (by first | omega | (simp; done) | (simp; omega))
  have hy : ((P ++ V1) ++ x :: ((U3 ++ (R ++ U1)) ++ y :: (V3 ++ Q)))[P.length + U.length + R.length + j]? = some y := far_at (by first | omega | (simp; done) | (simp; omega))
  refine ops_nil ?_
  refine c_true rfl ?_
  refine c_skip ?_
  refine tq_n ?_
  refine c_seq ?_
  refine c_block ?_
  refine c_regZ 21 (fun wz => Own wz lo 73 3 A n c (((P ++ V1) ++ x :: ((U3 ++ (R ++ U1)) ++ y :: (V3 ++ Q))).flatMap Dem.cells)) mixed ?_
  obtain ⟨w1, ew1⟩ : ∃ wy, wy = World.drew wr := ⟨_, rfl⟩
  rw [← ew1]
  have xd : Ext wr w1 := ew1 ▸ Ext.drew wr
  replace oO := oO.ext xd
  replace X := gb_ext X xd; clear xd ew1
  refine wz_take 0 rfl (by kernel_rfl) rfl (by kernel_rfl) (listed' := #[true, false, false, false, false, false, false, false, false, false, false, false, false, false, false, false, false, false, false, false, false, false, false, false]) rfl (fun wq sq => ow_move rfl ⟨rfl, rfl⟩) ?_
  refine wz_take 1 rfl (by kernel_rfl) rfl (by kernel_rfl) (listed' := #[true, true, false, false, false, false, false, false, false, false, false, false, false, false, false, false, false, false, false, false, false, false, false, false]) rfl (fun wq sq => ow_move rfl ⟨rfl, rfl⟩) ?_
  refine wz_take 2 rfl (by kernel_rfl) rfl (by kernel_rfl) (listed' := #[true, true, true, false, false, false, false, false, false, false, false, false, false, false, false, false, false, false, false, false, false, false, false, false]) rfl (fun wq sq => ow_move rfl ⟨rfl, rfl⟩) ?_
  refine wz_take 3 rfl (by kernel_rfl) rfl (by kernel_rfl) (listed' := #[true, true, true, true, false, false, false, false, false, false, false, false, false, false, false, false, false, false, false, false, false, false, false, false]) rfl (fun wq sq => ow_add rfl rfl (w64 (by omega)) ⟨rfl, rfl⟩) ?_
  refine wz_takeT 4 rfl (by kernel_rfl) rfl (by kernel_rfl) (by decide) (listed' := #[true, true, true, true, true, false, false, false, false, false, false, false, false, false, false, false, false, false, false, false, false, false, false, false]) rfl (fun wq sq => ow_move rfl ⟨rfl, rfl⟩) ?_
  refine wz_takeT 5 rfl (by kernel_rfl) rfl (by kernel_rfl) (by decide) (listed' := #[true, true, true, true, true, true, false, false, false, false, false, false, false, false, false, false, false, false, false, false, false, false, false, false]) rfl (fun wq sq => ow_move rfl ⟨rfl, rfl⟩) ?_
  refine wz_takeT 6 rfl (by kernel_rfl) rfl (by kernel_rfl) (by decide) (listed' := #[true, true, true, true, true, true, true, false, false, false, false, false, false, false, false, false, false, false, false, false, false, false, false, false]) rfl (fun wq sq => ow_move rfl ⟨rfl, rfl⟩) ?_
  refine wz_takeT 7 rfl (by kernel_rfl) rfl (by kernel_rfl) (by decide) (listed' := #[true, true, true, true, true, true, true, true, false, false, false, false, false, false, false, false, false, false, false, false, false, false, false, false]) rfl (fun wq sq => ow_add rfl rfl (w64 (by omega)) ⟨rfl, rfl⟩) ?_
  refine wz_take 8 rfl (by kernel_rfl) rfl (by kernel_rfl) (listed' := #[true, true, true, true, true, true, true, true, true, false, false, false, false, false, false, false, false, false, false, false, false, false, false, false]) rfl (fun wq sq => ow_move rfl ⟨rfl, rfl⟩) ?_
  refine wz_take 9 rfl (by kernel_rfl) rfl (by kernel_rfl) (listed' := #[true, true, true, true, true, true, true, true, true, true, false, false, false, false, false, false, false, false, false, false, false, false, false, false]) rfl (fun wq sq => ow_move rfl ⟨rfl, rfl⟩) ?_
  refine wz_take 10 rfl (by kernel_rfl) rfl (by kernel_rfl) (listed' := #[true, true, true, true, true, true, true, true, true, true, true, false, false, false, false, false, false, false, false, false, false, false, false, false]) rfl (fun wq sq => ow_move rfl ⟨rfl, rfl⟩) ?_
  refine wz_take 11 rfl (by kernel_rfl) rfl (by kernel_rfl) (listed' := #[true, true, true, true, true, true, true, true, true, true, true, true, false, false, false, false, false, false, false, false, false, false, false, false]) rfl (fun wq sq => ow_add rfl rfl (w64 (by omega)) ⟨rfl, rfl⟩) ?_
  refine wz_take 12 rfl (by kernel_rfl) rfl (by kernel_rfl) (listed' := #[true, true, true, true, true, true, true, true, true, true, true, true, true, false, false, false, false, false, false, false, false, false, false, false]) rfl (fun wq sq => ow_indexA (j := P.length + U.length + R.length + j) hA el30 rfl rfl (by omega) (by omega) ⟨rfl, rfl⟩) ?_
  refine wz_take 13 rfl (by kernel_rfl) rfl (by kernel_rfl) (listed' := #[true, true, true, true, true, true, true, true, true, true, true, true, true, true, false, false, false, false, false, false, false, false, false, false]) rfl (fun wq sq => ow_loadTA (sq).sl Dem.len hy ti73 rfl ⟨rfl, rfl⟩) ?_
  refine wz_takeT 14 rfl (by kernel_rfl) rfl (by kernel_rfl) (by decide) (listed' := #[true, true, true, true, true, true, true, true, true, true, true, true, true, true, true, false, false, false, false, false, false, false, false, false]) rfl (fun wq sq => ow_move rfl ⟨rfl, rfl⟩) ?_
  refine wz_takeT 15 rfl (by kernel_rfl) rfl (by kernel_rfl) (by decide) (listed' := #[true, true, true, true, true, true, true, true, true, true, true, true, true, true, true, true, false, false, false, false, false, false, false, false]) rfl (fun wq sq => ow_move rfl ⟨rfl, rfl⟩) ?_
  refine wz_takeT 16 rfl (by kernel_rfl) rfl (by kernel_rfl) (by decide) (listed' := #[true, true, true, true, true, true, true, true, true, true, true, true, true, true, true, true, true, false, false, false, false, false, false, false]) rfl (fun wq sq => ow_move rfl ⟨rfl, rfl⟩) ?_
  refine wz_takeT 17 rfl (by kernel_rfl) rfl (by kernel_rfl) (by decide) (listed' := #[true, true, true, true, true, true, true, true, true, true, true, true, true, true, true, true, true, true, false, false, false, false, false, false]) rfl (fun wq sq => ow_add rfl rfl (w64 (by omega)) ⟨rfl, rfl⟩) ?_
  refine wz_takeT 18 rfl (by kernel_rfl) rfl (by kernel_rfl) (by decide) (listed' := #[true, true, true, true, true, true, true, true, true, true, true, true, true, true, true, true, true, true, true, false, false, false, false, false]) rfl (fun wq sq => ow_indexA (j := P.length + j) hA el30 rfl rfl (by omega) (by omega) ⟨rfl, rfl⟩) ?_
  refine wz_take 19 rfl (by kernel_rfl) rfl (by kernel_rfl) (listed' := #[true, true, true, true, true, true, true, true, true, true, true, true, true, true, true, true, true, true, true, true, false, false, false, false]) rfl (fun wq sq => ow_loadTA (sq).sl Dem.len hx ti73 rfl ⟨rfl, rfl⟩) ?_
  refine wz_take 20 rfl (by kernel_rfl) rfl (by kernel_rfl) (listed' := #[true, true, true, true, true, true, true, true, true, true, true, true, true, true, true, true, true, true, true, true, true, false, false, false]) rfl (fun wq sq => ow_indexA (j := P.length + j) hA el30 rfl rfl (by omega) (by omega) ⟨rfl, rfl⟩) ?_
  refine wz_one 21 rfl rfl (by kernel_rfl) (listed' := #[true, true, true, true, true, true, true, true, true, true, true, true, true, true, true, true, true, true, true, true, true, true, false, false]) rfl (fun _ => oO) (ow_storeR oO ti73 rfl rfl rfl rfl (by omega) (by omega) rfl ?_)
  intro w3 oN hg2 z4
  replace X : w.grownBy w3 (Value.slice A n c).ownBlock := by first | exact gb_trans X hg2 | exact gb_new X hg2 (fun g hg => (Own.lt oO hg).1)
  clear hg2 z4
  replace oN := oN.to (cs' := (((P ++ V1) ++ x :: ((U3 ++ (R ++ U1)) ++ y :: (V3 ++ Q))).set (P.length + j) y).flatMap Dem.cells) (set_flat Dem.len y ((P ++ V1) ++ x :: ((U3 ++ (R ++ U1)) ++ y :: (V3 ++ Q))) (P.length + j) (by first | omega | (simp; done) | (simp; omega)))
  have hy2 : (((P ++ V1) ++ x :: ((U3 ++ (R ++ U1)) ++ y :: (V3 ++ Q))).set (P.length + j) y)[P.length + U.length + R.length + j]? = some y := by rw [mid_set (by first | omega | (simp; done) | (simp; omega))]; exact far_at (by first | omega | (simp; done) | (simp; omega))
  refine wz_takeT 22 rfl (by kernel_rfl) rfl (by kernel_rfl) (by decide) (listed' := #[true, true, true, true, true, true, true, true, true, true, true, true, true, true, true, true, true, true, true, true, true, true, true, false]) rfl (fun wq sq => ow_indexA (j := P.length + U.length + R.length + j) hA el30 rfl rfl (by omega) (by omega) ⟨rfl, rfl⟩) ?_
  refine wz_one 23 rfl rfl (by kernel_rfl) (listed' := #[true, true, true, true, true, true, true, true, true, true, true, true, true, true, true, true, true, true, true, true, true, true, true, true]) rfl (fun h => absurd h (by decide)) (ow_storeR oN ti73 rfl rfl rfl rfl (by omega) (by omega) rfl ?_)
  intro w6 oM hg5 z7
  replace X : w.grownBy w6 (Value.slice A n c).ownBlock := by first | exact gb_trans X hg5 | exact gb_new X hg5 (fun g hg => (Own.lt oN hg).1)
  clear hg5 z7
  replace oM := oM.to (cs' := ((((P ++ V1) ++ x :: ((U3 ++ (R ++ U1)) ++ y :: (V3 ++ Q))).set (P.length + j) y).set (P.length + U.length + R.length + j) x).flatMap Dem.cells) (set_flat Dem.len x (((P ++ V1) ++ x :: ((U3 ++ (R ++ U1)) ++ y :: (V3 ++ Q))).set (P.length + j) y) (P.length + U.length + R.length + j) (by first | omega | (simp; done) | (simp; omega)))
  rw [swapFar (by first | omega | (simp; done) | (simp; omega)) (by first | omega | (simp; done) | (simp; omega))] at oM
  refine wz_done rfl (fun h => absurd h (by decide)) (fun aj fj => ⟨_, fj, ?_⟩)
  refine bq_n ?_
  refine tq_n ?_
  refine c_region ?_
  refine ops_cons rfl (ow_move rfl ?_)
  refine ops_cons rfl (ow_add rfl rfl (w64 (by omega)) ?_)
  refine ops_cons rfl (ow_assign rfl ?_)
  refine ops_nil ?_
  refine tq_n ⟨(j + 1, U1 ++ [x], U3, V1 ++ [y], V3), (.cons rfl (.cons rfl (.cons rfl (.cons rfl (.cons rfl (.nil _)))))), ?_, ?_⟩
  · exact ⟨(by rw [← e1]; simp), (by rw [← e2]; simp), ⟨by simp; omega, by simp; omega⟩, (oM.to (by simp)), X⟩
  · first | omega | (dsimp only; omega)
  have z1 := congrArg List.length e1
  have z2 := congrArg List.length e2
  simp only [List.length_append] at z1 z2
  have y1 : U2 = [] := List.eq_nil_of_length_eq_zero (by omega)
  have y2 : V2 = [] := List.eq_nil_of_length_eq_zero (by omega)
  rw [y1, List.append_nil] at e1
  rw [y2, List.append_nil] at e2
  rw [y1, y2, e1, e2] at oO
  refine ops_nil ?_
  refine c_false rfl ?_
  refine c_exit ?_
  refine tq_e ?_
  refine tq_e ?_
  refine bq_e ?_
  refine fin_end0 rfl ?_
  exact ⟨rfl, oO.to (by simp), X⟩

theorem rotate_c (A : Option Addr) (n c lo : Nat) (P U V Q : List Dem) (a m b : Int) (w : World) (oO : Own w lo 73 3 A n c ((P ++ (U ++ (V ++ Q))).flatMap Dem.cells)) (hn : n ≤ 1048576) (ha : a = P.length) (hm : m = P.length + U.length) (hb : b = P.length + U.length + V.length) (hU : 0 < U.length) (hV : 0 < V.length) :
    Calls Try.prog 112 #[.slice A n c, .int .i64 a, .int .i64 m, .int .i64 b, .func (.func 49) #[] #[]] w (Ret fun v w' => v = .tuple #[] ∧ Own w' lo 73 3 A n c ((P ++ (V ++ (U ++ Q))).flatMap Dem.cells) ∧ w.grownBy w' (Value.slice A n c).ownBlock) := by
  have hL := own_n oO
  simp only [List.length_append] at hL
  have X := gb_refl w (Value.slice A n c).ownBlock
  refine calls_of (args := [.slice A n c, .int .i64 a, .int .i64 m, .int .i64 b, .func (.func 49) #[] #[]]) Try.func112 Try.ntmps112 rfl rfl ?_
  refine c_seqR ?_
  refine ops_cons rfl (ow_move rfl ?_)
  refine ops_cons rfl (ow_move rfl ?_)
  refine ops_cons rfl (ow_sub rfl rfl (w64 (by omega)) ?_)
  refine ops_cons rfl (ow_assign rfl ?_)
  refine ops_nil ?_
  refine c_seqR ?_
  refine ops_cons rfl (ow_move rfl ?_)
  refine ops_cons rfl (ow_move rfl ?_)
  refine ops_cons rfl (ow_sub rfl rfl (w64 (by omega)) ?_)
  refine ops_cons rfl (ow_assign rfl ?_)
  refine ops_nil ?_
  refine c_seq ?_
  refine c_block ?_
  refine c_loop (G := Int × Int × List Dem × List Dem × List Dem × List Dem) (fun ⟨i, j, P2, U2, V2, Q2⟩ => [(0, .slice A n c), (2, .int .i64 m), (4, .func (.func 49) #[] #[]), (10, .int .i64 i), (11, .int .i64 j)]) (fun ⟨i, j, P2, U2, V2, Q2⟩ wr => (i = U2.length ∧ 0 < i) ∧ (j = V2.length ∧ 0 < j) ∧ m = P2.length + U2.length ∧ P2.length + U2.length + V2.length + Q2.length = n ∧ P2 ++ (V2 ++ (U2 ++ Q2)) = P ++ (V ++ (U ++ Q)) ∧ Own wr lo 73 3 A n c ((P2 ++ (U2 ++ (V2 ++ Q2))).flatMap Dem.cells) ∧ w.grownBy wr (Value.slice A n c).ownBlock) (fun ⟨i, j, P2, U2, V2, Q2⟩ => (i + j).toNat) (m - a, b - m, P, U, V, Q) (.cons rfl (.cons rfl (.cons rfl (.cons rfl (.cons rfl (.nil _)))))) ?_ ?_
  · exact ⟨⟨by first | omega | (dsimp only; omega), by first | omega | (dsimp only; omega)⟩, ⟨by first | omega | (dsimp only; omega), by first | omega | (dsimp only; omega)⟩, hm, (by first | omega | (dsimp only; omega)), rfl, oO, X⟩
  clear oO
  clear X
  rintro ⟨i, j, P2, U2, V2, Q2⟩ wr ⟨hi, hj, hp, he, eT, oO, X⟩
  refine c_seq ?_
  refine c_seqR ?_
  refine ops_cons rfl (ow_move rfl ?_)
  refine ops_cons rfl (ow_move rfl ?_)
  refine ops_cons rfl (ow_neq2 rfl rfl (fun hne => ?_) (fun hne => ?_))
  refine ops_nil ?_
  refine c_true rfl ?_
  refine c_skip ?_
  refine tq_n ?_
  refine c_block ?_
  refine c_seqR ?_
  refine ops_cons rfl (ow_move rfl ?_)
  refine ops_cons rfl (ow_move rfl ?_)
  refine ops_cons rfl (ow_gtr2 rfl rfl (fun hgt => ?_) (fun hgt => ?_))
  have cU := (List.take_append_drop V2.length U2).symm
  have cl : (U2.take V2.length).length = V2.length := by simp; omega
  obtain ⟨Ua, hUa⟩ : ∃ z, z = U2.take V2.length := ⟨_, rfl⟩
  obtain ⟨Ub, hUb⟩ : ∃ z, z = U2.drop V2.length := ⟨_, rfl⟩
  rw [← hUa, ← hUb] at cU
  rw [← hUa] at cl
  clear hUa hUb
  subst cU
  simp only [List.length_append] at hi hgt he hp
  refine ops_nil ?_
  refine c_true rfl ?_
  refine c_seqR ?_
  refine ops_cons rfl (ow_move rfl ?_)
  refine ops_cons rfl (ow_move rfl ?_)
  refine ops_cons rfl (ow_move rfl ?_)
  refine ops_cons rfl (ow_sub rfl rfl (w64 (by omega)) ?_)
  refine ops_cons rfl (ow_move rfl ?_)
  refine ops_cons rfl (ow_move rfl ?_)
  refine ops_cons rfl (ow_move rfl ?_)
  refine ops_cons rfl (ow_call ent116 rfl (ret_mono (swapR_c A n c lo P2 Ua Ub V2 Q2 (m - i) m j _ (oO.to (cs' := ((P2) ++ (Ua ++ (Ub ++ (V2 ++ (Q2))))).flatMap Dem.cells) (by simp)) hn (by omega) (by first | omega | (simp; done) | (simp; omega)) (by omega) (by omega)) ?_))
  rintro _ w2 ⟨rfl, oN, x1⟩
  replace X := gb_trans X x1; clear x1 oO
  refine ops_nil ?_
  refine c_region ?_
  refine ops_cons rfl (ow_move rfl ?_)
  refine ops_cons rfl (ow_move rfl ?_)
  refine ops_cons rfl (ow_sub rfl rfl (w64 (by omega)) ?_)
  refine ops_cons rfl (ow_assign rfl ?_)
  refine ops_nil ?_
  refine bq_n ?_
  refine tq_n ⟨(i - j, j, P2 ++ V2, Ub, Ua, Q2), (.cons rfl (.cons rfl (.cons rfl (.cons rfl (.cons rfl (.nil _)))))), ?_, ?_⟩
  · exact ⟨⟨by first | (simp; omega) | omega, by omega⟩, ⟨by omega, by omega⟩, (by first | omega | (simp; done) | (simp; omega)), (by first | omega | (simp; done) | (simp; omega)), (by rw [← eT]; simp), (oN.to (by simp)), X⟩
  · first | omega | (dsimp only; omega)
  have cV := (List.take_append_drop (V2.length - U2.length) V2).symm
  have cl : (V2.drop (V2.length - U2.length)).length = U2.length := by simp; omega
  obtain ⟨Va, hVa⟩ : ∃ z, z = V2.take (V2.length - U2.length) := ⟨_, rfl⟩
  obtain ⟨Vb, hVb⟩ : ∃ z, z = V2.drop (V2.length - U2.length) := ⟨_, rfl⟩
  rw [← hVa, ← hVb] at cV
  rw [← hVb] at cl
  clear hVa hVb
  subst cV
  simp only [List.length_append] at hj hgt he
  refine ops_nil ?_
  refine c_false rfl ?_
  refine c_seqR ?_
  refine ops_cons rfl (ow_move rfl ?_)
  refine ops_cons rfl (ow_move rfl ?_)
  refine ops_cons rfl (ow_move rfl ?_)
  refine ops_cons rfl (ow_sub rfl rfl (w64 (by omega)) ?_)
  refine ops_cons rfl (ow_move rfl ?_)
  refine ops_cons rfl (ow_move rfl ?_)
  refine ops_cons rfl (ow_add rfl rfl (w64 (by omega)) ?_)
  refine ops_cons rfl (ow_move rfl ?_)
  refine ops_cons rfl (ow_sub rfl rfl (w64 (by omega)) ?_)
  refine ops_cons rfl (ow_move rfl ?_)
  refine ops_cons rfl (ow_move rfl ?_)
  refine ops_cons rfl (ow_call ent116 rfl (ret_mono (swapR_c A n c lo P2 U2 Va Vb Q2 (m - i) (m + j - i) i _ (oO.to (cs' := ((P2) ++ (U2 ++ (Va ++ (Vb ++ (Q2))))).flatMap Dem.cells) (by simp)) hn (by omega) (by first | omega | (simp; done) | (simp; omega)) (by omega) (by omega)) ?_))
  rintro _ w4 ⟨rfl, oN, x3⟩
  replace X := gb_trans X x3; clear x3 oO
  refine ops_nil ?_
  refine c_region ?_
  refine ops_cons rfl (ow_move rfl ?_)
  refine ops_cons rfl (ow_move rfl ?_)
  refine ops_cons rfl (ow_sub rfl rfl (w64 (by omega)) ?_)
  refine ops_cons rfl (ow_assign rfl ?_)
  refine ops_nil ?_
  refine bq_n ?_
  refine tq_n ⟨(i, j - i, P2, Vb, Va, U2 ++ Q2), (.cons rfl (.cons rfl (.cons rfl (.cons rfl (.cons rfl (.nil _)))))), ?_, ?_⟩
  · exact ⟨⟨by first | (simp; omega) | omega, by omega⟩, ⟨by omega, by omega⟩, (by first | omega | (simp; done) | (simp; omega)), (by first | omega | (simp; done) | (simp; omega)), (by rw [← eT]; simp), (oN.to (by simp)), X⟩
  · first | omega | (dsimp only; omega)
  refine ops_nil ?_
  refine c_false rfl ?_
  refine c_exit ?_
  refine tq_e ?_
  refine tq_e ?_
  refine bq_e ?_
  refine tq_n ?_
  refine c_region ?_
  refine ops_cons rfl (ow_move rfl ?_)
  refine ops_cons rfl (ow_move rfl ?_)
  refine ops_cons rfl (ow_move rfl ?_)
  refine ops_cons rfl (ow_sub rfl rfl (w64 (by omega)) ?_)
  refine ops_cons rfl (ow_move rfl ?_)
  refine ops_cons rfl (ow_move rfl ?_)
  refine ops_cons rfl (ow_move rfl ?_)
  refine ops_cons rfl (ow_call ent116 rfl (ret_mono (swapR_c A n c lo P2 U2 [] V2 Q2 (m - i) m i _ (oO.to (cs' := ((P2) ++ (U2 ++ ([] ++ (V2 ++ (Q2))))).flatMap Dem.cells) (by simp)) hn (by omega) (by first | omega | (simp; done) | (simp; omega)) (by omega) (by omega)) ?_))
  rintro _ w6 ⟨rfl, oN, x5⟩
  replace X := gb_trans X x5; clear x5 oO
  refine ops_nil ?_
  refine fin_end0 rfl ?_
  exact ⟨rfl, oN.to (by rw [← eT]; simp), X⟩

theorem insert_c (A : Option Addr) (n c lo : Nat) (P S Q : List Dem) (a b : Int) (w : World) (oO : Own w lo 73 3 A n c ((P ++ (S ++ Q)).flatMap Dem.cells)) (hn : n ≤ 1048576) (ha : a = P.length) (hb : b = P.length + S.length) (hE : EvD S) :
    Calls Try.prog 101 #[.slice A n c, .int .i64 a, .int .i64 b, .func (.func 49) #[] #[]] w (Ret fun v w' => ∃ T, v = .tuple #[] ∧ Srt T ∧ Sam T S ∧ Own w' lo 73 3 A n c ((P ++ (T ++ Q)).flatMap Dem.cells) ∧ w.grownBy w' (Value.slice A n c).ownBlock) := by
  have hL := own_n oO
  simp only [List.length_append] at hL
  have X := gb_refl w (Value.slice A n c).ownBlock
  refine calls_of (args := [.slice A n c, .int .i64 a, .int .i64 b, .func (.func 49) #[] #[]]) Try.func101 Try.ntmps101 rfl rfl ?_
  refine c_seqR ?_
  refine ops_cons rfl (ow_move rfl ?_)
  refine ops_cons rfl (ow_add rfl rfl (w64 (by omega)) ?_)
  refine ops_cons rfl (ow_assign rfl ?_)
  refine ops_nil ?_
  refine c_block ?_
  refine c_loop (G := Int × List Dem × List Dem × List Dem) (fun ⟨i, S1, T, S2⟩ => [(0, .slice A n c), (1, .int .i64 a), (2, .int .i64 b), (3, .func (.func 49) #[] #[]), (8, .int .i64 i)]) (fun ⟨i, S1, T, S2⟩ wr => S1 ++ S2 = S ∧ Srt T ∧ Sam T S1 ∧ (i = P.length + S1.length ∨ (S2 = [] ∧ P.length + S1.length ≤ i)) ∧ Own wr lo 73 3 A n c ((P ++ (T ++ (S2 ++ Q))).flatMap Dem.cells) ∧ w.grownBy wr (Value.slice A n c).ownBlock) (fun ⟨i, S1, T, S2⟩ => (b - i).toNat) (a + 1, S.take 1, S.take 1, S.drop 1) (.cons rfl (.cons rfl (.cons rfl (.cons rfl (.cons rfl (.nil _)))))) ?_ ?_
  · exact ⟨(List.take_append_drop 1 S), (srt_one S), (Sam.refl _), (ins_start ha), (oO.to (by rw [← List.append_assoc (S.take 1), List.take_append_drop])), X⟩
  clear oO
  clear X
  rintro ⟨i, S1, T, S2⟩ wr ⟨hsp, hsr, hsm, hi, oO, X⟩
  refine c_seq ?_
  refine c_seqR ?_
  refine ops_cons rfl (ow_move rfl ?_)
  refine ops_cons rfl (ow_move rfl ?_)
  refine ops_cons rfl (ow_lss2 rfl rfl (fun hib => ?_) (fun hib => ?_))
  have z1 := congrArg List.length hsp
  have z2 := hsm.l
  simp only [List.length_append] at z1
  obtain ⟨x, S3, eS⟩ := cons_of (l := S2) (by rcases hi with hi | ⟨hi, h2⟩ <;> first | omega | (rw [hi] at z1; simp at z1; omega))
  subst eS
  simp only [List.length_cons] at z1
  replace hi : i = P.length + S1.length := by rcases hi with hi | ⟨hi, h2⟩ <;> first | exact hi | cases hi
  have hbx : 1 ≤ x.every ∧ x.every ≤ 8 := hE x (by rw [← hsp]; simp)
  have hbT : ∀ z ∈ T, 1 ≤ z.every ∧ z.every ≤ 8 := fun z hz => hE z (by rw [← hsp]; exact List.mem_append_left _ (hsm.mem hz))
  refine ops_nil ?_
  refine c_true rfl ?_
  refine c_skip ?_
  refine tq_n ?_
  refine c_seq ?_
  refine c_block ?_
  refine c_seqR ?_
  refine ops_cons rfl (ow_move rfl ?_)
  refine ops_cons rfl (ow_assign rfl ?_)
  refine ops_nil ?_
  refine c_block ?_
  refine c_loop (G := Int × List Dem × List Dem) (fun ⟨j, T1, T2⟩ => [(0, .slice A n c), (1, .int .i64 a), (2, .int .i64 b), (3, .func (.func 49) #[] #[]), (8, .int .i64 i), (12, .int .i64 i), (13, .int .i64 b), (17, .int .i64 i), (9, .int .i64 j)]) (fun ⟨j, T1, T2⟩ wr => T1 ++ T2 = T ∧ (∀ z ∈ T2, x.every < z.every) ∧ j = P.length + T1.length ∧ Own wr lo 73 3 A n c ((P ++ (T1 ++ (x :: (T2 ++ (S3 ++ Q))))).flatMap Dem.cells) ∧ w.grownBy wr (Value.slice A n c).ownBlock) (fun ⟨j, T1, T2⟩ => (j - a).toNat) (i, T, []) (.cons rfl (.cons rfl (.cons rfl (.cons rfl (.cons rfl (.cons rfl (.cons rfl (.cons rfl (.cons rfl (.nil _)))))))))) ?_ ?_
  · exact ⟨(List.append_nil T), (fun z hz => by simp at hz), (by first | omega | (dsimp only; omega)), (oO.to (by simp)), X⟩
  clear oO
  clear X
  rintro ⟨j, T1, T2⟩ wr ⟨hT, h2, hj, oO, X⟩
  refine c_seq ?_
  refine c_seqD [false, false, false, false, false, false, false, false, false, false, false, false, false, false, false, false, false] mixed (by kernel_rfl) ?_
  refine f_q rfl (fun wq sq => ow_move rfl ⟨rfl, Ext.refl _⟩) ?_
  refine f_q rfl (fun wq sq => ow_move rfl ⟨rfl, Ext.refl _⟩) ?_
  refine f_qb rfl (fun wq sq => ow_gtr rfl rfl ⟨rfl, Ext.refl _⟩) (fun hja => ?_) (fun hja => ?_)
  obtain ⟨T0, y, eT⟩ := snoc_of (l := T1) (by omega)
  have lT := congrArg List.length eT
  simp only [List.length_append, List.length_singleton] at lT
  have lT2 := congrArg List.length hT
  simp only [List.length_append] at lT2
  have hby : 1 ≤ y.every ∧ y.every ≤ 8 := hbT y (by rw [← hT, eT]; simp)
  have hA := own_some oO (by omega)
  have eL : P ++ (T1 ++ (x :: (T2 ++ (S3 ++ Q)))) = (P ++ T0) ++ y :: x :: (T2 ++ (S3 ++ Q)) := by rw [eT]; simp
  have hx0 : (P ++ (T1 ++ (x :: (T2 ++ (S3 ++ Q)))))[P.length + T0.length]? = some y := by rw [eL]; exact mid_at (by first | omega | (simp; done) | (simp; omega))
  have hx1 : (P ++ (T1 ++ (x :: (T2 ++ (S3 ++ Q)))))[P.length + T0.length + 1]? = some x := by
    rw [eL, show (P ++ T0) ++ y :: x :: (T2 ++ (S3 ++ Q)) = ((P ++ T0) ++ [y]) ++ x :: (T2 ++ (S3 ++ Q)) by simp]; exact mid_at (by first | omega | (simp; done) | (simp; omega))
  refine f_q rfl (fun wq sq => ow_move rfl ⟨rfl, Ext.refl _⟩) ?_
  refine f_qw rfl rfl rfl (fun wq sq => ow_move rfl ⟨rfl, Ext.refl _⟩) ?_
  refine f_qw rfl rfl rfl (fun wq sq => ow_move rfl ⟨rfl, Ext.refl _⟩) ?_
  refine f_qw rfl rfl rfl (fun wq sq => ow_move rfl ⟨rfl, Ext.refl _⟩) ?_
  refine f_qw rfl rfl rfl (fun wq sq => ow_indexT ((oO.ext sq)).sl Dem.len rfl el30 rfl (by first | omega | (simp; done) | (simp; omega)) rfl hx1 (by omega) ⟨rfl, Ext.refl _⟩) ?_
  refine f_qw rfl rfl rfl (fun wq sq => ow_loadTA ((oO.ext sq)).sl Dem.len hx1 ti73 rfl ⟨rfl, Ext.refl _⟩) ?_
  refine f_qw rfl rfl rfl (fun wq sq => ow_move rfl ⟨rfl, Ext.refl _⟩) ?_
  refine f_qw rfl rfl rfl (fun wq sq => ow_move rfl ⟨rfl, Ext.refl _⟩) ?_
  refine f_qw rfl rfl rfl (fun wq sq => ow_sub rfl rfl (w64 (by omega)) ⟨rfl, Ext.refl _⟩) ?_
  refine f_qw rfl rfl rfl (fun wq sq => ow_indexT ((oO.ext sq)).sl Dem.len rfl el30 rfl (by first | omega | (simp; done) | (simp; omega)) rfl hx0 (by omega) ⟨rfl, Ext.refl _⟩) ?_
  refine f_qw rfl rfl rfl (fun wq sq => ow_loadTA ((oO.ext sq)).sl Dem.len hx0 ti73 rfl ⟨rfl, Ext.refl _⟩) ?_
  refine f_qw rfl rfl rfl (fun wq sq => ow_callVL ent49 rfl rfl (cmpD_c _ _ _ hbx hby)) ?_
  refine f_qwb rfl rfl rfl (fun wq sq => ow_lss rfl rfl ⟨rfl, Ext.refl _⟩) (fun hc => ?_) (fun hc => ?_)
  refine f_q rfl (fun wq sq => ow_pick rfl rfl ⟨rfl, Ext.refl _⟩) ?_
  refine f_nil (fun w1 sq => ?_)
  have xq := sq
  replace oO := oO.ext xq
  replace X := gb_ext X xq; clear xq sq
  refine ops_nil ?_
  refine c_true rfl ?_
  refine c_skip ?_
  refine tq_n ?_
  refine c_seq ?_
  refine c_block ?_
  refine c_regZ 15 (fun wz => Own wz lo 73 3 A n c ((P ++ (T1 ++ (x :: (T2 ++ (S3 ++ Q))))).flatMap Dem.cells)) mixed ?_
  obtain ⟨w2, ew2⟩ : ∃ wy, wy = World.drew w1 := ⟨_, rfl⟩
  rw [← ew2]
  have xd : Ext w1 w2 := ew2 ▸ Ext.drew w1
  replace oO := oO.ext xd
  replace X := gb_ext X xd; clear xd ew2
  refine wz_take 0 rfl (by kernel_rfl) rfl (by kernel_rfl) (listed' := #[true, false, false, false, false, false, false, false, false, false, false, false, false, false, false, false, false, false]) rfl (fun wq sq => ow_move rfl ⟨rfl, rfl⟩) ?_
  refine wz_take 1 rfl (by kernel_rfl) rfl (by kernel_rfl) (listed' := #[true, true, false, false, false, false, false, false, false, false, false, false, false, false, false, false, false, false]) rfl (fun wq sq => ow_move rfl ⟨rfl, rfl⟩) ?_
  refine wz_takeT 2 rfl (by kernel_rfl) rfl (by kernel_rfl) (by decide) (listed' := #[true, true, true, false, false, false, false, false, false, false, false, false, false, false, false, false, false, false]) rfl (fun wq sq => ow_move rfl ⟨rfl, rfl⟩) ?_
  refine wz_takeT 3 rfl (by kernel_rfl) rfl (by kernel_rfl) (by decide) (listed' := #[true, true, true, true, false, false, false, false, false, false, false, false, false, false, false, false, false, false]) rfl (fun wq sq => ow_move rfl ⟨rfl, rfl⟩) ?_
  refine wz_takeT 4 rfl (by kernel_rfl) rfl (by kernel_rfl) (by decide) (listed' := #[true, true, true, true, true, false, false, false, false, false, false, false, false, false, false, false, false, false]) rfl (fun wq sq => ow_sub rfl rfl (w64 (by omega)) ⟨rfl, rfl⟩) ?_
  refine wz_take 5 rfl (by kernel_rfl) rfl (by kernel_rfl) (listed' := #[true, true, true, true, true, true, false, false, false, false, false, false, false, false, false, false, false, false]) rfl (fun wq sq => ow_move rfl ⟨rfl, rfl⟩) ?_
  refine wz_take 6 rfl (by kernel_rfl) rfl (by kernel_rfl) (listed' := #[true, true, true, true, true, true, true, false, false, false, false, false, false, false, false, false, false, false]) rfl (fun wq sq => ow_move rfl ⟨rfl, rfl⟩) ?_
  refine wz_take 7 rfl (by kernel_rfl) rfl (by kernel_rfl) (listed' := #[true, true, true, true, true, true, true, true, false, false, false, false, false, false, false, false, false, false]) rfl (fun wq sq => ow_sub rfl rfl (w64 (by omega)) ⟨rfl, rfl⟩) ?_
  refine wz_take 8 rfl (by kernel_rfl) rfl (by kernel_rfl) (listed' := #[true, true, true, true, true, true, true, true, true, false, false, false, false, false, false, false, false, false]) rfl (fun wq sq => ow_indexA (j := P.length + T0.length) hA el30 rfl rfl (by omega) (by omega) ⟨rfl, rfl⟩) ?_
  refine wz_take 9 rfl (by kernel_rfl) rfl (by kernel_rfl) (listed' := #[true, true, true, true, true, true, true, true, true, true, false, false, false, false, false, false, false, false]) rfl (fun wq sq => ow_loadTA (sq).sl Dem.len hx0 ti73 rfl ⟨rfl, rfl⟩) ?_
  refine wz_takeT 10 rfl (by kernel_rfl) rfl (by kernel_rfl) (by decide) (listed' := #[true, true, true, true, true, true, true, true, true, true, true, false, false, false, false, false, false, false]) rfl (fun wq sq => ow_move rfl ⟨rfl, rfl⟩) ?_
  refine wz_takeT 11 rfl (by kernel_rfl) rfl (by kernel_rfl) (by decide) (listed' := #[true, true, true, true, true, true, true, true, true, true, true, true, false, false, false, false, false, false]) rfl (fun wq sq => ow_move rfl ⟨rfl, rfl⟩) ?_
  refine wz_takeT 12 rfl (by kernel_rfl) rfl (by kernel_rfl) (by decide) (listed' := #[true, true, true, true, true, true, true, true, true, true, true, true, true, false, false, false, false, false]) rfl (fun wq sq => ow_indexA (j := P.length + T0.length + 1) hA el30 rfl rfl (by omega) (by omega) ⟨rfl, rfl⟩) ?_
  refine wz_take 13 rfl (by kernel_rfl) rfl (by kernel_rfl) (listed' := #[true, true, true, true, true, true, true, true, true, true, true, true, true, true, false, false, false, false]) rfl (fun wq sq => ow_loadTA (sq).sl Dem.len hx1 ti73 rfl ⟨rfl, rfl⟩) ?_
  refine wz_take 14 rfl (by kernel_rfl) rfl (by kernel_rfl) (listed' := #[true, true, true, true, true, true, true, true, true, true, true, true, true, true, true, false, false, false]) rfl (fun wq sq => ow_indexA (j := P.length + T0.length + 1) hA el30 rfl rfl (by omega) (by omega) ⟨rfl, rfl⟩) ?_
  refine wz_one 15 rfl rfl (by kernel_rfl) (listed' := #[true, true, true, true, true, true, true, true, true, true, true, true, true, true, true, true, false, false]) rfl (fun _ => oO) (ow_storeR oO ti73 rfl rfl rfl rfl (by omega) (by omega) rfl ?_)
  intro w4 oN hg3 z5
  replace X : w.grownBy w4 (Value.slice A n c).ownBlock := by first | exact gb_trans X hg3 | exact gb_new X hg3 (fun g hg => (Own.lt oO hg).1)
  clear hg3 z5
  replace oN := oN.to (cs' := ((P ++ (T1 ++ (x :: (T2 ++ (S3 ++ Q))))).set (P.length + T0.length + 1) y).flatMap Dem.cells) (set_flat Dem.len y (P ++ (T1 ++ (x :: (T2 ++ (S3 ++ Q))))) (P.length + T0.length + 1) (by first | omega | (simp; done) | (simp; omega)))
  have hx2 : ((P ++ (T1 ++ (x :: (T2 ++ (S3 ++ Q))))).set (P.length + T0.length + 1) y)[P.length + T0.length]? = some y := by rw [List.getElem?_set_ne (by omega)]; exact hx0
  refine wz_takeT 16 rfl (by kernel_rfl) rfl (by kernel_rfl) (by decide) (listed' := #[true, true, true, true, true, true, true, true, true, true, true, true, true, true, true, true, true, false]) rfl (fun wq sq => ow_indexA (j := P.length + T0.length) hA el30 rfl rfl (by omega) (by omega) ⟨rfl, rfl⟩) ?_
  refine wz_one 17 rfl rfl (by kernel_rfl) (listed' := #[true, true, true, true, true, true, true, true, true, true, true, true, true, true, true, true, true, true]) rfl (fun h => absurd h (by decide)) (ow_storeR oN ti73 rfl rfl rfl rfl (by omega) (by omega) rfl ?_)
  intro w7 oM hg6 z8
  replace X : w.grownBy w7 (Value.slice A n c).ownBlock := by first | exact gb_trans X hg6 | exact gb_new X hg6 (fun g hg => (Own.lt oN hg).1)
  clear hg6 z8
  replace oM := oM.to (cs' := (((P ++ (T1 ++ (x :: (T2 ++ (S3 ++ Q))))).set (P.length + T0.length + 1) y).set (P.length + T0.length) x).flatMap Dem.cells) (set_flat Dem.len x ((P ++ (T1 ++ (x :: (T2 ++ (S3 ++ Q))))).set (P.length + T0.length + 1) y) (P.length + T0.length) (by first | omega | (simp; done) | (simp; omega)))
  rw [eL, swap2' (by simp)] at oM
  refine wz_done rfl (fun h => absurd h (by decide)) (fun aj fj => ⟨_, fj, ?_⟩)
  refine bq_n ?_
  refine tq_n ?_
  refine c_region ?_
  refine ops_cons rfl (ow_move rfl ?_)
  refine ops_cons rfl (ow_sub rfl rfl (w64 (by omega)) ?_)
  refine ops_cons rfl (ow_assign rfl ?_)
  refine ops_nil ?_
  refine tq_n ⟨(j - 1, T0, y :: T2), (.cons rfl (.cons rfl (.cons rfl (.cons rfl (.cons rfl (.cons rfl (.cons rfl (.cons rfl (.cons rfl (.nil _)))))))))), ?_, ?_⟩
  · skip
    exact ⟨(by rw [← hT, eT]; simp), (fun z hz => by
      rcases List.mem_cons.1 hz with rfl | hz
      · omega
      · exact h2 z hz), (by omega), (oM.to (by simp)), X⟩
  · first | omega | (dsimp only; omega)
  have hle : ∀ z ∈ T1, z.every ≤ x.every := fun z hz => by
    rw [eT, List.mem_append, List.mem_singleton] at hz
    rcases hz with hz | rfl
    · have h9 : Srt ((T0 ++ [y]) ++ T2) := by rw [← eT, hT]; exact hsr
      have := (List.pairwise_append.1 h9.left).2.2 z hz y (by simp)
      omega
    · omega
  refine f_q rfl (fun wq sq => ow_pick rfl rfl ⟨rfl, Ext.refl _⟩) ?_
  refine f_nil (fun w9 sq => ?_)
  have xq := sq
  replace oO := oO.ext xq
  replace X := gb_ext X xq; clear xq sq
  refine ops_nil ?_
  refine c_false rfl ?_
  refine c_exit ?_
  refine tq_e ?_
  refine tq_e ?_
  refine bq_e ?_
  refine bq_n ?_
  refine tq_n ?_
  refine c_region ?_
  refine ops_cons rfl (ow_move rfl ?_)
  refine ops_cons rfl (ow_add rfl rfl (w64 (by omega)) ?_)
  refine ops_cons rfl (ow_assign rfl ?_)
  refine ops_nil ?_
  refine tq_n ⟨(i + 1, S1 ++ [x], T1 ++ x :: T2, S3), (.cons rfl (.cons rfl (.cons rfl (.cons rfl (.cons rfl (.nil _)))))), ?_, ?_⟩
  · exact ⟨(by rw [← hsp]; simp), (put_in (by rw [hT]; exact hsr) hle (fun z hz => Int.le_of_lt (h2 z hz))), ((put_back h2).trans (by rw [hT]; exact hsm.app (Sam.refl _))), (.inl (by first | omega | (simp; done) | (simp; omega))), (oO.to (by simp)), X⟩
  · first | omega | (dsimp only; omega)
  have hle : ∀ z ∈ T1, z.every ≤ x.every := fun z hz => by rw [List.eq_nil_of_length_eq_zero (by omega : T1.length = 0)] at hz; simp at hz
  refine f_q rfl (fun wq sq => ow_move rfl ⟨rfl, Ext.refl _⟩) ?_
  refine f_qs rfl rfl rfl rfl ?_
  refine f_qs rfl rfl rfl rfl ?_
  refine f_qs rfl rfl rfl rfl ?_
  refine f_qs rfl rfl rfl rfl ?_
  refine f_qs rfl rfl rfl rfl ?_
  refine f_qs rfl rfl rfl rfl ?_
  refine f_qs rfl rfl rfl rfl ?_
  refine f_qs rfl rfl rfl rfl ?_
  refine f_qs rfl rfl rfl rfl ?_
  refine f_qs rfl rfl rfl rfl ?_
  refine f_qs rfl rfl rfl rfl ?_
  refine f_qs rfl rfl rfl rfl ?_
  refine f_q rfl (fun wq sq => ow_pick rfl rfl ⟨rfl, Ext.refl _⟩) ?_
  refine f_nil (fun w10 sq => ?_)
  have xq := sq
  replace oO := oO.ext xq
  replace X := gb_ext X xq; clear xq sq
  refine ops_nil ?_
  refine c_false rfl ?_
  refine c_exit ?_
  refine tq_e ?_
  refine tq_e ?_
  refine bq_e ?_
  refine bq_n ?_
  refine tq_n ?_
  refine c_region ?_
  refine ops_cons rfl (ow_move rfl ?_)
  refine ops_cons rfl (ow_add rfl rfl (w64 (by omega)) ?_)
  refine ops_cons rfl (ow_assign rfl ?_)
  refine ops_nil ?_
  refine tq_n ⟨(i + 1, S1 ++ [x], T1 ++ x :: T2, S3), (.cons rfl (.cons rfl (.cons rfl (.cons rfl (.cons rfl (.nil _)))))), ?_, ?_⟩
  · exact ⟨(by rw [← hsp]; simp), (put_in (by rw [hT]; exact hsr) hle (fun z hz => Int.le_of_lt (h2 z hz))), ((put_back h2).trans (by rw [hT]; exact hsm.app (Sam.refl _))), (.inl (by first | omega | (simp; done) | (simp; omega))), (oO.to (by simp)), X⟩
  · first | omega | (dsimp only; omega)
  have z1 := congrArg List.length hsp
  simp only [List.length_append] at z1
  have y1 : S2 = [] := by
    rcases hi with hi | ⟨hi, h2⟩
    · exact List.eq_nil_of_length_eq_zero (by omega)
    · exact hi
  rw [y1, List.append_nil] at hsp
  rw [hsp] at hsm
  rw [y1] at oO
  refine ops_nil ?_
  refine c_false rfl ?_
  refine c_exit ?_
  refine tq_e ?_
  refine tq_e ?_
  refine bq_e ?_
  refine fin_end0 rfl ?_
  exact ⟨T, rfl, hsr, hsm, oO.to (by simp), X⟩
end Go.Proofs.Ytdoibplhbdkapaa
