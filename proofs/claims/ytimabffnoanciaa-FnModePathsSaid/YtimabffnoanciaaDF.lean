/- Searches by closures. No condition. -/
import Derived.Test.YtimabffnoanciaaDS
import Derived.Test.YtimabffnoanciaaMod5
namespace Go.Proofs.Ytimabffnoanciaa
open Go.RowKit
set_option linter.unusedVariables false
set_option linter.unusedSimpArgs false
set_option maxRecDepth 20000
theorem contains_n (A : Option Addr) (B c n : Nat) (xs : List Int) (z : Int) (w : World) (hs : Sl B w A (xs.flatMap eI)) (hl : xs.length ≤ 1048576) (e : xs.length = n) :
    Calls Try.prog 97 #[.slice A n c, .int .i64 z] w (Ret fun v w' => v = .bool (hasB xs z) ∧ Ext w w') := by
  subst e; exact contains_c A B c xs z w hs hl
theorem idxGI_c (A : Option Addr) (B c : Nat) (xs : List Int) (F : FuncId) (cv : List Value) (p : Int → Bool) (S : World → Prop) (w : World) (hs : Sl B w A (xs.flatMap eI)) (hl : xs.length ≤ 1048576) (entG : Enters Try.prog F) (hS : Kept S w) (hf : ∀ (x : Int) (w1 : World), S w1 → x ∈ xs → Calls Try.prog F (.int .i64 x :: cv).toArray w1 (Ret fun v w2 => v = .bool (p x) ∧ Ext w1 w2)) :
    Calls Try.prog 120 #[.slice A xs.length c, .func (.func F) #[] cv.toArray] w (Ret fun v w' => v = .int .i64 (findZ p 0 xs) ∧ Ext w w') := by
  have Bhs := hs.1
  have X := Ext.refl w
  refine calls_of (args := [.slice A xs.length c, .func (.func F) #[] cv.toArray]) Try.func120 Try.ntmps120 rfl rfl ?_
  refine c_seqR ?_
  refine ops_cons rfl (ow_assign rfl ?_)
  refine ops_nil ?_
  refine c_seq ?_
  refine c_seqR ?_
  refine ops_cons rfl (ow_move rfl ?_)
  refine ops_cons rfl (ow_len Try.underlying24 rfl ?_)
  refine ops_cons rfl (ow_move rfl ?_)
  refine ops_nil ?_
  refine c_block ?_
  refine c_loop (G := Nat) (fun k => [(0, .slice A xs.length c), (1, .func (.func F) #[] cv.toArray), (7, .int .i64 (xs.length : Nat)), (8, .int .i64 (k : Nat))]) (fun k wr => k ≤ xs.length ∧ findZ p 0 xs = findZ p (k : Int) (xs.drop k) ∧ Sl B wr A (xs.flatMap eI) ∧ Kept S wr ∧ Ext w wr) (fun k => xs.length - k) 0 (.cons rfl (.cons rfl (.cons rfl (.cons rfl (.nil _))))) ?_ ?_
  · exact ⟨by omega, rfl, hs, hS, X⟩
  clear hs hS
  clear X
  rintro k wr ⟨hk0, hi, hs, hS, X⟩
  refine c_seqR ?_
  refine ops_cons rfl (ow_lss2 rfl rfl (fun hk => ?_) (fun hk => ?_))
  · skip
    obtain ⟨x, hx, dx⟩ := drop_at' hk
    refine ops_nil ?_
    refine c_seq ?_
    refine c_true rfl ?_
    refine c_skip ?_
    refine tq_n ?_
    refine c_seq ?_
    refine c_block ?_
    refine c_seqR ?_
    refine ops_cons rfl (ow_move rfl ?_)
    refine ops_cons rfl (ow_assign rfl ?_)
    refine ops_nil ?_
    refine c_seqR ?_
    refine ops_cons rfl (ow_move rfl ?_)
    refine ops_cons rfl (ow_move rfl ?_)
    refine ops_cons rfl (ow_move rfl ?_)
    refine ops_cons rfl (ow_indexT hs eI_len rfl el24 rfl rfl rfl hx rfl ?_)
    refine ops_cons rfl (ow_loadT hs eI_len hx ti2 rfl rfl rfl ?_)
    refine ops_cons rfl (ow_callVLB entG rfl rfl (hf x _ hS.h (List.mem_of_getElem? hx)) (fun w2 hF x1 => ?_) (fun w2 hF x1 => ?_))
    · skip
      replace hs := hs.ext x1
      replace hS := hS.ext x1
      replace X := Ext.trans X x1; clear x1
      refine ops_nil ?_
      refine c_true rfl ?_
      refine c_seqR ?_
      refine ops_cons rfl (ow_move rfl ?_)
      refine ops_cons rfl (ow_assign rfl ?_)
      refine ops_nil ?_
      refine c_ret ?_
      refine bq_r ?_
      refine tq_r ?_
      refine tq_r ?_
      refine bq_r ?_
      refine tq_r ?_
      refine fin_ret1 rfl rfl ?_
      refine ⟨congrArg (Value.int .i64) ?_, X⟩
      first | (rw [hi, drop_end hk]; rfl) | (rw [hi, dx, findZ, if_pos hF])
    · skip
      replace hs := hs.ext x1
      replace hS := hS.ext x1
      replace X := Ext.trans X x1; clear x1
      refine ops_nil ?_
      refine c_false rfl ?_
      refine c_skip ?_
      refine bq_n ?_
      refine tq_n ?_
      refine c_region ?_
      refine ops_cons rfl (ow_add rfl rfl (w64 (by omega)) ?_)
      refine ops_cons rfl (ow_move rfl ?_)
      refine ops_nil ?_
      refine tq_n ⟨k + 1, (.cons rfl (.cons rfl (.cons rfl (.cons rfl (.nil _))))), ?_, ?_⟩
      · exact ⟨by omega, (by rw [hi, dx, findZ, if_neg (by simp [*])]; rfl), hs, hS, X⟩
      · first | omega | (dsimp only; omega)
  · skip
    refine ops_nil ?_
    refine c_seq ?_
    refine c_false rfl ?_
    refine c_exit ?_
    refine tq_e ?_
    refine tq_e ?_
    refine bq_e ?_
    refine tq_n ?_
    refine c_seqR ?_
    refine ops_cons rfl (ow_assign rfl ?_)
    refine ops_nil ?_
    refine c_ret ?_
    refine fin_ret1 rfl rfl ?_
    refine ⟨congrArg (Value.int .i64) ?_, X⟩
    first | (rw [hi, drop_end hk]; rfl) | (rw [hi, dx, findZ, if_pos hF])

theorem ctGI_c (A : Option Addr) (B c : Nat) (xs : List Int) (F : FuncId) (cv : List Value) (p : Int → Bool) (S : World → Prop) (w : World) (hs : Sl B w A (xs.flatMap eI)) (hl : xs.length ≤ 1048576) (entG : Enters Try.prog F) (hS : Kept S w) (hf : ∀ (x : Int) (w1 : World), S w1 → x ∈ xs → Calls Try.prog F (.int .i64 x :: cv).toArray w1 (Ret fun v w2 => v = .bool (p x) ∧ Ext w1 w2)) :
    Calls Try.prog 131 #[.slice A xs.length c, .func (.func F) #[] cv.toArray] w (Ret fun v w' => v = .bool (xs.any p) ∧ Ext w w') := by
  have Bhs := hs.1
  have X := Ext.refl w
  refine calls_of (args := [.slice A xs.length c, .func (.func F) #[] cv.toArray]) Try.func131 Try.ntmps131 rfl rfl ?_
  refine c_seqR ?_
  refine ops_cons rfl (ow_assign rfl ?_)
  refine ops_nil ?_
  refine c_seqR ?_
  refine ops_cons rfl (ow_move rfl ?_)
  refine ops_cons rfl (ow_move rfl ?_)
  refine ops_cons rfl (ow_call ent120 rfl (ret_mono (idxGI_c _ _ _ _ F cv p S _ hs hl entG hS hf) ?_))
  rintro _ w2 ⟨rfl, x1⟩
  replace hs := hs.ext x1
  replace hS := hS.ext x1
  replace X := Ext.trans X x1; clear x1
  refine ops_cons rfl (ow_geq rfl rfl ?_)
  refine ops_cons rfl (ow_assign rfl ?_)
  refine ops_nil ?_
  refine c_ret ?_
  refine fin_ret1 rfl rfl ?_
  exact ⟨congrArg Value.bool (findZ_any p xs 0 (by omega)), X⟩

theorem steps1_c (A0 : Option Addr) (BO c0 gS gR : Nat) (out : List Int) (z r : Int) (w : World) (bS : Blk w gS 24 [.slice A0 out.length c0]) (bR : Blk w gR 2 [.int .i64 r]) (hO : Sl BO w A0 (out.flatMap eI)) (hz : 0 ≤ z ∧ z < out.length) :
    Calls Try.prog 132 #[.int .i64 z, .pointer (some ⟨gS, 0, none⟩), .pointer (some ⟨gR, 0, none⟩)] w (Ret fun v w' => v = .bool (hitD out r z) ∧ Ext w w') := by
  obtain ⟨v, hv⟩ : ∃ v, out[z.toNat]? = some v := ⟨_, List.getElem?_eq_getElem (by omega)⟩
  have BhO := hO.1
  have X := Ext.refl w
  refine calls_of (args := [.int .i64 z, .pointer (some ⟨gS, 0, none⟩), .pointer (some ⟨gR, 0, none⟩)]) Try.func132 Try.ntmps132 rfl rfl ?_
  refine c_seqR ?_
  refine ops_cons rfl (ow_assign rfl ?_)
  refine ops_nil ?_
  refine c_seqD [false, false, false, false, false, false, false] mixed (by kernel_rfl) ?_
  refine f_q rfl (fun wq sq => ow_loadB (bS.ext sq) ti24 rfl rfl ⟨rfl, Ext.refl _⟩) ?_
  refine f_q rfl (fun wq sq => ow_move rfl ⟨rfl, Ext.refl _⟩) ?_
  refine f_q rfl (fun wq sq => ow_indexT (hO.ext sq) eI_len rfl el24 rfl rfl rfl hv (by omega) ⟨rfl, Ext.refl _⟩) ?_
  refine f_q rfl (fun wq sq => ow_loadT (hO.ext sq) eI_len hv ti2 rfl rfl rfl ⟨rfl, Ext.refl _⟩) ?_
  refine f_q rfl (fun wq sq => ow_loadB (bR.ext sq) ti2 rfl rfl ⟨rfl, Ext.refl _⟩) ?_
  refine f_q rfl (fun wq sq => ow_eql rfl rfl ⟨rfl, Ext.refl _⟩) ?_
  refine f_q rfl (fun wq sq => ow_assign rfl ⟨rfl, Ext.refl _⟩) ?_
  refine f_nil (fun w1 sq => ?_)
  have xq := sq
  replace bS := bS.ext xq
  replace bR := bR.ext xq
  replace hO := hO.ext xq
  replace X := Ext.trans X xq; clear xq sq
  refine ops_nil ?_
  refine c_ret ?_
  refine fin_ret1 rfl rfl ?_
  refine ⟨congrArg Value.bool ?_, X⟩
  unfold hitD; rw [hv]; simp

theorem path1_c (A0 : Option Addr) (BO c0 gS gR : Nat) (out : List Int) (z r : Int) (f : Nat) (w : World) (bS : Blk w gS 24 [.slice A0 out.length c0]) (bR : Blk w gR 2 [.int .i64 r]) (hO : Sl BO w A0 (out.flatMap eI)) (hz : 0 ≤ z ∧ z < out.length) (hr : 0 ≤ r) (hu : out[r.toNat]? = some ((f + 1 : Nat) : Int)) (hu2 : f ≤ 1048576) :
    Calls Try.prog 121 #[.int .i64 z, .pointer (some ⟨gS, 0, none⟩), .pointer (some ⟨gR, 0, none⟩)] w (Ret fun v w' => v = .bool (hitD out f z) ∧ Ext w w') := by
  obtain ⟨v, hv⟩ : ∃ v, out[z.toNat]? = some v := ⟨_, List.getElem?_eq_getElem (by omega)⟩
  have BhO := hO.1
  have X := Ext.refl w
  refine calls_of (args := [.int .i64 z, .pointer (some ⟨gS, 0, none⟩), .pointer (some ⟨gR, 0, none⟩)]) Try.func121 Try.ntmps121 rfl rfl ?_
  refine c_seqR ?_
  refine ops_cons rfl (ow_assign rfl ?_)
  refine ops_nil ?_
  refine c_seqD [false, false, false, false, false, false, false, false, false, false, false] mixed (by kernel_rfl) ?_
  refine f_q rfl (fun wq sq => ow_loadB (bS.ext sq) ti24 rfl rfl ⟨rfl, Ext.refl _⟩) ?_
  refine f_q rfl (fun wq sq => ow_move rfl ⟨rfl, Ext.refl _⟩) ?_
  refine f_q rfl (fun wq sq => ow_indexT (hO.ext sq) eI_len rfl el24 rfl rfl rfl hv (by omega) ⟨rfl, Ext.refl _⟩) ?_
  refine f_q rfl (fun wq sq => ow_loadT (hO.ext sq) eI_len hv ti2 rfl rfl rfl ⟨rfl, Ext.refl _⟩) ?_
  refine f_q rfl (fun wq sq => ow_loadB (bS.ext sq) ti24 rfl rfl ⟨rfl, Ext.refl _⟩) ?_
  refine f_q rfl (fun wq sq => ow_loadB (bR.ext sq) ti2 rfl rfl ⟨rfl, Ext.refl _⟩) ?_
  refine f_q rfl (fun wq sq => ow_indexT (hO.ext sq) eI_len rfl el24 rfl rfl rfl hu (by omega) ⟨rfl, Ext.refl _⟩) ?_
  refine f_q rfl (fun wq sq => ow_loadT (hO.ext sq) eI_len hu ti2 rfl rfl rfl ⟨rfl, Ext.refl _⟩) ?_
  refine f_q rfl (fun wq sq => ow_sub rfl rfl (w64 (by omega)) ⟨rfl, Ext.refl _⟩) ?_
  refine f_q rfl (fun wq sq => ow_eql rfl rfl ⟨rfl, Ext.refl _⟩) ?_
  refine f_q rfl (fun wq sq => ow_assign rfl ⟨rfl, Ext.refl _⟩) ?_
  refine f_nil (fun w1 sq => ?_)
  have xq := sq
  replace bS := bS.ext xq
  replace bR := bR.ext xq
  replace hO := hO.ext xq
  replace X := Ext.trans X xq; clear xq sq
  refine ops_nil ?_
  refine c_ret ?_
  refine fin_ret1 rfl rfl ?_
  refine ⟨congrArg Value.bool ?_, X⟩
  unfold hitD; rw [hv, show (((f + 1 : Nat) : Int) - 1) = (f : Int) by omega]; simp
end Go.Proofs.Ytimabffnoanciaa
