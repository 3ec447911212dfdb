/- The small schedule. No condition. -/
import Derived.Test.YtojgfbbdjobdnaaGreatDoorFlowT
import Derived.Test.YtojgfbbdjobdnaaGreatDoorMod6
namespace Go.Proofs.YtojgfbbdjobdnaaGreatDoor
open Go.RowKit
set_option linter.unusedVariables false
set_option linter.unusedSimpArgs false
set_option maxRecDepth 20000
def smallM : MedlD := ⟨77, [⟨0, ⟨#[97]⟩, 100, false⟩, ⟨1, ⟨#[98]⟩, 50, false⟩], [⟨2, 2, [1]⟩, ⟨1, 2, [0]⟩], [⟨0, 0, 0, ⟨0, 3, 0, 200, false⟩⟩, ⟨0, 0, 1, ⟨1, 1, 0, 200, false⟩⟩, ⟨0, 1, 0, ⟨0, 0, 4, 200, true⟩⟩, ⟨0, 1, 1, ⟨1, 0, 2, 200, false⟩⟩, ⟨1, 0, 0, ⟨1, 2, 3, 300, true⟩⟩, ⟨1, 0, 1, ⟨0, 0, 0, 150, false⟩⟩]⟩
def zeroM : MedlI := ⟨0, none, [], 0, none, [], 0, none, [], 0⟩
def smallI : MedlI := ⟨77, none, [⟨0, ⟨#[97]⟩, 100, false⟩, ⟨1, ⟨#[98]⟩, 50, false⟩], 2, none, [⟨⟨2, 2, [1]⟩, none, 1⟩, ⟨⟨1, 2, [0]⟩, none, 1⟩], 2, none, [⟨0, 0, 0, ⟨0, 3, 0, 200, false⟩⟩, ⟨0, 0, 1, ⟨1, 1, 0, 200, false⟩⟩, ⟨0, 1, 0, ⟨0, 0, 4, 200, true⟩⟩, ⟨0, 1, 1, ⟨1, 0, 2, 200, false⟩⟩, ⟨1, 0, 0, ⟨1, 2, 3, 300, true⟩⟩, ⟨1, 0, 1, ⟨0, 0, 0, 150, false⟩⟩], 6⟩
theorem smallM_I : smallI.small := ⟨by decide, by decide, fun x hx => by
  simp only [smallI, List.mem_cons, List.not_mem_nil, or_false] at hx
  rcases hx with rfl | rfl <;> decide, by decide, fun x hx => by
  simp only [smallI, List.mem_cons, List.not_mem_nil, or_false] at hx
  rcases hx with rfl | rfl <;> decide⟩
theorem small_small {m' : MedlI} (e : m'.d = smallM) : m'.small := by
  have h := smallM_I
  exact MedlI.small_of (m := smallI) (by rw [e]; rfl) h
theorem sSmall_c  (w : World)  :
    Calls Tryz.prog 42 #[] w (Ret fun v w' => ∃ m', v = .agg m'.cells.toArray ∧ m'.d = smallM ∧ MOwn w' w.heap.size 68 45 2 89 m' ∧ Ext w w') := by
  have X := Ext.refl w
  refine calls_of (args := []) Tryz.func42 Tryz.ntmps42 rfl rfl ?_
  refine c_seqR ?_
  refine ops_cons rfl (ow_alloc ti28 ?_)
  intro g0 w2 eg0 b0 x1 zg0
  have lg0 : w.heap.size ≤ g0 := Nat.le_trans X.size (Nat.le_of_eq eg0.symm)
  replace X := Ext.trans X x1; clear x1
  refine ops_nil ?_
  refine c_seqR ?_
  refine ops_cons rfl (ow_buildP pl68 ti68 rfl rfl ?_)
  refine ops_cons rfl (ow_buildP pl68 ti68 rfl rfl ?_)
  refine ops_cons rfl (ow_buildSlice el24 ti68 rfl rfl rfl rfl rfl ?_)
  intro gN w4 egN oN bbgN x3 zgN
  replace oN := Own.low oN X.size
  replace b0 := b0.ext x3
  replace X := Ext.trans X x3; clear x3
  replace oN := oN.to (cs' := ([⟨0, ⟨#[97]⟩, 100, false⟩, ⟨1, ⟨#[98]⟩, 50, false⟩] : List NodeI).flatMap NodeI.cells) rfl
  refine ops_cons rfl (ow_buildSlice el30 ti2 rfl rfl rfl rfl rfl ?_)
  intro g4 w6 eg4 o4 bbg4 x5 zg4
  replace o4 := Own.low o4 X.size
  replace b0 := b0.ext x5
  replace oN := oN.ext x5
  replace X := Ext.trans X x5; clear x5
  replace o4 := o4.to (cs' := ([1] : List Int).flatMap eI) rfl
  refine ops_cons rfl (ow_buildP pl45 ti45 rfl rfl ?_)
  have U4 := fun g hg => (Own.lt o4 (g := g) hg).2
  refine ops_cons rfl (ow_buildSlice el30 ti2 rfl rfl rfl rfl rfl ?_)
  intro g6 w9 eg6 o6 bbg6 x7 zg6
  replace o6 := Own.low o6 X.size
  replace b0 := b0.ext x7
  replace oN := oN.ext x7
  replace o4 := o4.ext x7
  replace X := Ext.trans X x7; clear x7
  replace o6 := o6.to (cs' := ([0] : List Int).flatMap eI) rfl
  refine ops_cons rfl (ow_buildP pl45 ti45 rfl rfl ?_)
  refine ops_cons rfl (ow_buildSlice el25 ti45 rfl rfl rfl rfl rfl ?_)
  intro gM w11 egM oM bbgM x10 zgM
  replace oM := Own.low oM X.size
  replace b0 := b0.ext x10
  replace oN := oN.ext x10
  replace o4 := o4.ext x10
  replace o6 := o6.ext x10
  replace X := Ext.trans X x10; clear x10
  replace oM := oM.to (cs' := ([⟨⟨2, 2, [1]⟩, some ⟨g4, 0, none⟩, 1⟩, ⟨⟨1, 2, [0]⟩, some ⟨g6, 0, none⟩, 1⟩] : List ModeI).flatMap ModeI.cells) rfl
  refine ops_cons rfl (ow_buildP pl77 ti77 rfl rfl ?_)
  refine ops_cons rfl (ow_buildP pl89 ti89 rfl rfl ?_)
  refine ops_cons rfl (ow_buildP pl77 ti77 rfl rfl ?_)
  refine ops_cons rfl (ow_buildP pl89 ti89 rfl rfl ?_)
  refine ops_cons rfl (ow_buildP pl77 ti77 rfl rfl ?_)
  refine ops_cons rfl (ow_buildP pl89 ti89 rfl rfl ?_)
  refine ops_cons rfl (ow_buildP pl77 ti77 rfl rfl ?_)
  refine ops_cons rfl (ow_buildP pl89 ti89 rfl rfl ?_)
  refine ops_cons rfl (ow_buildP pl77 ti77 rfl rfl ?_)
  refine ops_cons rfl (ow_buildP pl89 ti89 rfl rfl ?_)
  refine ops_cons rfl (ow_buildP pl77 ti77 rfl rfl ?_)
  refine ops_cons rfl (ow_buildP pl89 ti89 rfl rfl ?_)
  refine ops_cons rfl (ow_buildSlice el26 ti89 rfl rfl rfl rfl rfl ?_)
  intro gS w13 egS oS bbgS x12 zgS
  replace oS := Own.low oS X.size
  replace b0 := b0.ext x12
  replace oN := oN.ext x12
  replace o4 := o4.ext x12
  replace o6 := o6.ext x12
  replace oM := oM.ext x12
  replace X := Ext.trans X x12; clear x12
  replace oS := oS.to (cs' := ([⟨0, 0, 0, ⟨0, 3, 0, 200, false⟩⟩, ⟨0, 0, 1, ⟨1, 1, 0, 200, false⟩⟩, ⟨0, 1, 0, ⟨0, 0, 4, 200, true⟩⟩, ⟨0, 1, 1, ⟨1, 0, 2, 200, false⟩⟩, ⟨1, 0, 0, ⟨1, 2, 3, 300, true⟩⟩, ⟨1, 0, 1, ⟨0, 0, 0, 150, false⟩⟩] : List SlotI).flatMap SlotI.cells) rfl
  refine ops_cons rfl (ow_buildP pl28 ti28 rfl rfl ?_)
  refine ops_cons rfl (ow_storeB b0 ti28 rfl rfl rfl rfl rfl rfl ?_)
  intro w15 b1 hg14 z16
  replace oN := oN.grownBlk hg14 (Own.neT oN b0 (by decide))
  replace o4 := o4.grownBlk hg14 (Own.neT o4 b0 (by decide))
  replace o6 := o6.grownBlk hg14 (Own.neT o6 b0 (by decide))
  replace oM := oM.grownBlk hg14 (Own.neT oM b0 (by decide))
  replace oS := oS.grownBlk hg14 (Own.neT oS b0 (by decide))
  replace X := X.grown hg14 X.size (by intro g hg; injection hg; omega)
  clear hg14 b0
  refine ops_nil ?_
  refine c_ret ?_
  refine fin_cell1 rfl rfl b1 ti28 rfl ?_
  · skip
    have hN := ((NOwn.nil_ (w := _)).snoc (x := ⟨⟨2, 2, [1]⟩, some ⟨g4, 0, none⟩, 1⟩) o4 (by show ([1] : List Int).length ≤ 9223372036854775807; decide)).snoc (x := ⟨⟨1, 2, [0]⟩, some ⟨g6, 0, none⟩, 1⟩) o6 (by show ([0] : List Int).length ≤ 9223372036854775807; decide)
    have hD := (Disj.nil_.snoc (x := ⟨⟨2, 2, [1]⟩, some ⟨g4, 0, none⟩, 1⟩) (fun y hy => by simp at hy)).snoc (x := ⟨⟨1, 2, [0]⟩, some ⟨g6, 0, none⟩, 1⟩) (fun y hy g hg e => by
      obtain rfl : y = ⟨⟨2, 2, [1]⟩, some ⟨g4, 0, none⟩, 1⟩ := by simpa using hy
      have h1 := U4 g hg
      have h2 : g6 = g := by injection e
      omega)
    exact ⟨⟨77, some ⟨gN, 0, none⟩, [⟨0, ⟨#[97]⟩, 100, false⟩, ⟨1, ⟨#[98]⟩, 50, false⟩], 2, some ⟨gM, 0, none⟩, [⟨⟨2, 2, [1]⟩, some ⟨g4, 0, none⟩, 1⟩, ⟨⟨1, 2, [0]⟩, some ⟨g6, 0, none⟩, 1⟩], 2, some ⟨gS, 0, none⟩, [⟨0, 0, 0, ⟨0, 3, 0, 200, false⟩⟩, ⟨0, 0, 1, ⟨1, 1, 0, 200, false⟩⟩, ⟨0, 1, 0, ⟨0, 0, 4, 200, true⟩⟩, ⟨0, 1, 1, ⟨1, 0, 2, 200, false⟩⟩, ⟨1, 0, 0, ⟨1, 2, 3, 300, true⟩⟩, ⟨1, 0, 1, ⟨0, 0, 0, 150, false⟩⟩], 6⟩, rfl, rfl, ⟨oN, oM, hN, hD, oS⟩, X⟩

theorem iSmall_c  (w : World)  :
    Calls Tryz.prog 41 #[] w (Ret fun v w' => ∃ m', v = .agg m'.cells.toArray ∧ m'.d = smallM ∧ MOwn w' w.heap.size 68 45 2 89 m' ∧ Ext w w') := by
  have X := Ext.refl w
  refine calls_of (args := []) Tryz.func41 Tryz.ntmps41 rfl rfl ?_
  refine c_seqR ?_
  refine ops_cons rfl (ow_alloc ti28 ?_)
  intro g0 w2 eg0 b0 x1 zg0
  have lg0 : w.heap.size ≤ g0 := Nat.le_trans X.size (Nat.le_of_eq eg0.symm)
  replace X := Ext.trans X x1; clear x1
  refine ops_nil ?_
  refine c_seqR ?_
  refine ops_cons rfl (ow_buildP pl68 ti68 rfl rfl ?_)
  refine ops_cons rfl (ow_buildP pl68 ti68 rfl rfl ?_)
  refine ops_cons rfl (ow_buildSlice el24 ti68 rfl rfl rfl rfl rfl ?_)
  intro gN w4 egN oN bbgN x3 zgN
  replace oN := Own.low oN X.size
  replace b0 := b0.ext x3
  replace X := Ext.trans X x3; clear x3
  replace oN := oN.to (cs' := ([⟨0, ⟨#[97]⟩, 100, false⟩, ⟨1, ⟨#[98]⟩, 50, false⟩] : List NodeI).flatMap NodeI.cells) rfl
  refine ops_cons rfl (ow_buildSlice el30 ti2 rfl rfl rfl rfl rfl ?_)
  intro g4 w6 eg4 o4 bbg4 x5 zg4
  replace o4 := Own.low o4 X.size
  replace b0 := b0.ext x5
  replace oN := oN.ext x5
  replace X := Ext.trans X x5; clear x5
  replace o4 := o4.to (cs' := ([1] : List Int).flatMap eI) rfl
  refine ops_cons rfl (ow_buildP pl45 ti45 rfl rfl ?_)
  have U4 := fun g hg => (Own.lt o4 (g := g) hg).2
  refine ops_cons rfl (ow_buildSlice el30 ti2 rfl rfl rfl rfl rfl ?_)
  intro g6 w9 eg6 o6 bbg6 x7 zg6
  replace o6 := Own.low o6 X.size
  replace b0 := b0.ext x7
  replace oN := oN.ext x7
  replace o4 := o4.ext x7
  replace X := Ext.trans X x7; clear x7
  replace o6 := o6.to (cs' := ([0] : List Int).flatMap eI) rfl
  refine ops_cons rfl (ow_buildP pl45 ti45 rfl rfl ?_)
  refine ops_cons rfl (ow_buildSlice el25 ti45 rfl rfl rfl rfl rfl ?_)
  intro gM w11 egM oM bbgM x10 zgM
  replace oM := Own.low oM X.size
  replace b0 := b0.ext x10
  replace oN := oN.ext x10
  replace o4 := o4.ext x10
  replace o6 := o6.ext x10
  replace X := Ext.trans X x10; clear x10
  replace oM := oM.to (cs' := ([⟨⟨2, 2, [1]⟩, some ⟨g4, 0, none⟩, 1⟩, ⟨⟨1, 2, [0]⟩, some ⟨g6, 0, none⟩, 1⟩] : List ModeI).flatMap ModeI.cells) rfl
  refine ops_cons rfl (ow_buildP pl77 ti77 rfl rfl ?_)
  refine ops_cons rfl (ow_buildP pl89 ti89 rfl rfl ?_)
  refine ops_cons rfl (ow_buildP pl77 ti77 rfl rfl ?_)
  refine ops_cons rfl (ow_buildP pl89 ti89 rfl rfl ?_)
  refine ops_cons rfl (ow_buildP pl77 ti77 rfl rfl ?_)
  refine ops_cons rfl (ow_buildP pl89 ti89 rfl rfl ?_)
  refine ops_cons rfl (ow_buildP pl77 ti77 rfl rfl ?_)
  refine ops_cons rfl (ow_buildP pl89 ti89 rfl rfl ?_)
  refine ops_cons rfl (ow_buildP pl77 ti77 rfl rfl ?_)
  refine ops_cons rfl (ow_buildP pl89 ti89 rfl rfl ?_)
  refine ops_cons rfl (ow_buildP pl77 ti77 rfl rfl ?_)
  refine ops_cons rfl (ow_buildP pl89 ti89 rfl rfl ?_)
  refine ops_cons rfl (ow_buildSlice el26 ti89 rfl rfl rfl rfl rfl ?_)
  intro gS w13 egS oS bbgS x12 zgS
  replace oS := Own.low oS X.size
  replace b0 := b0.ext x12
  replace oN := oN.ext x12
  replace o4 := o4.ext x12
  replace o6 := o6.ext x12
  replace oM := oM.ext x12
  replace X := Ext.trans X x12; clear x12
  replace oS := oS.to (cs' := ([⟨0, 0, 0, ⟨0, 3, 0, 200, false⟩⟩, ⟨0, 0, 1, ⟨1, 1, 0, 200, false⟩⟩, ⟨0, 1, 0, ⟨0, 0, 4, 200, true⟩⟩, ⟨0, 1, 1, ⟨1, 0, 2, 200, false⟩⟩, ⟨1, 0, 0, ⟨1, 2, 3, 300, true⟩⟩, ⟨1, 0, 1, ⟨0, 0, 0, 150, false⟩⟩] : List SlotI).flatMap SlotI.cells) rfl
  refine ops_cons rfl (ow_buildP pl28 ti28 rfl rfl ?_)
  refine ops_cons rfl (ow_storeB b0 ti28 rfl rfl rfl rfl rfl rfl ?_)
  intro w15 b1 hg14 z16
  replace oN := oN.grownBlk hg14 (Own.neT oN b0 (by decide))
  replace o4 := o4.grownBlk hg14 (Own.neT o4 b0 (by decide))
  replace o6 := o6.grownBlk hg14 (Own.neT o6 b0 (by decide))
  replace oM := oM.grownBlk hg14 (Own.neT oM b0 (by decide))
  replace oS := oS.grownBlk hg14 (Own.neT oS b0 (by decide))
  replace X := X.grown hg14 X.size (by intro g hg; injection hg; omega)
  clear hg14 b0
  refine ops_nil ?_
  refine c_ret ?_
  refine fin_cell1 rfl rfl b1 ti28 rfl ?_
  · skip
    have hN := ((NOwn.nil_ (w := _)).snoc (x := ⟨⟨2, 2, [1]⟩, some ⟨g4, 0, none⟩, 1⟩) o4 (by show ([1] : List Int).length ≤ 9223372036854775807; decide)).snoc (x := ⟨⟨1, 2, [0]⟩, some ⟨g6, 0, none⟩, 1⟩) o6 (by show ([0] : List Int).length ≤ 9223372036854775807; decide)
    have hD := (Disj.nil_.snoc (x := ⟨⟨2, 2, [1]⟩, some ⟨g4, 0, none⟩, 1⟩) (fun y hy => by simp at hy)).snoc (x := ⟨⟨1, 2, [0]⟩, some ⟨g6, 0, none⟩, 1⟩) (fun y hy g hg e => by
      obtain rfl : y = ⟨⟨2, 2, [1]⟩, some ⟨g4, 0, none⟩, 1⟩ := by simpa using hy
      have h1 := U4 g hg
      have h2 : g6 = g := by injection e
      omega)
    exact ⟨⟨77, some ⟨gN, 0, none⟩, [⟨0, ⟨#[97]⟩, 100, false⟩, ⟨1, ⟨#[98]⟩, 50, false⟩], 2, some ⟨gM, 0, none⟩, [⟨⟨2, 2, [1]⟩, some ⟨g4, 0, none⟩, 1⟩, ⟨⟨1, 2, [0]⟩, some ⟨g6, 0, none⟩, 1⟩], 2, some ⟨gS, 0, none⟩, [⟨0, 0, 0, ⟨0, 3, 0, 200, false⟩⟩, ⟨0, 0, 1, ⟨1, 1, 0, 200, false⟩⟩, ⟨0, 1, 0, ⟨0, 0, 4, 200, true⟩⟩, ⟨0, 1, 1, ⟨1, 0, 2, 200, false⟩⟩, ⟨1, 0, 0, ⟨1, 2, 3, 300, true⟩⟩, ⟨1, 0, 1, ⟨0, 0, 0, 150, false⟩⟩], 6⟩, rfl, rfl, ⟨oN, oM, hN, hD, oS⟩, X⟩
end Go.Proofs.YtojgfbbdjobdnaaGreatDoor
