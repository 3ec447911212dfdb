/- Parts. No condition. -/
import Derived.Test.YtdoibplhbdkapaaGreatDoorDNP25
import Derived.Test.YtdoibplhbdkapaaGreatDoorDNP4
import Derived.Test.YtdoibplhbdkapaaGreatDoorDNP5
import Derived.Test.YtdoibplhbdkapaaGreatDoorDNP7
import Derived.Test.YtdoibplhbdkapaaGreatDoorDNP17
import Derived.Test.YtdoibplhbdkapaaGreatDoorDNP6
import Derived.Test.YtdoibplhbdkapaaGreatDoorDNP20
import Derived.Test.YtdoibplhbdkapaaGreatDoorDNP3
import Derived.ProofKit
import Derived.OpenShut
import Derived.Test.YtdoibplhbdkapaaGreatDoorCards
namespace Go.Proofs.YtdoibplhbdkapaaGreatDoor
open Go.RowKit
set_option linter.unusedVariables false
set_option linter.unusedSimpArgs false
set_option maxRecDepth 20000
theorem aBy (d : NodeI) (w : World) (k : Nat) : (Op.equalIn (k + 2) 59 (.agg d.cells.toArray) (.agg d.cells.toArray)).run Tryz.prog w = .ok true w := by
 rw [run_equalIn_agg w (k + 1) 59 _ _ (by kernel_rfl) (by kernel_rfl)]
 simp only [Program.fieldsOf, Tryz.underlying59, NodeI.cells]
 simp [Op.eqFields, part, run_equalIn_int w k 2 _ _ _ _ Tryz.underlying2, run_equalIn_bool' w k 4 _ _ Tryz.underlying4, run_equalIn_string w k 9 _ _ Tryz.underlying9]
theorem aCz (d : Desc) (w : World) (k : Nat) : (Op.equalIn (k + 2) 67 (.agg d.cells.toArray) (.agg d.cells.toArray)).run Tryz.prog w = .ok true w := by
 rw [run_equalIn_agg w (k + 1) 67 _ _ (by kernel_rfl) (by kernel_rfl)]
 simp only [Program.fieldsOf, Tryz.underlying67, Desc.cells]
 simp [Op.eqFields, part, run_equalIn_int w k 2 _ _ _ _ Tryz.underlying2, run_equalIn_bool' w k 4 _ _ Tryz.underlying4]
theorem aBz (d : SlotI) (w : World) (k : Nat) : (Op.equalIn (k + 3) 89 (.agg d.cells.toArray) (.agg d.cells.toArray)).run Tryz.prog w = .ok true w := by
 have h := aCz d.desc w k
 rw [run_equalIn_agg w (k + 2) 89 _ _ (by kernel_rfl) (by kernel_rfl)]
 simp only [Program.fieldsOf, Tryz.underlying89, SlotI.cells]
 simp only [Desc.cells] at h ⊢
 simp [Op.eqFields, part, run_equalIn_int w (k + 1) 2 _ _ _ _ Tryz.underlying2, h]
theorem aCA (A A' : Option Addr) (B B' c c' : Nat) (xs : List NodeI) (w : World) (hs : Sl B w A (xs.flatMap NodeI.cells)) (ht : Sl B' w A' (xs.flatMap NodeI.cells)) (hl : xs.length ≤ 1048576) :
   Calls Tryz.prog 79 #[.slice A xs.length c, .slice A' xs.length c'] w (fD fun v w' => v = .bool true ∧ Ext w w') := by
 have Bhs := hs.1
 have Bht := ht.1
 have X := Q7r w
 refine bI (args := [.slice A xs.length c, .slice A' xs.length c']) Tryz.func79 Tryz.ntmps79 rfl rfl ?_
 refine aE ?_
 refine aA rfl (aD rfl ?_)
 refine aB ?_
 refine aQ ?_
 refine aE ?_
 refine aA rfl (aC rfl ?_)
 refine aA rfl (cQ Tryz.underlying24 rfl ?_)
 refine aA rfl (aC rfl ?_)
 refine aA rfl (cQ Tryz.underlying24 rfl ?_)
 refine aA rfl (hP rfl rfl (fun h1 => absurd h1 (by simp)) (fun h1 => ?_))
 refine aB ?_
 refine aL rfl ?_
 refine aU ?_
 refine aP ?_
 refine aQ ?_
 refine aE ?_
 refine aA rfl (aD rfl ?_)
 refine aB ?_
 refine aW ?_
 refine dD (G := Nat) (fun k => [(0, .slice A xs.length c), (1, .slice A' xs.length c'), (5, .int .i64 (k : Nat))]) (fun k wr => k ≤ xs.length ∧ Sl B wr A (xs.flatMap NodeI.cells) ∧ Sl B' wr A' (xs.flatMap NodeI.cells) ∧ Ext w wr) (fun k => xs.length - k) 0 (.cons rfl (.cons rfl (.cons rfl (.nil _)))) ?_ ?_
 · exact ⟨by omega, hs, ht, X⟩
 clear hs ht
 clear X
 rintro k wr ⟨hk0, hs, ht, X⟩
 refine aQ ?_
 refine aE ?_
 refine aA rfl (aC rfl ?_)
 refine aA rfl (aC rfl ?_)
 refine aA rfl (cQ Tryz.underlying24 rfl ?_)
 refine aA rfl (cH rfl rfl (fun hk => ?_) (fun hk => ?_))
 obtain ⟨x, hx, dx⟩ := dM hk
 refine aB ?_
 refine aR rfl ?_
 refine aU ?_
 refine aP ?_
 refine aQ ?_
 refine aW ?_
 refine eO [false, false, false, false, false, false, false, false, false] mixed (by kernel_rfl) ?_
 refine cE rfl (fun wq sq => aC rfl ⟨rfl, Q7r _⟩) ?_
 refine cE rfl (fun wq sq => aC rfl ⟨rfl, Q7r _⟩) ?_
 refine cE rfl (fun wq sq => aT (hs.ext sq) NodeI.len rfl jT rfl rfl rfl hx rfl ⟨rfl, Q7r _⟩) ?_
 refine cE rfl (fun wq sq => dY (hs.ext sq) NodeI.len hx jF rfl ⟨rfl, Q7r _⟩) ?_
 refine cE rfl (fun wq sq => aC rfl ⟨rfl, Q7r _⟩) ?_
 refine cE rfl (fun wq sq => aC rfl ⟨rfl, Q7r _⟩) ?_
 refine cE rfl (fun wq sq => aT (ht.ext sq) NodeI.len rfl jT rfl rfl rfl hx rfl ⟨rfl, Q7r _⟩) ?_
 refine cE rfl (fun wq sq => dY (ht.ext sq) NodeI.len hx jF rfl ⟨rfl, Q7r _⟩) ?_
 refine cE rfl (fun wq sq => aEt rfl rfl (by kernel_rfl) (fun w => aBy _ w 9998) ⟨rfl, Q7r _⟩) ?_
 refine dW (fun w2 sq => ?_)
 have xq := sq
 replace hs := hs.ext xq
 replace ht := ht.ext xq
 replace X := Q7x X xq; clear xq sq
 refine aB ?_
 refine aL rfl ?_
 refine aU ?_
 refine dJ ?_
 refine aP ?_
 refine aM ?_
 refine aA rfl (aC rfl ?_)
 refine aA rfl (aZ rfl rfl (dR (by omega)) ?_)
 refine aA rfl (aD rfl ?_)
 refine aB ?_
 refine aP ⟨k + 1, (.cons rfl (.cons rfl (.cons rfl (.nil _)))), ?_, ?_⟩
 · exact ⟨by omega, hs, ht, X⟩
 · omega
 refine aB ?_
 refine aL rfl ?_
 refine dC ?_
 refine dB ?_
 refine dB ?_
 refine eA ?_
 refine aP ?_
 refine aE ?_
 refine aA rfl (aD rfl ?_)
 refine aB ?_
 refine aV ?_
 refine aK rfl rfl ?_
 exact ⟨by rfl, X⟩
theorem aCB (A A' : Option Addr) (B B' c c' : Nat) (xs : List SlotI) (w : World) (hs : Sl B w A (xs.flatMap SlotI.cells)) (ht : Sl B' w A' (xs.flatMap SlotI.cells)) (hl : xs.length ≤ 1048576) :
   Calls Tryz.prog 81 #[.slice A xs.length c, .slice A' xs.length c'] w (fD fun v w' => v = .bool true ∧ Ext w w') := by
 have Bhs := hs.1
 have Bht := ht.1
 have X := Q7r w
 refine bI (args := [.slice A xs.length c, .slice A' xs.length c']) Tryz.func81 Tryz.ntmps81 rfl rfl ?_
 refine aE ?_
 refine aA rfl (aD rfl ?_)
 refine aB ?_
 refine aQ ?_
 refine aE ?_
 refine aA rfl (aC rfl ?_)
 refine aA rfl (cQ Tryz.underlying26 rfl ?_)
 refine aA rfl (aC rfl ?_)
 refine aA rfl (cQ Tryz.underlying26 rfl ?_)
 refine aA rfl (hP rfl rfl (fun h1 => absurd h1 (by simp)) (fun h1 => ?_))
 refine aB ?_
 refine aL rfl ?_
 refine aU ?_
 refine aP ?_
 refine aQ ?_
 refine aE ?_
 refine aA rfl (aD rfl ?_)
 refine aB ?_
 refine aW ?_
 refine dD (G := Nat) (fun k => [(0, .slice A xs.length c), (1, .slice A' xs.length c'), (5, .int .i64 (k : Nat))]) (fun k wr => k ≤ xs.length ∧ Sl B wr A (xs.flatMap SlotI.cells) ∧ Sl B' wr A' (xs.flatMap SlotI.cells) ∧ Ext w wr) (fun k => xs.length - k) 0 (.cons rfl (.cons rfl (.cons rfl (.nil _)))) ?_ ?_
 · exact ⟨by omega, hs, ht, X⟩
 clear hs ht
 clear X
 rintro k wr ⟨hk0, hs, ht, X⟩
 refine aQ ?_
 refine aE ?_
 refine aA rfl (aC rfl ?_)
 refine aA rfl (aC rfl ?_)
 refine aA rfl (cQ Tryz.underlying26 rfl ?_)
 refine aA rfl (cH rfl rfl (fun hk => ?_) (fun hk => ?_))
 obtain ⟨x, hx, dx⟩ := dM hk
 refine aB ?_
 refine aR rfl ?_
 refine aU ?_
 refine aP ?_
 refine aQ ?_
 refine aW ?_
 refine eO [false, false, false, false, false, false, false, false, false] mixed (by kernel_rfl) ?_
 refine cE rfl (fun wq sq => aC rfl ⟨rfl, Q7r _⟩) ?_
 refine cE rfl (fun wq sq => aC rfl ⟨rfl, Q7r _⟩) ?_
 refine cE rfl (fun wq sq => aT (hs.ext sq) SlotI.len rfl eW rfl rfl rfl hx rfl ⟨rfl, Q7r _⟩) ?_
 refine cE rfl (fun wq sq => dY (hs.ext sq) SlotI.len hx dZ rfl ⟨rfl, Q7r _⟩) ?_
 refine cE rfl (fun wq sq => aC rfl ⟨rfl, Q7r _⟩) ?_
 refine cE rfl (fun wq sq => aC rfl ⟨rfl, Q7r _⟩) ?_
 refine cE rfl (fun wq sq => aT (ht.ext sq) SlotI.len rfl eW rfl rfl rfl hx rfl ⟨rfl, Q7r _⟩) ?_
 refine cE rfl (fun wq sq => dY (ht.ext sq) SlotI.len hx dZ rfl ⟨rfl, Q7r _⟩) ?_
 refine cE rfl (fun wq sq => aEt rfl rfl (by kernel_rfl) (fun w => aBz _ w 9997) ⟨rfl, Q7r _⟩) ?_
 refine dW (fun w2 sq => ?_)
 have xq := sq
 replace hs := hs.ext xq
 replace ht := ht.ext xq
 replace X := Q7x X xq; clear xq sq
 refine aB ?_
 refine aL rfl ?_
 refine aU ?_
 refine dJ ?_
 refine aP ?_
 refine aM ?_
 refine aA rfl (aC rfl ?_)
 refine aA rfl (aZ rfl rfl (dR (by omega)) ?_)
 refine aA rfl (aD rfl ?_)
 refine aB ?_
 refine aP ⟨k + 1, (.cons rfl (.cons rfl (.cons rfl (.nil _)))), ?_, ?_⟩
 · exact ⟨by omega, hs, ht, X⟩
 · omega
 refine aB ?_
 refine aL rfl ?_
 refine dC ?_
 refine dB ?_
 refine dB ?_
 refine eA ?_
 refine aP ?_
 refine aE ?_
 refine aA rfl (aD rfl ?_)
 refine aB ?_
 refine aV ?_
 refine aK rfl rfl ?_
 exact ⟨by rfl, X⟩
theorem aCC (A A' : Option Addr) (B B' B2 B3 c c' : Nat) (xs ys : List ModeI) (w : World) (hs : Sl B w A (xs.flatMap ModeI.cells)) (hn : Nexts B2 w xs) (ht : Sl B' w A' (ys.flatMap ModeI.cells)) (hn2 : Nexts B3 w ys) (em : xs.map (·.m) = ys.map (·.m)) (hl : xs.length ≤ 1048576) (hz : ∀ x ∈ xs, x.m.next.length ≤ 1048576) :
   Calls Tryz.prog 80 #[.slice A xs.length c, .slice A' ys.length c'] w (fD fun v w' => v = .bool true ∧ Ext w w') := by
 have el : xs.length = ys.length := by have := congrArg List.length em; simpa using this
 have Bhs := hs.1
 have Bhn := hn.1
 have Bht := ht.1
 have Bhn2 := hn2.1
 have X := Q7r w
 refine bI (args := [.slice A xs.length c, .slice A' ys.length c']) Tryz.func80 Tryz.ntmps80 rfl rfl ?_
 refine aE ?_
 refine aA rfl (aD rfl ?_)
 refine aB ?_
 refine aQ ?_
 refine aE ?_
 refine aA rfl (aC rfl ?_)
 refine aA rfl (cQ Tryz.underlying25 rfl ?_)
 refine aA rfl (aC rfl ?_)
 refine aA rfl (cQ Tryz.underlying25 rfl ?_)
 refine aA rfl (hP rfl rfl (fun h1 => absurd h1 (by rw [el]; simp)) (fun h1 => ?_))
 refine aB ?_
 refine aL rfl ?_
 refine aU ?_
 refine aP ?_
 refine aQ ?_
 refine aE ?_
 refine aA rfl (aD rfl ?_)
 refine aB ?_
 refine aW ?_
 refine dD (G := Nat) (fun k => [(0, .slice A xs.length c), (1, .slice A' ys.length c'), (5, .int .i64 (k : Nat))]) (fun k wr => k ≤ xs.length ∧ Sl B wr A (xs.flatMap ModeI.cells) ∧ Nexts B2 wr xs ∧ Sl B' wr A' (ys.flatMap ModeI.cells) ∧ Nexts B3 wr ys ∧ Ext w wr) (fun k => xs.length - k) 0 (.cons rfl (.cons rfl (.cons rfl (.nil _)))) ?_ ?_
 · exact ⟨by omega, hs, hn, ht, hn2, X⟩
 clear hs hn ht hn2
 clear X
 rintro k wr ⟨hk0, hs, hn, ht, hn2, X⟩
 refine aQ ?_
 refine aE ?_
 refine aA rfl (aC rfl ?_)
 refine aA rfl (aC rfl ?_)
 refine aA rfl (cQ Tryz.underlying25 rfl ?_)
 refine aA rfl (cH rfl rfl (fun hk => ?_) (fun hk => ?_))
 obtain ⟨x, hx, dx⟩ := dM hk
 obtain ⟨y, hy, _⟩ := jZ (xs := ys) (k := k) (by omega)
 have exy : x.m = y.m := by have h1 := aBI (f := (·.m)) hx; rw [em, aBI hy] at h1; injection h1 with h1; exact h1.symm
 obtain ⟨my, Ay, cy⟩ := y
 simp only at exy
 subst exy
 have hlx := hz x (List.mem_of_getElem? hx)
 refine aB ?_
 refine aR rfl ?_
 refine aU ?_
 refine aP ?_
 refine aQ ?_
 refine aW ?_
 refine eO [false, false, false, false, false, false, false, false, false, false, false, false, false, false, false, false, false, false, false, false, false, false, false, false, false, false, false, false, false, false, false, false, false, false, false, false, false, false] mixed (by kernel_rfl) ?_
 refine cE rfl (fun wq sq => aC rfl ⟨rfl, Q7r _⟩) ?_
 refine cE rfl (fun wq sq => aC rfl ⟨rfl, Q7r _⟩) ?_
 refine cE rfl (fun wq sq => aT (hs.ext sq) ModeI.len rfl iA rfl rfl rfl hx rfl ⟨rfl, Q7r _⟩) ?_
 refine cE rfl (fun wq sq => bK iS rfl ⟨rfl, Q7r _⟩) ?_
 refine cE rfl (fun wq sq => dQ (hs.ext sq) ModeI.len hx cY rfl rfl rfl ⟨rfl, Q7r _⟩) ?_
 refine cE rfl (fun wq sq => aC rfl ⟨rfl, Q7r _⟩) ?_
 refine cE rfl (fun wq sq => aC rfl ⟨rfl, Q7r _⟩) ?_
 refine cE rfl (fun wq sq => aT (ht.ext sq) ModeI.len rfl iA rfl rfl rfl hy rfl ⟨rfl, Q7r _⟩) ?_
 refine cE rfl (fun wq sq => bK iS rfl ⟨rfl, Q7r _⟩) ?_
 refine cE rfl (fun wq sq => dQ (ht.ext sq) ModeI.len hy cY rfl rfl rfl ⟨rfl, Q7r _⟩) ?_
 refine uR rfl (fun wq sq => qS rfl rfl ⟨rfl, Q7r _⟩) (fun h2 => absurd h2 (by simp)) (fun h2 => ?_)
 refine cE rfl (fun wq sq => aC rfl ⟨rfl, Q7r _⟩) ?_
 refine dT rfl rfl rfl (fun wq sq => aC rfl ⟨rfl, Q7r _⟩) ?_
 refine dT rfl rfl rfl (fun wq sq => aC rfl ⟨rfl, Q7r _⟩) ?_
 refine dT rfl rfl rfl (fun wq sq => aT (hs.ext sq) ModeI.len rfl iA rfl rfl rfl hx rfl ⟨rfl, Q7r _⟩) ?_
 refine dT rfl rfl rfl (fun wq sq => bK fU rfl ⟨rfl, Q7r _⟩) ?_
 refine dT rfl rfl rfl (fun wq sq => dQ (hs.ext sq) ModeI.len hx cY rfl rfl rfl ⟨rfl, Q7r _⟩) ?_
 refine dT rfl rfl rfl (fun wq sq => aC rfl ⟨rfl, Q7r _⟩) ?_
 refine dT rfl rfl rfl (fun wq sq => aC rfl ⟨rfl, Q7r _⟩) ?_
 refine dT rfl rfl rfl (fun wq sq => aT (ht.ext sq) ModeI.len rfl iA rfl rfl rfl hy rfl ⟨rfl, Q7r _⟩) ?_
 refine dT rfl rfl rfl (fun wq sq => bK fU rfl ⟨rfl, Q7r _⟩) ?_
 refine dT rfl rfl rfl (fun wq sq => dQ (ht.ext sq) ModeI.len hy cY rfl rfl rfl ⟨rfl, Q7r _⟩) ?_
 refine rG rfl rfl rfl (fun wq sq => qS rfl rfl ⟨rfl, Q7r _⟩) (fun h3 => absurd h3 (by simp)) (fun h3 => ?_)
 refine cE rfl (fun wq sq => aJ rfl rfl ⟨rfl, Q7r _⟩) ?_
 refine cE rfl (fun wq sq => aC rfl ⟨rfl, Q7r _⟩) ?_
 refine dT rfl rfl rfl (fun wq sq => aC rfl ⟨rfl, Q7r _⟩) ?_
 refine dT rfl rfl rfl (fun wq sq => aC rfl ⟨rfl, Q7r _⟩) ?_
 refine dT rfl rfl rfl (fun wq sq => aT (hs.ext sq) ModeI.len rfl iA rfl rfl rfl hx rfl ⟨rfl, Q7r _⟩) ?_
 refine dT rfl rfl rfl (fun wq sq => bK jD rfl ⟨rfl, Q7r _⟩) ?_
 refine dT rfl rfl rfl (fun wq sq => dQ (hs.ext sq) ModeI.len hx kQ rfl rfl rfl ⟨rfl, Q7r _⟩) ?_
 refine dT rfl rfl rfl (fun wq sq => aC rfl ⟨rfl, Q7r _⟩) ?_
 refine dT rfl rfl rfl (fun wq sq => aC rfl ⟨rfl, Q7r _⟩) ?_
 refine dT rfl rfl rfl (fun wq sq => aT (ht.ext sq) ModeI.len rfl iA rfl rfl rfl hy rfl ⟨rfl, Q7r _⟩) ?_
 refine dT rfl rfl rfl (fun wq sq => bK jD rfl ⟨rfl, Q7r _⟩) ?_
 refine dT rfl rfl rfl (fun wq sq => dQ (ht.ext sq) ModeI.len hy kQ rfl rfl rfl ⟨rfl, Q7r _⟩) ?_
 refine dT rfl rfl rfl (fun wq sq => aS aGq rfl (uL _ _ _ _ _ _ x.m.next _ ((hn.at_ hx).ext sq) ((hn2.at_ hy).ext sq) hlx)) ?_
 refine dT rfl rfl rfl (fun wq sq => cD rfl ⟨rfl, Q7r _⟩) ?_
 refine cE rfl (fun wq sq => aJ rfl rfl ⟨rfl, Q7r _⟩) ?_
 refine dW (fun w4 sq => ?_)
 have xq := sq
 replace hs := hs.ext xq
 replace hn := hn.ext xq
 replace ht := ht.ext xq
 replace hn2 := hn2.ext xq
 replace X := Q7x X xq; clear xq sq
 refine aB ?_
 refine aL rfl ?_
 refine aU ?_
 refine dJ ?_
 refine aP ?_
 refine aM ?_
 refine aA rfl (aC rfl ?_)
 refine aA rfl (aZ rfl rfl (dR (by omega)) ?_)
 refine aA rfl (aD rfl ?_)
 refine aB ?_
 refine aP ⟨k + 1, (.cons rfl (.cons rfl (.cons rfl (.nil _)))), ?_, ?_⟩
 · exact ⟨by omega, hs, hn, ht, hn2, X⟩
 · first | omega | (dsimp only; omega)
 refine aB ?_
 refine aL rfl ?_
 refine dC ?_
 refine dB ?_
 refine dB ?_
 refine eA ?_
 refine aP ?_
 refine aE ?_
 refine aA rfl (aD rfl ?_)
 refine aB ?_
 refine aV ?_
 refine aK rfl rfl ?_
 exact ⟨by rfl, X⟩
theorem aBA (m : MedlI) (B B2 : Nat) (A2 : Option Addr) (c2 : Nat) (A3 : Option Addr) (ms2 : List ModeI) (c3 : Nat) (A4 : Option Addr) (c4 : Nat) (w : World) (hm : Med B w m) (h2 : Med B2 w (⟨m.id, A2, m.ns, c2, A3, ms2, c3, A4, m.ss, c4⟩ : MedlI)) (em : ms2.map (·.m) = m.ms.map (·.m)) (hz : m.small) :
   Calls Tryz.prog 19 #[.agg m.cells.toArray, .agg (⟨m.id, A2, m.ns, c2, A3, ms2, c3, A4, m.ss, c4⟩ : MedlI).cells.toArray] w (fD fun v w' => v = .bool true ∧ Ext w w') := by
 have hls := hz.ls
 have hlm := hz.lm
 have hln := hz.ln
 have Bhm := hm.1
 have Bh2 := h2.1
 have X := Q7r w
 refine bI (args := [.agg m.cells.toArray, .agg (⟨m.id, A2, m.ns, c2, A3, ms2, c3, A4, m.ss, c4⟩ : MedlI).cells.toArray]) Tryz.func19 Tryz.ntmps19 rfl rfl ?_
 refine aE ?_
 refine aA rfl (eE rfl rfl ?_)
 intro gM w2 egM b0 x1 zgM
 have lgM : w.heap.size ≤ gM := Q7l X.size (Q7e egM.symm)
 have pgMhm := Q7l hm.1 (Q7e egM.symm)
 have pgMh2 := Q7l h2.1 (Q7e egM.symm)
 replace hm := hm.ext x1
 replace h2 := h2.ext x1
 replace X := Q7x X x1
 refine aA rfl (eE rfl rfl ?_)
 intro g2 w4 eg2 b1 x3 zg2
 have lg2 : w.heap.size ≤ g2 := Q7l X.size (Q7e eg2.symm)
 have pg2hm := Q7l hm.1 (Q7e eg2.symm)
 have pg2h2 := Q7l h2.1 (Q7e eg2.symm)
 have ng2b0 := Nat.lt_of_lt_of_eq b0.lt eg2.symm
 replace hm := hm.ext x3
 replace h2 := h2.ext x3
 replace b0 := b0.ext x3
 replace X := Q7x X x3
 refine aA rfl (aD rfl ?_)
 refine aB ?_
 refine aE ?_
 refine aA rfl (aF mA rfl rfl ?_)
 refine aA rfl (aI b0 cY rfl rfl ?_)
 refine aA rfl (aF mA rfl rfl ?_)
 refine aA rfl (aI b1 cY rfl rfl ?_)
 refine aA rfl (dK rfl rfl (fun h5 => ?_) (fun h5 => absurd h5 (by simp)))
 refine aA rfl (aC rfl ?_)
 refine aH rfl rfl rfl (aF kP rfl rfl ?_)
 refine aH rfl rfl rfl (aI b0 vV rfl rfl ?_)
 refine aH rfl rfl rfl (aF kP rfl rfl ?_)
 refine aH rfl rfl rfl (aI b1 vV rfl rfl ?_)
 refine aH rfl rfl rfl (aS aKq rfl (aO (aCA _ _ _ _ _ _ m.ns _ hm.sn h2.sn hln) ?_))
 rintro _ w7 ⟨rfl, x6⟩
 replace hm := hm.ext x6
 replace h2 := h2.ext x6
 replace b0 := b0.ext x6
 replace b1 := b1.ext x6
 replace X := Q7x X x6
 refine aA rfl (aJ rfl rfl ?_)
 refine aA rfl (aC rfl ?_)
 refine aH rfl rfl rfl (aF fO rfl rfl ?_)
 refine aH rfl rfl rfl (aI b0 mK rfl rfl ?_)
 refine aH rfl rfl rfl (aF fO rfl rfl ?_)
 refine aH rfl rfl rfl (aI b1 mK rfl rfl ?_)
 refine aH rfl rfl rfl (aS aKr rfl (aO (aCC _ _ _ _ _ _ _ _ m.ms ms2 _ hm.sm hm.sx h2.sm h2.sx em.symm hlm hz.lx) ?_))
 rintro _ w9 ⟨rfl, x8⟩
 replace hm := hm.ext x8
 replace h2 := h2.ext x8
 replace b0 := b0.ext x8
 replace b1 := b1.ext x8
 replace X := Q7x X x8
 refine aA rfl (aJ rfl rfl ?_)
 refine aA rfl (aC rfl ?_)
 refine aH rfl rfl rfl (aF dU rfl rfl ?_)
 refine aH rfl rfl rfl (aI b0 iF rfl rfl ?_)
 refine aH rfl rfl rfl (aF dU rfl rfl ?_)
 refine aH rfl rfl rfl (aI b1 iF rfl rfl ?_)
 refine aH rfl rfl rfl (aS aKs rfl (aO (aCB _ _ _ _ _ _ m.ss _ hm.ss h2.ss hls) ?_))
 rintro _ w11 ⟨rfl, x10⟩
 replace hm := hm.ext x10
 replace h2 := h2.ext x10
 replace b0 := b0.ext x10
 replace b1 := b1.ext x10
 replace X := Q7x X x10
 refine aA rfl (aJ rfl rfl ?_)
 refine aA rfl (aD rfl ?_)
 refine aB ?_
 refine aV ?_
 refine aK rfl rfl ?_
 exact ⟨by rfl, X⟩
theorem sE (m m2 : MedlI) (B B2 : Nat) (w : World) (hm : Med B w m) (h2 : Med B2 w m2) (e : m2.d = m.d) (hz : m.small) :
   Calls Tryz.prog 19 #[.agg m.cells.toArray, .agg m2.cells.toArray] w (fD fun v w' => v = .bool true ∧ Ext w w') := by
 obtain ⟨id2, An2, ns2, cn2, Am2, ms2, cm2, As2, ss2, cs2⟩ := m2
 simp only [MedlI.d, MedlD.mk.injEq] at e
 obtain ⟨rfl, rfl, e3, rfl⟩ := e
 exact aBA m B B2 An2 cn2 Am2 ms2 cm2 As2 cs2 w hm h2 e3 hz
theorem jS (p l : List Int) (i : Nat) : (p ++ l).getD (p.length + i) 0 = l.getD i 0 := by
 rw [List.getD_eq_getElem?_getD, List.getD_eq_getElem?_getD, List.getElem?_append_right (by omega), show p.length + i - p.length = i by omega]
theorem aAT (x : SlotI) : (jK x).length = 7 := by simp [jK, pI]
theorem aCD {p q : List Int} {x : SlotI} (h : fT x = true) : aAC (p ++ (jK x ++ q)) p.length = x ∧ vAt (p ++ (jK x ++ q)) (p.length + 2) = true := by
 obtain ⟨h1, h2, h3, h4⟩ := sQ h
 obtain ⟨h5, h6, h7, h8⟩ := sP h4
 obtain ⟨mo, ro, sl, ⟨no, ki, si, du, ch⟩⟩ := x
 simp only at h1 h2 h3 h5 h6 h7 h8
 have e0 := jS p (jK ⟨mo, ro, sl, ⟨no, ki, si, du, ch⟩⟩ ++ q) 0
 have e1 := jS p (jK ⟨mo, ro, sl, ⟨no, ki, si, du, ch⟩⟩ ++ q) 1
 have e2 := jS p (jK ⟨mo, ro, sl, ⟨no, ki, si, du, ch⟩⟩ ++ q) 2
 have e3 := jS p (jK ⟨mo, ro, sl, ⟨no, ki, si, du, ch⟩⟩ ++ q) 3
 have e4 := jS p (jK ⟨mo, ro, sl, ⟨no, ki, si, du, ch⟩⟩ ++ q) 4
 have e5 := jS p (jK ⟨mo, ro, sl, ⟨no, ki, si, du, ch⟩⟩ ++ q) 5
 have e6 := jS p (jK ⟨mo, ro, sl, ⟨no, ki, si, du, ch⟩⟩ ++ q) 6
 generalize hL : p ++ (jK ⟨mo, ro, sl, ⟨no, ki, si, du, ch⟩⟩ ++ q) = L at *
 simp only [jK, pI, List.cons_append, List.nil_append, List.getD_cons_zero, List.getD_cons_succ, Nat.add_zero] at e0 e1 e2 e3 e4 e5 e6
 have hd : dAt L (p.length + 2) = ⟨no, ki, si, du, ch⟩ := by
   unfold dAt yQ
   rw [e2, show p.length + 2 + 1 = p.length + 3 from rfl, e3, show p.length + 2 + 2 = p.length + 4 from rfl, e4, show p.length + 2 + 3 = p.length + 5 from rfl, e5, show p.length + 2 + 4 = p.length + 6 from rfl, e6]
   rw [show (ki * 64 + si) / 64 = ki by omega, show (ki * 64 + si) % 64 = si by omega, show 256 * (du / 256) + du % 256 = du by omega]
   cases ch <;> simp
 refine ⟨?_, ?_⟩
 · unfold aAC
   rw [hd, e0, e1, show (mo * 16 + ro) / 16 = mo by omega, show (mo * 16 + ro) % 16 = ro by omega]
 · have e : vAt L (p.length + 2) = (fI (dAt L (p.length + 2)) && decide (L.getD (p.length + 2 + 4) 0 ≤ 1)) := rfl
   rw [e, hd, h4, show p.length + 2 + 4 = p.length + 6 from rfl, e6]
   cases ch <;> simp
theorem aAU : ∀ (xs : List SlotI) (p q : List Int), (∀ x ∈ xs, fT x = true) → pU (p ++ (xs.flatMap jK ++ q)) xs.length p.length = some xs
 | [], p, q, _ => rfl
 | x :: r, p, q, h => by
   have h1 := aCD (p := p) (q := r.flatMap jK ++ q) (h x (by simp))
   have h2 := aAU r (p ++ jK x) q fun y hy => h y (by simp [hy])
   have e : p ++ jK x ++ (r.flatMap jK ++ q) = p ++ (jK x ++ (r.flatMap jK ++ q)) := by simp
   rw [e, List.length_append, aAT] at h2
   rw [List.flatMap_cons, List.append_assoc, List.length_cons, pU, if_pos ⟨by simp [aAT], h1.2⟩, h2, h1.1]; rfl
theorem aIH (xs : List SlotI) : vI xs = (xs.length : Int) :: xs.flatMap jK := by unfold vI stP; rw [List.take_length]
theorem aGk {xs : List SlotI} (h : gR xs = true) (q : List Int) : kB (vI xs ++ q) = some xs := by
 have hok : ∀ x ∈ xs, fT x = true := fun x hx => by
   obtain ⟨k, hk⟩ := List.mem_iff_getElem?.1 hx
   exact aBG h hk
 have h1 := aAU xs [(xs.length : Int)] q hok
 have e : vI xs ++ q = [(xs.length : Int)] ++ (xs.flatMap jK ++ q) := by rw [aIH]; rfl
 refine aB8 (by rw [e]; simp) ?_ h
 rw [e]
 simpa using h1
theorem vS (p l : List Int) (i : Nat) : (p ++ l).getD (p.length + i) 0 = l.getD i 0 := by
 rw [List.getD_eq_getElem?_getD, List.getD_eq_getElem?_getD, List.getElem?_append_right (by omega), show p.length + i - p.length = i by omega]
theorem vT (x : Mode) : (hX x).length = 3 + x.next.length := by simp [hX]; omega
theorem aAV : ∀ (ms : List Mode) (p q : List Int), mF (p ++ (ms.flatMap hX ++ q)) ms.length p.length = some (ms, p.length + (ms.flatMap hX).length)
 | [], p, q => by simp [mF]
 | x :: r, p, q => by
   have h2 := aAV r (p ++ hX x) q
   have e : p ++ hX x ++ (r.flatMap hX ++ q) = p ++ (hX x ++ (r.flatMap hX ++ q)) := by simp
   rw [e, List.length_append, vT] at h2
   rw [List.flatMap_cons, List.append_assoc, List.length_cons, List.length_append, vT]
   have e0 := vS p (hX x ++ (r.flatMap hX ++ q)) 0
   have e1 := vS p (hX x ++ (r.flatMap hX ++ q)) 1
   have e2 := vS p (hX x ++ (r.flatMap hX ++ q)) 2
   have hdt : ((p ++ (hX x ++ (r.flatMap hX ++ q))).drop (p.length + 3)).take x.next.length = x.next := by
     rw [List.drop_append, List.drop_of_length_le (by omega), List.nil_append, show p.length + 3 - p.length = 3 by omega]
     simp [hX]
   have hlen : (p ++ (hX x ++ (r.flatMap hX ++ q))).length = p.length + (3 + x.next.length + (r.flatMap hX ++ q).length) := by rw [List.length_append, List.length_append, vT]
   generalize p ++ (hX x ++ (r.flatMap hX ++ q)) = L at *
   simp only [hX, List.cons_append, List.nil_append, List.getD_cons_zero, List.getD_cons_succ, Nat.add_zero] at e0 e1 e2
   rw [mF, e0, e1, e2, Int.toNat_natCast, if_pos ⟨by omega, by omega⟩, hdt, show p.length + 3 + x.next.length = p.length + (3 + x.next.length) by omega, h2]
   simp only [Option.map_some, Option.some.injEq, Prod.mk.injEq, true_and]
   omega
theorem aDG (ms : List Mode) : mV ms ms.length = (ms.length : Int) :: ms.flatMap hX := by unfold mV; rw [List.take_length]
theorem aGl {ms : List Mode} (h : jH ms = true) (q : List Int) : pT (mV ms ms.length ++ q) = some (ms, (mV ms ms.length).length) := by
 have h1 := aAV ms [(ms.length : Int)] q
 have e : mV ms ms.length ++ q = [(ms.length : Int)] ++ (ms.flatMap hX ++ q) := by rw [aDG]; rfl
 have e2 : (mV ms ms.length).length = 1 + (ms.flatMap hX).length := by rw [aDG]; simp; omega
 rw [e2]
 refine aB5 (by rw [e]; simp) ?_ h
 rw [e]
 simpa using h1
theorem aKc (b : UInt8) : ((b.toNat : Int)).toNat.toUInt8 = b := by rw [Int.toNat_natCast]; simp
theorem aE7 (x : NodeI) : aAs (nE x) = x.name := by
 apply aDl
 rw [vP, nE, List.map_map]
 have e : ((fun x : Int => x.toNat.toUInt8) ∘ fun b : UInt8 => (b.toNat : Int)) = id := by funext b; exact aKc b
 rw [e, List.map_id]
theorem vU (x : NodeI) : (gW x).length = 5 + x.name.size := by rw [gW, List.length_append, kL]; rfl
theorem aAW : ∀ (ns : List NodeI) (p q : List Int), (∀ x ∈ ns, eL x = true) → nH (p ++ (ns.flatMap gW ++ q)) ns.length p.length = some (ns, p.length + (ns.flatMap gW).length)
 | [], p, q, _ => by simp [nH]
 | x :: r, p, q, h => by
   have h2 := aAW r (p ++ gW x) q fun y hy => h y (by simp [hy])
   have e : p ++ gW x ++ (r.flatMap gW ++ q) = p ++ (gW x ++ (r.flatMap gW ++ q)) := by simp
   rw [e, List.length_append, vU] at h2
   rw [List.flatMap_cons, List.append_assoc, List.length_cons, List.length_append, vU]
   have hi := mN (h x (by simp))
   have e0 := jS p (gW x ++ (r.flatMap gW ++ q)) 0
   have e1 := jS p (gW x ++ (r.flatMap gW ++ q)) 1
   have e2 := jS p (gW x ++ (r.flatMap gW ++ q)) 2
   have e3 := jS p (gW x ++ (r.flatMap gW ++ q)) 3
   have e4 := jS p (gW x ++ (r.flatMap gW ++ q)) 4
   have hdt : ((p ++ (gW x ++ (r.flatMap gW ++ q))).drop (p.length + 5)).take x.name.size = nE x := by
     rw [List.drop_append, List.drop_of_length_le (by omega), List.nil_append, show p.length + 5 - p.length = 5 by omega, ← kL]
     simp [gW, nF]
   have hlen : (p ++ (gW x ++ (r.flatMap gW ++ q))).length = p.length + (5 + x.name.size + (r.flatMap gW ++ q).length) := by rw [List.length_append, List.length_append, vU]
   generalize p ++ (gW x ++ (r.flatMap gW ++ q)) = L at *
   simp only [gW, nF, List.cons_append, List.nil_append, List.getD_cons_zero, List.getD_cons_succ, Nat.add_zero] at e0 e1 e2 e3 e4
   have hnm : nmL L p.length = x.name.size := by unfold nmL; rw [e4]; exact Int.toNat_natCast _
   have hnE : wO L p.length = x := by
     unfold wO
     rw [e0, e1, e2, e3, e4, Int.toNat_natCast, hdt, aE7, show 256 * (x.drift / 256) + x.drift % 256 = x.drift by omega]
     obtain ⟨a, b, c, d⟩ := x
     cases d <;> simp
   rw [nH, hnm, if_pos ⟨by omega, by omega⟩, hnE, show p.length + 5 + x.name.size = p.length + (5 + x.name.size) by omega, h2]
   simp only [Option.map_some, Option.some.injEq, Prod.mk.injEq, true_and]
   omega
theorem aDH (ns : List NodeI) : mW ns = (ns.length : Int) :: ns.flatMap gW := by unfold mW ntP; rw [List.take_length]
theorem aGm {ns : List NodeI} (h : dV ns = true) (q : List Int) : lW (mW ns ++ q) = some (ns, (mW ns).length) := by
 have h1 := aAW ns [(ns.length : Int)] q (kX h)
 have e : mW ns ++ q = [(ns.length : Int)] ++ (ns.flatMap gW ++ q) := by rw [aDH]; rfl
 have e2 : (mW ns).length = 1 + (ns.flatMap gW).length := by rw [aDH]; simp; omega
 refine aCk (r := (ns, (mW ns).length)) (by rw [e]; simp) ?_ h ?_
 · rw [← e] at h1
   have e3 : (mW ns ++ q).getD 0 0 = (ns.length : Int) := by rw [e]; rfl
   rw [e3, Int.toNat_natCast, e2]; exact h1
 · exact List.take_left.symm
theorem aCE {d : MedlD} (h : iY d = true) : jM (fR d) = (d, 0) := by
 have wf := kK.1 h
 have hid := eD.1 wf.id
 have e : fR d = idB d.id ++ (mW d.ns ++ (mV d.ms d.ms.length ++ vI d.ss)) := by unfold fR; simp [List.append_assoc]
 have h3 : ¬ (fR d).length < 3 := by
   rw [e, List.length_append]
   have : (idB d.id).length = 3 := rfl
   omega
 have hd3 : (fR d).drop 3 = mW d.ns ++ (mV d.ms d.ms.length ++ vI d.ss) := by rw [e]; rfl
 have hdn : ((fR d).drop 3).drop (mW d.ns).length = mV d.ms d.ms.length ++ vI d.ss := by rw [hd3, List.drop_left]
 have hdm : (((fR d).drop 3).drop (mW d.ns).length).drop (mV d.ms d.ms.length).length = vI d.ss := by rw [hdn, List.drop_left]
 have hv : aE4 (fR d) = d.id := by
   rw [e]; unfold aE4
   show d.id / 65536 * 65536 + d.id / 256 % 256 * 256 + d.id % 256 = d.id
   omega
 have g1 : lW ((fR d).drop 3) = some (d.ns, (mW d.ns).length) := by rw [hd3]; exact aGm wf.nt _
 have g2 : pT (((fR d).drop 3).drop (mW d.ns).length) = some (d.ms, (mV d.ms d.ms.length).length) := by rw [hdn]; exact aGl wf.mt _
 have g3 : kB ((((fR d).drop 3).drop (mW d.ns).length).drop (mV d.ms d.ms.length).length) = some d.ss := by
   rw [hdm]; have := aGk wf.st []; rwa [List.append_nil] at this
 have g4 : 1 + 7 * d.ss.length = ((((fR d).drop 3).drop (mW d.ns).length).drop (mV d.ms d.ms.length).length).length := by rw [hdm]; exact (uS (Nat.le_refl _)).symm
 have hO := zI (n := (d.ns, (mW d.ns).length)) (r := (d.ms, (mV d.ms d.ms.length).length)) g1 g2 g3 g4
 rw [hv] at hO
 exact aDC h3 hO h
theorem aEm {d : MedlD} (h : iY d = true) (hl : (fR d).length ≤ 868) : rL (uE (fR d)) = true := by
 have hb := aHp (xY h) hl
 have h1 := xP (fR d)
 have h2 : nB (fR d).length ≤ 31 := by unfold nB; split <;> omega
 simp only [rL, Bool.and_eq_true, decide_eq_true_eq]
 exact ⟨by omega, List.all_eq_true.2 fun x hx => eD.2 (hb x hx)⟩
theorem aCF {d : MedlD} (h : iY d = true) (hl : (fR d).length ≤ 868) : aAv (uE (fR d)) = (d, 0) := by
 have e : iZ (uE (fR d)) = (fR d, 0) := by rw [iZ, if_pos (aEm h hl), aEH hl]
 rw [aAv, e, if_neg (by simp)]; exact aCE h
theorem aEn {d : MedlD} (h : iY d = true) (hl : (fR d).length ≤ 868) : mI (uE (fR d)) = (d.id, 0) := by
 have hid := eD.1 (kK.1 h).id
 have hlen := pX (fR d) 0
 have e : ∃ R, fR d = d.id / 65536 :: d.id / 256 % 256 :: d.id % 256 :: R := ⟨mW d.ns ++ (mV d.ms d.ms.length ++ vI d.ss), by unfold fR; simp [List.append_assoc, idB]⟩
 obtain ⟨R, eR⟩ := e
 have hL : 3 ≤ (fR d).length := by rw [eR]; simp
 have e2 : ∃ y T, jB (fR d) 0 = 0 :: y :: d.id / 65536 :: d.id / 256 % 256 :: d.id % 256 :: T := by
   unfold jB iW gK
   rw [eR]
   exact ⟨_, _, rfl⟩
 obtain ⟨y, T, e3⟩ := e2
 rw [mI, if_pos (aEm h hl), aEb, if_neg (by decide), aDf _ (yV _)]
 rw [e3] at hlen ⊢
 rw [if_neg (by rw [hlen]; simp only [List.getD_cons_zero]; omega)]
 have hv : idV (0 :: y :: d.id / 65536 :: d.id / 256 % 256 :: d.id % 256 :: T) = d.id := by
   show d.id / 65536 * 65536 + d.id / 256 % 256 * 256 + d.id % 256 = d.id
   omega
 rw [hv, if_neg (by omega)]
theorem aEo {d : MedlD} (h : iY d = true) {a b : Nat} (hn : d.ns.length ≤ a) (hm : d.ms.length ≤ b) (hx : ∀ x ∈ d.ms, x.next.length ≤ 5) (hab : 11 * a + 8 * b ≤ 177) : rL (fR d) = true := by
 have wf := kK.1 h
 have h1 := vL d.ns fun x hx => lL (kX wf.nt x hx)
 have h2 := aBj (f := hX) (b := 8) d.ms fun x hx2 => by have := hx x hx2; simp [hX]; omega
 have h3 : (vI d.ss).length = 1 + 7 * d.ss.length := uS (Nat.le_refl _)
 have h4 := mT wf.st
 have e1 : (mW d.ns).length = 1 + (d.ns.flatMap gW).length := by rw [aDH]; simp; omega
 have e2 : (mV d.ms d.ms.length).length = 1 + (d.ms.flatMap hX).length := by rw [aDG]; simp; omega
 have hl : (fR d).length ≤ 1024 := by
   unfold fR
   rw [List.length_append, List.length_append, List.length_append]
   simp only [idB, List.length_cons, List.length_nil]
   have h5 : 11 * d.ns.length ≤ 11 * a := Nat.mul_le_mul_left _ hn
   have h6 : 8 * d.ms.length ≤ 8 * b := Nat.mul_le_mul_left _ hm
   omega
 have hb := xY h
 simp only [rL, Bool.and_eq_true, decide_eq_true_eq]
 exact ⟨by omega, List.all_eq_true.2 fun x hx => eD.2 (hb x hx)⟩
end Go.Proofs.YtdoibplhbdkapaaGreatDoor
namespace Go.Proofs.YtdoibplhbdkapaaGreatDoor
open Go.RowKit
open Go.ChangeShapes Go.WideShapes Go.ChangeAt Go.RowKit
set_option linter.unusedVariables false
set_option linter.unusedSimpArgs false
theorem tW {H : Type} {enc : TypeId × Value → H} {P : Program} (hl : laidOutB P = true) {W W' : World} (hb : Ext W W') : ∀ (ts : List TypeId) (vs : List Value) (ds : List (DataW H)) (ps : List MemPlace),
   ts.all (fun t => P.readableRec t && decide (t < P.types.size)) = true → DataW.TrodAll enc P W 0 (fun _ => true) true ts vs ds ps → (∀ x ∈ ps, x.block < W.heap.size) →
   DataW.TrodAll enc P W' 0 (fun b => decide (b < W.heap.size)) true ts vs ds ps
 | [], vs, ds, ps, _, h, _ => by
   obtain ⟨rfl, rfl, rfl⟩ := trodAll_nil h
   exact trodAll_mk0
 | t :: ts, vs, ds, ps, ht, h, hlt => by
   obtain ⟨v, vs', d, ds', p, q, rfl, rfl, rfl, h1, h2⟩ := trodAll_cons h
   simp only [List.all_cons, Bool.and_eq_true, decide_eq_true_eq] at ht
   exact trodAll_cons_mk (Below.trod hl ht.1.1 ht.1.2 h1 hb (fun x hx => hlt x (by simp [hx]))) (tW hl hb ts vs' ds' q ht.2 h2 (fun x hx => hlt x (by simp [hx])))
theorem law_post {H : Type} {enc : TypeId × Value → H} {P : Program} {f : Func} {s : ChangeSpec} {W W' : World} {args : Array Value} {ds gs : List (DataW H)} {before : List MemPlace} {tb : TypeId}
   (hl : laidOutB P = true) (hpar : f.params.toList.all (fun t => P.readableRec t && decide (t < P.types.size)) = true) (hvars : s.vars = []) (hres : f.resultTypes = #[tb]) (htb : P.underlying tb = some .bool)
   (hW : DataW.Whole enc P f.params.toList s.vars false W args.toList ds gs before) (hspec : s.fn H (ds ++ gs) = { results := [.lit (.bool true)], args := ds }) (hb : Ext W W') :
   s.post enc P f false true false false W args (.bool true) W' := by
 have hlt : ∀ x ∈ before, x.block < W.heap.size := fun x hx => hW.lt x hx
 have hW' := hW
 obtain ⟨p, q, hA, hV, rfl, hfz, hnd⟩ := hW
 refine ⟨ds, gs, p ++ q, [], p, [], hW', ?_, ?_, ?_, Below.frame hb _, fun h => by cases h⟩
 · rw [hspec, hres]
   exact trodAll_cons_mk (shut_bool htb true) trodAll_mk0
 · rw [hspec]
   exact tW hl hb _ _ _ _ hpar hA (fun x hx => hlt x (by simp [hx]))
 · rw [hspec, hvars]
   rfl
section
variable {H : Type} {enc : TypeId × Value → H} {P : Program} {W : World} {sp : Nat → Bool}
theorem wU {α : Type} {Q : Nat → α → Prop} : ∀ n, (∀ i, i < n → ∃ y, Q i y) → ∃ xs : List α, xs.length = n ∧ ∀ (i : Nat) (y : α), xs[i]? = some y → Q i y
 | 0, _ => ⟨[], rfl, by simp⟩
 | n + 1, h => by
   obtain ⟨xs, hl, hq⟩ := wU n (fun i hi => h i (by omega))
   obtain ⟨y, hy⟩ := h n (by omega)
   refine ⟨xs ++ [y], by simp [hl], fun i z hz => ?_⟩
   by_cases hi : i < n
   · rw [List.getElem?_append_left (by omega)] at hz
     exact hq i z hz
   · have hin : i = n := by
       have := (List.getElem?_eq_some_iff.1 hz).1
       simp [hl] at this; omega
     subst hin
     rw [List.getElem?_append_right (by omega)] at hz
     simp [hl] at hz
     subst hz
     exact hy
theorem aHF {t e : TypeId} {s : Nat} {α : Type} {en : α → List Value} {ok : α → Prop} {fuel : Nat} {v : Value} {x : DataW H × List MemPlace} (ht : P.underlying t = some (.slice e)) (hs : P.cellsOf e = s) (he : ∀ y, (en y).length = s) (h0 : 0 < s)
   (ho : ∀ n cs x, DataW.trod enc P W 0 sp true n e cs = some x → ∃ y, cs = en y ∧ ok y) (h : DataW.trod enc P W 0 sp true fuel t [v] = some x) :
   ∃ (A : Option Addr) (xs : List α) (c : Nat), v = .slice A xs.length c ∧ Sl W.heap.size W A (xs.flatMap en) ∧ (∀ y ∈ xs, ok y) ∧ xs.length ≤ 9223372036854775807 := by
 rcases DataW.trod_slice ht h with ⟨hv, _⟩ | ⟨a, len, cap, elems, rest, n, _, hv, _, _, hlc, hcm, hel, hg, _⟩
 · have hv : v = .slice none 0 0 := by simpa using hv
   exact ⟨none, [], 0, hv, Sl.nil_ (Nat.le_refl _) _, by simp, by simp⟩
 · have hv : v = .slice (some a) len cap := by simpa using hv
   obtain ⟨xs, hl, hq⟩ := wU (Q := fun i y => ok y ∧ ∀ (j : Nat) (u : Value), (en y)[j]? = some u → W.cell? (a.add (i * s + j)) = some u) len (fun i hi => by
     have h1 := hg i hi
     have hil : i < elems.length := by omega
     rw [List.getElem?_eq_getElem hil, Option.bind_eq_some_iff] at h1
     obtain ⟨cs, hc, htr⟩ := h1
     obtain ⟨y, rfl, hy⟩ := ho _ _ _ htr
     rw [hs] at hc
     obtain ⟨_, hcl, hat⟩ := World.cells?_some hc
     refine ⟨y, hy, fun j u hj => ?_⟩
     have hjl : j < s := by rw [← he y]; exact (List.getElem?_eq_some_iff.1 hj).1
     rw [← kE, hat j hjl, hj])
   refine ⟨some a, xs, cap, by rw [hl]; exact hv, ⟨Nat.le_refl _, fun m u hm => ?_⟩, fun y hy => ?_, ?_⟩
   · obtain ⟨j, y, i, rfl, hi, hj, hu⟩ := aE0 he xs m u hm h0
     have hc := (hq j y hj).2 i u hu
     exact ⟨rfl, by have := World.block_lt_of_cell? W _ hc; rwa [jL] at this, hc⟩
   · obtain ⟨i, hi, rfl⟩ := List.mem_iff_getElem.1 hy
     exact (hq i _ (List.getElem?_eq_getElem hi)).1
   · have : cap ≤ maxLen := hcm
     unfold maxLen at this
     omega
def aBB (z : Int) : Prop := -9223372036854775808 ≤ z ∧ z ≤ 9223372036854775807
theorem aHG {t : TypeId} {fuel : Nat} {cs : List Value} {x : DataW H × List MemPlace} (ht : P.underlying t = some (.int .u8)) (h : DataW.trod enc P W 0 sp true fuel t cs = some x) : ∃ b : UInt8, cs = eB b ∧ True := by
 obtain ⟨z, hz, _, hw⟩ := DataW.trod_int ht h
 have : 0 ≤ z ∧ z ≤ 255 := by simpa [Lit.wf, IntKind.min, IntKind.max, IntKind.signed, IntKind.bits] using hw
 refine ⟨UInt8.ofNat z.toNat, ?_, trivial⟩
 rw [hz, eB]
 congr 2
 simp
 omega
theorem aHH {t : TypeId} {v : Value} {d : DataW H} {p : List MemPlace} (hc : v.cells = #[v]) (h : DataW.Trod enc P W 0 sp true t v d p) : ∃ n x, DataW.trod enc P W 0 sp true n t [v] = some x := by
 obtain ⟨n, hn⟩ := h
 exact ⟨n, _, by simpa [hc] using hn⟩
end
end Go.Proofs.YtdoibplhbdkapaaGreatDoor
namespace Go.Proofs.YtdoibplhbdkapaaGreatDoor
open Go.ChangeShapes Go.WideShapes Go.ChangeAt Go.RowKit
set_option linter.unusedVariables false
set_option linter.unusedSimpArgs false
set_option maxRecDepth 100000
def Desc.ok (d : Desc) : Prop := aBB d.node ∧ aBB d.kind ∧ aBB d.size ∧ aBB d.duration
def SlotI.ok (d : SlotI) : Prop := aBB d.mode ∧ aBB d.round ∧ aBB d.slot ∧ Desc.ok d.desc
def NodeI.ok (d : NodeI) : Prop := aBB d.id ∧ d.name.size ≤ 9223372036854775807 ∧ aBB d.drift
theorem law_own : ownKnob Tryz.prog.godebug = none := by kernel_rfl
theorem law_laid : laidOutB Tryz.prog = true := by kernel_rfl
theorem law_main : Tryz.pinned.checked.prog.mainIs = some (true, "9d3b8bcd3f057db7ce87d49064bbf274986517e6a2e4614acdb81aa3eaa2e189".toList) := by kernel_rfl
theorem law_looks : false = Tryz.prog.looks [] := by kernel_rfl
end Go.Proofs.YtdoibplhbdkapaaGreatDoor
