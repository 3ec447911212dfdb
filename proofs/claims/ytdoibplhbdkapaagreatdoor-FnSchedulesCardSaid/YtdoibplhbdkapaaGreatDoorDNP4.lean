/- Parts. No condition. -/
import Derived.Test.YtdoibplhbdkapaaGreatDoorDNP3
import Derived.Laws.StructEq
import Derived.Lib.SlTrimSet
namespace Go.Proofs.YtdoibplhbdkapaaGreatDoor
open Go.RowKit
set_option linter.unusedVariables false
set_option linter.unusedSimpArgs false
theorem eF : ∀ (xs : List Int), ∀ u ∈ xs.flatMap eI, u.oneCell' = true := fun xs u hu => by
 obtain ⟨x, _, h⟩ := List.mem_flatMap.1 hu
 have : u = .int .i64 x := by simpa [eI] using h
 subst this; rfl
section
variable {P : Program} {e : List (Nat × Value)} {ty : TypeId} {w : World} {K : Value → World → Prop} {x y : Operand} {t el : TypeId} {s b : Nat} {z : List Value} {a : Bool}
theorem pB {ts : Array TypeId} {lo B n c n' c' : Nat} {A A' : Option Addr} {cs ds : List Value} (hown : Own w lo el s A n c cs) (hlo : lo ≤ w.heap.size) (hsrc : Sl B w A' ds) (hdl : ds.length = n' * s) (hd1 : ∀ u ∈ ds, u.oneCell' = true)
   (ht : xM P t = some (el, s)) (hi : nI P el = some (a, s, b, z)) (hzl : Nat.beq z.length s = true) (h0 : Nat.blt 0 s = true) (hx : fF e x = some (.slice A n c)) (hy : fF e y = some (.slice A' n' c'))
   (hb : (n + n') * b ≤ 140737488355328) (hm : n + n' ≤ 9223372036854775807)
   (h : ∀ A1 c1 w', Own w' lo el s A1 (n + n') c1 (cs ++ ds) → w.grownBy w' ((Value.slice A n c).ownBlock) → ((Value.slice A1 (n + n') c1).ownBlock = (Value.slice A n c).ownBlock ∨ (Value.slice A1 (n + n') c1).ownBlock = some w.heap.size) → K (.slice A1 (n + n') c1) w') : OpWp P e (.call ⟨.builtin .append, #[x, y], #[t, t]⟩) ty w K := fun ρ d p af g hρ => by
 have g1 := hρ _ _ hx; have g2 := hρ _ _ hy
 obtain ⟨ti, hu, hti, hts⟩ := nX ht
 obtain ⟨d', i', zv, hd, hi', hz, ha, hs, hb', hzv⟩ := kC hi
 obtain rfl : ti = i' := by rw [hti] at hi'; injection hi'
 have hzl' : z.length = s := Nat.eq_of_beq_eq_true hzl
 have h0' : 0 < s := by simpa using h0
 have hzc : zv.cells.size = s := by rw [← hzl', ← hzv]; simp
 have hfin : ∃ v' w', (Builtin.append_ #[t, t] ty #[.slice A n c, .slice A' n' c']).run P w = .ok v' w' ∧ w'.ownsRow lo el s v' (n + n') (cs ++ ds) ∧ w.grownBy w' ((Value.slice A n c).ownBlock) ∧ (v'.ownBlock = (Value.slice A n c).ownBlock ∨ v'.ownBlock = some w.heap.size) := by
   cases A' with
   | none =>
     have hds : ds = [] := by
       cases ds with
       | nil => rfl
       | cons u r => have := (hsrc.2 0 u rfl).1; simp at this
     subst hds
     have hn' : n' = 0 := by
       simp only [List.length_nil] at hdl
       rcases Nat.eq_zero_or_pos n' with h | h
       · exact h
       · have := Nat.mul_pos h h0'; omega
     subst hn'
     refine ⟨.slice A n c, w, ?_, by simpa using hown, ⟨rfl, rfl, rfl, Nat.le_refl _, fun _ _ _ => rfl⟩, .inl rfl⟩
     rcases hown.2 with ⟨h1, h2⟩ | ⟨g, cap, cur, h1, _, hg, hnc, _⟩
     · simp only [Value.slice.injEq] at h1
       obtain ⟨rfl, rfl, rfl⟩ := h1
       simp [Builtin.append_, run_underlying hu, sizeOf, typeInfo, hti, Builtin.lenOf, Builtin.firstCells]
     · simp only [Value.slice.injEq] at h1
       obtain ⟨rfl, _, rfl⟩ := h1
       simp [Builtin.append_, run_underlying hu, sizeOf, typeInfo, hti, Builtin.lenOf, Builtin.firstCells, hnc, storeCells]
   | some ad =>
     obtain ⟨v', w', hr, h2, h3, _, h9⟩ := run_append_own_at (P := P) w lo t ty el ti zv s b hu hti hz hts hb' hzc h0' (.slice A n c) n cs hown ad n' c' ds hdl (fun j u hj => (hsrc.2 j u hj).2.2) hd1 (by unfold maxLen; omega) hb hlo
     exact ⟨v', w', hr, h2, h3, h9⟩
 obtain ⟨v', w', hr, h2, h3, h9⟩ := hfin
 simp only [execOp, resolve, invoke, builtin, Sem.run_bind, Sem.run_pure, Result.andThen_ok, List.map_toArray, List.map_cons, List.map_nil, g1, g2, hr, upto]
 have hform : ∃ A1 c1, v' = .slice A1 (n + n') c1 := by
   rcases h2.2 with ⟨h4, h5⟩ | ⟨g, cap, cur, h4, _⟩
   · exact ⟨none, 0, by rw [h4, h5]⟩
   · exact ⟨_, _, h4⟩
 obtain ⟨A1, c1, rfl⟩ := hform
 exact h A1 c1 w' h2 h3 h9
theorem nL {b1 b1' b2 : Option Nat} {n : Nat} (h : ∀ g, b1 = some g → b2 ≠ some g) (hW : b1' = b1 ∨ b1' = some n) (hn : ∀ g, b2 = some g → g < n) : ∀ g, b1' = some g → b2 ≠ some g := fun g h1 h2 => by
 rcases hW with e | e
 · rw [e] at h1; exact h g h1 h2
 · rw [e] at h1; injection h1 with h1
   have := hn g h2; omega
end
section
variable {P : Program} {n : Nat} {ops : Array Oper} {I : World → Prop} {K : Act → World → Prop} {fuel : Nat} {listed listed' : Array Bool} {e : List (Nat × Value)} {w : World}
theorem jI (i : Nat) {dst : Option Tmp} {op : Op} {ty : TypeId} {pos : String} {af : Array Edge} {v : Value} {j d : Nat} {b : Bool} (hi : ops[i]? = some ⟨dst, op, ty, pos, af, some (j, b)⟩) (hs : Region.noSelect ops = true) (hd : hU n dst = true)
   (ht : rF ops ops.size listed i = true) (hl : listed.setIfInBounds i true = listed') (hj : (ops[j]?).bind (·.dst) = some d) (hb : lk e d = some (.bool b)) (hy : ∀ w, I w → OpWp P e op ty w fun u w' => u = v ∧ w' = w)
   (h : WE P n ops I K fuel listed' (jE e dst v) w) : WE P n ops I K (fuel + 1) listed e w := fun a ha => by
 simp only [rF, Bool.and_eq_true] at ht
 refine zW hi (Region.noSelect_spec hs) fuel listed a w (Region.free_spec hi ht.1) (by simpa using ht.2) (fun w hw => OpG.opX ha (by simp only [OpG, hj, hb]; rw [if_pos (by cases b <;> rfl)]; exact hy w hw)) ?_
 rw [hl]
 exact h _ (ha.put dst v hd)
theorem iV (i : Nat) {dst : Option Tmp} {op : Op} {ty : TypeId} {pos : String} {af : Array Edge} {j d : Nat} {b : Bool} {u0 : Value} (hi : ops[i]? = some ⟨dst, op, ty, pos, af, some (j, b)⟩) (hs : Region.noSelect ops = true) (hd : hU n dst = true)
   (ht : rF ops ops.size listed i = true) (hl : listed.setIfInBounds i true = listed') (hj : (ops[j]?).bind (·.dst) = some d) (hb : lk e d = some u0) (hu : yJ u0 b = false)
   (h : WE P n ops I K fuel listed' (jE e dst undef) w) : WE P n ops I K (fuel + 1) listed e w := fun a ha => by
 simp only [rF, Bool.and_eq_true] at ht
 refine zW (v := undef) hi (Region.noSelect_spec hs) fuel listed a w (Region.free_spec hi ht.1) (by simpa using ht.2) (fun w hw => OpG.opX ha (by simp only [OpG, hj, hb]; rw [if_neg (by rw [hu]; simp)]; first | trivial | exact ⟨rfl, rfl⟩ | simp)) ?_
 rw [hl]
 exact h _ (ha.put dst undef hd)
theorem aEs (i : Nat) {dst : Option Tmp} {op : Op} {ty : TypeId} {pos : String} {af : Array Edge} {j d : Nat} {b : Bool} (hi : ops[i]? = some ⟨dst, op, ty, pos, af, some (j, b)⟩) (hd : hU n dst = true)
   (hr : rdy ops ops.size listed = [i]) (hl : listed.setIfInBounds i true = listed') (hj : (ops[j]?).bind (·.dst) = some d) (hb : lk e d = some (.bool b)) (hI : I w) (hy : OpWp P e op ty w fun u w' => WE P n ops I K fuel listed' (jE e dst u) w') : WE P n ops I K (fuel + 1) listed e w := fun a ha => by
 refine ⟨hI, by rw [hr]; simp, fun k hk o ho => ?_⟩
 rw [hr] at hk
 obtain rfl : k = i := by simpa using hk
 obtain rfl : ⟨dst, op, ty, pos, af, some (j, b)⟩ = o := by rw [hi] at ho; injection ho
 refine OpX.mono (OpG.opX (R := fun u w' => WE P n ops I K fuel listed' (jE e dst u) w') ha (by simp only [OpG, hj, hb]; rw [if_pos (by cases b <;> rfl)]; exact hy)) fun u w' hu => ?_
 rw [hl]
 exact hu _ (ha.put dst u hd)
end
section
variable {P : Program} {e : List (Nat × Value)} {ty t t' el : TypeId} {w : World} {K : Value → World → Prop} {x y : Operand} {A : Option Addr} {n c : Nat}
end
theorem Own.pre {w : World} {lo n c s h : Nat} {t : TypeId} {A : Option Addr} {cs : List Value} (o : Own w lo t s A n c cs) (hh : h ≤ n) : Own w lo t s A h c (cs.take (h * s)) := by
 have hl : (cs.take (h * s)).length = h * s := by
   rw [List.length_take, o.1]
   exact Nat.min_eq_left (Nat.mul_le_mul_right s hh)
 refine ⟨hl, ?_⟩
 rcases o.2 with ⟨h1, h2⟩ | ⟨g, cap, cur, hv, hlo, hg, hnc, hm, hs, hc⟩
 · simp only [Value.slice.injEq] at h1
   obtain ⟨rfl, h3, rfl⟩ := h1
   left
   have h4 : h = 0 := by omega
   subst h4
   exact ⟨rfl, rfl⟩
 · simp only [Value.slice.injEq] at hv
   obtain ⟨rfl, _, rfl⟩ := hv
   right
   refine ⟨g, c, cur, rfl, hlo, hg, by omega, hm, hs, ?_⟩
   rw [← hc, List.take_take, Nat.min_eq_left (Nat.mul_le_mul_right s hh)]
section
variable {P : Program} {n : Nat} {fn : Func} {R : Value → World → Prop} {e : List (Nat × Value)} {w : World}
end
section
variable {P : Program} {e : List (Nat × Value)} {ty t t' : TypeId} {w : World} {K : Value → World → Prop} {x y : Operand} {a : Array Value}
theorem aEt (hx : fF e x = some (.agg a)) (hy : fF e y = some (.agg a)) (hm : P.eqGuardType P.depth t = false) (he : ∀ w, (Op.equalIn 10000 t (.agg a) (.agg a)).run P w = .ok true w) (h : K (.bool false) w) : OpWp P e (.binOp .neq t x y t') ty w K := fun ρ d p af g hρ => by
 have g1 := hρ _ _ hx; have g2 := hρ _ _ hy
 have h3 := run_eqGuard_agg (P := P) w .neq t x y a a hm
 have h4 := run_neq_struct (P := P) w t a a
 rw [he] at h4
 simp only [execOp, g1, g2, Sem.run_bind, h3, Result.andThen_ok, h4, Bool.not_true]
 simpa [upto] using h
end
section
variable {P : Program} {e : List (Nat × Value)} {w : World} {K : Value → World → Prop} {ty t el : TypeId} {x hi : Operand} {s n c h : Nat} {A : Option Addr} {k2 : IntKind} {m2 : Int}
theorem pC (ht : xM P t = some (el, s)) (hx : fF e x = some (.slice A n c)) (h2 : fF e hi = some (.int k2 m2)) (e2 : m2 = (h : Int))
   (hc : h ≤ c) (hK : K (.slice A h c) w) : OpWp P e (.slice t x none (some hi) none) ty w K := fun ρ d p a g hρ => by
 have g0 := hρ _ _ hx; have g2 := hρ _ _ h2
 obtain ⟨hu, hsz⟩ := rA ht
 subst e2
 have hr := run_slice_h (P := P) (w := w) t A n c hu k2 (h : Int) (by omega) (by omega)
 simp only [execOp, g0, Option.map_some, Option.map_none, g2, Sem.run_bind, run_sliceAt_slice w t _ _ _ _ hu, hr, hsz, Result.andThen_ok, Sem.run_pure, upto, sliced, Int.toNat_natCast]
 have e1 : (if c = 0 then A else A.map (·.add (0 * s))) = A := by split <;> simp [zZ]
 simpa [zZ] using hK
end
set_option maxRecDepth 20000
theorem aFb (A : Option Addr) (B c : Nat) (bs : List UInt8) (w : World) (hs : Sl B w A (bs.flatMap eB)) (hbl : bs.length ≤ 1048576) :
   Calls Tryz.prog 64 #[.slice A bs.length c] w (fD fun v w' => ∃ gS a sd, v = .pointer (some ⟨gS, 0, none⟩) ∧ w.heap.size ≤ gS ∧ (a ≤ bs.length ∧ 0 ≤ sd ∧ sd < 2147483647) ∧ Blk w' gS 148 (iU A c bs a sd) ∧ Ext w w') := by
 have Bhs := hs.1
 have X := Q7r w
 refine bI (args := [.slice A bs.length c]) Tryz.func64 Tryz.ntmps64 rfl rfl ?_
 refine aE ?_
 refine aA rfl (aD rfl ?_)
 refine aB ?_
 refine aE ?_
 refine aA rfl (aC rfl ?_)
 refine aA rfl (cO aKe aKd rfl rfl ?_)
 refine aA rfl (eE rfl rfl ?_)
 intro gS w2 egS q x1 zgS
 have lgS : w.heap.size ≤ gS := Q7l X.size (Q7e egS.symm)
 have pgShs := Q7l hs.1 (Q7e egS.symm)
 replace hs := hs.ext x1
 replace X := Q7x X x1
 have q : Blk _ gS 148 (iU A c bs 0 40009) := q
 refine aA rfl (aD rfl ?_)
 refine aB ?_
 refine aQ ?_
 refine aE ?_
 refine aA rfl (aD rfl ?_)
 refine aB ?_
 refine aW ?_
 refine dD (G := Nat × Int) (fun ⟨k, s⟩ => [(0, .slice A bs.length c), (3, .pointer (some ⟨gS, 0, none⟩)), (4, .int .i64 (k : Nat))]) (fun ⟨k, s⟩ wr => k ≤ bs.length ∧ (0 ≤ s ∧ s < 2147483647) ∧ Blk wr gS 148 (iU A c bs 0 s) ∧ Sl B wr A (bs.flatMap eB) ∧ Ext w wr) (fun ⟨k, s⟩ => bs.length - k) (0, 40009) (.cons rfl (.cons rfl (.cons rfl (.nil _)))) ?_ ?_
 · exact ⟨by omega, (by omega), q, hs, X⟩
 clear hs q
 clear X
 rintro ⟨k, s⟩ wr ⟨hk0, hs0, q, hs, X⟩
 refine aQ ?_
 refine aE ?_
 refine aA rfl (aC rfl ?_)
 refine aA rfl (aC rfl ?_)
 refine aA rfl (cQ Tryz.underlying22 rfl ?_)
 refine aA rfl (cH rfl rfl (fun hk => ?_) (fun hk => ?_))
 obtain ⟨x, hx, dx⟩ := dM hk
 have hxb := aIe x
 refine aA rfl (aC rfl ?_)
 refine aH rfl rfl rfl (aC rfl ?_)
 refine aH rfl rfl rfl (cH rfl rfl (fun hk2 => ?_) (fun hk2 => ?_))
 refine aA rfl (aJ rfl rfl ?_)
 refine aB ?_
 refine aR rfl ?_
 refine aU ?_
 refine aP ?_
 refine aQ ?_
 refine aW ?_
 refine vG [false, false, false, false, false, false, false, false, false, false, false, false, false, false, false] mixed (by kernel_rfl) ?_
 refine cE rfl (fun wq sq => aC rfl ⟨rfl, Q7r _⟩) ?_
 refine cE rfl (fun wq sq => aC rfl ⟨rfl, Q7r _⟩) ?_
 refine cE rfl (fun wq sq => dF rfl ⟨rfl, Q7r _⟩) ?_
 refine cE rfl (fun wq sq => aF sF rfl rfl ⟨rfl, Q7r _⟩) ?_
 refine cE rfl (fun wq sq => aI (q.ext sq) cY rfl rfl ⟨rfl, Q7r _⟩) ?_
 refine cE rfl (fun wq sq => iN rfl rfl (dR (by omega)) ⟨rfl, Q7r _⟩) ?_
 refine cE rfl (fun wq sq => aC rfl ⟨rfl, Q7r _⟩) ?_
 refine cE rfl (fun wq sq => aC rfl ⟨rfl, Q7r _⟩) ?_
 refine cE rfl (fun wq sq => aT (hs.ext sq) sA rfl aE8 rfl rfl rfl hx rfl ⟨rfl, Q7r _⟩) ?_
 refine cE rfl (fun wq sq => cX (hs.ext sq) sA hx ti5 rfl rfl rfl ⟨rfl, Q7r _⟩) ?_
 refine cE rfl (fun wq sq => jX Tryz.underlying5 Tryz.underlying2 rfl (dR (by omega)) ⟨rfl, Q7r _⟩) ?_
 refine cE rfl (fun wq sq => aZ rfl rfl (dR (by omega)) ⟨rfl, Q7r _⟩) ?_
 refine cE rfl (fun wq sq => fN rfl rfl (by omega) (sV (by omega)) ⟨rfl, Q7r _⟩) ?_
 refine cE rfl (fun wq sq => dF rfl ⟨rfl, Q7r _⟩) ?_
 refine cE rfl (fun wq sq => aF sF rfl rfl ⟨rfl, Q7r _⟩) ?_
 refine dW (fun w3 sq => ?_)
 have xq := sq
 replace q := q.ext xq
 replace hs := hs.ext xq
 replace X := Q7x X xq; clear xq sq
 refine aA rfl (aX q cY rfl rfl rfl rfl rfl rfl ?_)
 intro w5 q2 hg4 z6
 replace hs := hs.grown hg4 (by intro g hg; injection hg; omega)
 replace X := X.grown hg4 X.size (by intro g hg; injection hg; omega)
 clear hg4 q
 refine aB ?_
 refine dJ ?_
 refine aP ?_
 refine aM ?_
 refine aA rfl (aC rfl ?_)
 refine aA rfl (aZ rfl rfl (dR (by omega)) ?_)
 refine aA rfl (aD rfl ?_)
 refine aB ?_
 refine aP ⟨(k + 1, (s * 53 + (x.toNat : Int)) % 2147483647), (.cons rfl (.cons rfl (.cons rfl (.nil _)))), ?_, ?_⟩
 · exact ⟨by omega, (by omega), q2, hs, X⟩
 · first | omega | (dsimp only; omega)
 refine aA rfl (aJ rfl rfl ?_)
 refine aB ?_
 refine aL rfl ?_
 refine dC ?_
 refine dB ?_
 refine dB ?_
 refine eA ?_
 refine aP ?_
 refine aE ?_
 refine aA rfl (aC rfl ?_)
 refine aA rfl (aD rfl ?_)
 refine aB ?_
 refine aV ?_
 refine aK rfl rfl ?_
 exact ⟨gS, 0, s, rfl, lgS, by omega, q, X⟩
 refine aA rfl (aC rfl ?_)
 refine aG rfl rfl rfl rfl ?_
 refine aG rfl rfl rfl rfl ?_
 refine aA rfl (aJ rfl rfl ?_)
 refine aB ?_
 refine aL rfl ?_
 refine dC ?_
 refine dB ?_
 refine dB ?_
 refine eA ?_
 refine aP ?_
 refine aE ?_
 refine aA rfl (aC rfl ?_)
 refine aA rfl (aD rfl ?_)
 refine aB ?_
 refine aV ?_
 refine aK rfl rfl ?_
 exact ⟨gS, 0, s, rfl, lgS, by omega, q, X⟩
theorem dH (A : Option Addr) (B c : Nat) (bs : List UInt8) (gS a : Nat) (sd : Int) (n : Int) (w : World) (q : Blk w gS 148 (iU A c bs a sd)) (hs : Sl B w A (bs.flatMap eB)) (hB : B ≤ gS) (ok : a ≤ bs.length ∧ 0 ≤ sd ∧ sd < 2147483647) (hbl : bs.length ≤ 1048576) (hn : n ≤ 9223372036854775807) :
   Calls Tryz.prog 65 #[.pointer (some ⟨gS, 0, none⟩), .int .i64 n] w (fD fun v w' => ∃ r a' sd', v = .int .i64 r ∧ (0 ≤ r ∧ (1 < n → r < n) ∧ (n ≤ 1 → r = 0)) ∧ (a' ≤ bs.length ∧ 0 ≤ sd' ∧ sd' < 2147483647) ∧ Blk w' gS 148 (iU A c bs a' sd') ∧ w.grownBy w' (some gS)) := by
 obtain ⟨ok1, ok2, ok3⟩ := ok
 have hs1 : 0 ≤ (sd * 48271 + 17) % 2147483647 ∧ (sd * 48271 + 17) % 2147483647 < 2147483647 := by omega
 have Bhs := hs.1
 have X := mC w (some gS)
 refine bI (args := [.pointer (some ⟨gS, 0, none⟩), .int .i64 n]) Tryz.func65 Tryz.ntmps65 rfl rfl ?_
 refine aE ?_
 refine aA rfl (aD rfl ?_)
 refine aB ?_
 refine aQ ?_
 refine aE ?_
 refine aA rfl (aC rfl ?_)
 refine aA rfl (xV rfl rfl (fun hn1 => ?_) (fun hn1 => ?_))
 refine aB ?_
 refine aR rfl ?_
 refine aE ?_
 refine aA rfl (aD rfl ?_)
 refine aB ?_
 refine aV ?_
 refine bU ?_
 refine aK rfl rfl ?_
 · skip
   first
   | (exact ⟨0, a, sd, rfl, by omega, by omega, q, X⟩)
   | (have hr := fun y (hy : 0 ≤ y) => And.intro (Int.emod_nonneg y (show n ≠ 0 by omega)) (Int.emod_lt_of_pos y (show 0 < n by omega))
      first
      | (exact ⟨_, a, s1, rfl, by have := hr y1 (by omega); omega, by omega, q2, X⟩)
      | (exact ⟨_, a + 1, s1, rfl, by have := hr (y1 + (x.toNat : Int)) (by omega); omega, by omega, q3, X⟩)
      | (exact ⟨_, a + 1, s1, rfl, by have := hr (x.toNat : Int) (by omega); omega, by omega, q3, X⟩))
 refine aB ?_
 refine aL rfl ?_
 refine aU ?_
 refine aP ?_
 refine aE ?_
 refine aA rfl (aC rfl ?_)
 refine aA rfl (aC rfl ?_)
 refine aA rfl (dF rfl ?_)
 refine aA rfl (aF sF rfl rfl ?_)
 refine aA rfl (aI q cY rfl rfl ?_)
 refine aA rfl (iN rfl rfl (dR (by omega)) ?_)
 refine aA rfl (aZ rfl rfl (dR (by omega)) ?_)
 refine aA rfl (fN rfl rfl (by omega) (sV (by omega)) ?_)
 refine aA rfl (dF rfl ?_)
 refine aA rfl (aF sF rfl rfl ?_)
 refine aA rfl (aX q cY rfl rfl rfl rfl rfl rfl ?_)
 intro w2 q2 hg1 z3
 replace hs := hs.grown hg1 (by intro g hg; injection hg; omega)
 replace X := cU X hg1
 clear hg1 q
 refine aB ?_
 refine aE ?_
 refine aA rfl (aC rfl ?_)
 refine aA rfl (dF rfl ?_)
 refine aA rfl (aF sF rfl rfl ?_)
 refine aA rfl (aI q2 cY rfl rfl ?_)
 refine aA rfl (iE rfl rfl (by omega) (xW (by omega)) ?_)
 generalize (sd * 48271 + 17) % 2147483647 = s1 at *
 have hs2 : 0 ≤ s1 / 23 ∧ s1 / 23 ≤ 93368854 := by omega
 generalize s1 / 23 = y1 at *
 refine aA rfl (aD rfl ?_)
 refine aB ?_
 refine aQ ?_
 refine eO [false, false, false, false, false, false, false, false, false, false] mixed (by kernel_rfl) ?_
 refine cE rfl (fun wq sq => aC rfl ⟨rfl, Q7r _⟩) ?_
 refine cE rfl (fun wq sq => dF rfl ⟨rfl, Q7r _⟩) ?_
 refine cE rfl (fun wq sq => aF qB rfl rfl ⟨rfl, Q7r _⟩) ?_
 refine cE rfl (fun wq sq => aI (q2.ext sq) ti3 rfl rfl ⟨rfl, Q7r _⟩) ?_
 refine cE rfl (fun wq sq => aC rfl ⟨rfl, Q7r _⟩) ?_
 refine cE rfl (fun wq sq => dF rfl ⟨rfl, Q7r _⟩) ?_
 refine cE rfl (fun wq sq => aF zQ rfl rfl ⟨rfl, Q7r _⟩) ?_
 refine cE rfl (fun wq sq => aI (q2.ext sq) aII rfl rfl ⟨rfl, Q7r _⟩) ?_
 refine cE rfl (fun wq sq => cQ Tryz.underlying22 rfl ⟨rfl, Q7r _⟩) ?_
 refine uR rfl (fun wq sq => rW rfl rfl ⟨rfl, Q7r _⟩) (fun hlt => ?_) (fun hlt => ?_)
 obtain ⟨x, hx, dx⟩ := jZ (xs := bs) (k := a) (by omega)
 have hxb := aIe x
 refine dW (fun w4 sq => ?_)
 have xq := sq
 replace hs := hs.ext xq
 replace q2 := q2.ext xq
 replace X := dE X xq; clear xq sq
 refine aB ?_
 refine aR rfl ?_
 refine eO [false, false, false, false, false, false, false, false, false, false, false, false, false, false] mixed (by kernel_rfl) ?_
 refine cE rfl (fun wq sq => aC rfl ⟨rfl, Q7r _⟩) ?_
 refine cE rfl (fun wq sq => aC rfl ⟨rfl, Q7r _⟩) ?_
 refine cE rfl (fun wq sq => dF rfl ⟨rfl, Q7r _⟩) ?_
 refine cE rfl (fun wq sq => aF zQ rfl rfl ⟨rfl, Q7r _⟩) ?_
 refine cE rfl (fun wq sq => aI (q2.ext sq) aII rfl rfl ⟨rfl, Q7r _⟩) ?_
 refine cE rfl (fun wq sq => aC rfl ⟨rfl, Q7r _⟩) ?_
 refine cE rfl (fun wq sq => dF rfl ⟨rfl, Q7r _⟩) ?_
 refine cE rfl (fun wq sq => aF qB rfl rfl ⟨rfl, Q7r _⟩) ?_
 refine cE rfl (fun wq sq => aI (q2.ext sq) ti3 rfl rfl ⟨rfl, Q7r _⟩) ?_
 refine cE rfl (fun wq sq => aT (hs.ext sq) sA rfl aE8 rfl rfl rfl hx rfl ⟨rfl, Q7r _⟩) ?_
 refine cE rfl (fun wq sq => cX (hs.ext sq) sA hx ti5 rfl rfl rfl ⟨rfl, Q7r _⟩) ?_
 refine cE rfl (fun wq sq => jX Tryz.underlying5 Tryz.underlying2 rfl (dR (by omega)) ⟨rfl, Q7r _⟩) ?_
 refine cE rfl (fun wq sq => aZ rfl rfl (dR (by omega)) ⟨rfl, Q7r _⟩) ?_
 refine cE rfl (fun wq sq => aD rfl ⟨rfl, Q7r _⟩) ?_
 refine dW (fun w5 sq => ?_)
 have xq := sq
 replace hs := hs.ext xq
 replace q2 := q2.ext xq
 replace X := dE X xq; clear xq sq
 refine aB ?_
 refine aE ?_
 refine aA rfl (aC rfl ?_)
 refine aA rfl (dF rfl ?_)
 refine aA rfl (aF qB rfl rfl ?_)
 refine aA rfl (aI q2 ti3 rfl rfl ?_)
 refine aA rfl (aZ rfl rfl (dR (by omega)) ?_)
 refine aA rfl (dF rfl ?_)
 refine aA rfl (aF qB rfl rfl ?_)
 refine aA rfl (aX q2 ti3 rfl rfl rfl rfl rfl rfl ?_)
 intro w7 q3 hg6 z8
 replace hs := hs.grown hg6 (by intro g hg; injection hg; omega)
 replace X : w.grownBy w7 (some gS) := by first | exact cU X hg6 | exact cV X hg6 (by intro g hg; injection hg; omega)
 clear hg6 q2
 refine aB ?_
 refine aE ?_
 refine aA rfl (aC rfl ?_)
 refine aA rfl (xV rfl rfl (fun h9 => ?_) (fun h9 => ?_))
 refine aA rfl (aC rfl ?_)
 refine aH rfl rfl rfl (aC rfl ?_)
 refine aH rfl rfl rfl (dF rfl ?_)
 refine aH rfl rfl rfl (aF qB rfl rfl ?_)
 refine aH rfl rfl rfl (aI q3 ti3 rfl rfl ?_)
 refine aH rfl rfl rfl (fN rfl rfl (by omega) (sV (by omega)) ?_)
 refine aH rfl rfl rfl (dK rfl rfl (fun h10 => ?_) (fun h10 => ?_))
 refine aA rfl (aJ rfl rfl ?_)
 refine aB ?_
 refine aR rfl ?_
 refine vG [false, false, false, false, false, false, false, false, false, false, false, false, false] mixed (by kernel_rfl) ?_
 refine cE rfl (fun wq sq => aC rfl ⟨rfl, Q7r _⟩) ?_
 refine cE rfl (fun wq sq => dF rfl ⟨rfl, Q7r _⟩) ?_
 refine cE rfl (fun wq sq => aF zQ rfl rfl ⟨rfl, Q7r _⟩) ?_
 refine cE rfl (fun wq sq => aI (q3.ext sq) aII rfl rfl ⟨rfl, Q7r _⟩) ?_
 refine cE rfl (fun wq sq => aC rfl ⟨rfl, Q7r _⟩) ?_
 refine cE rfl (fun wq sq => dF rfl ⟨rfl, Q7r _⟩) ?_
 refine cE rfl (fun wq sq => aF qB rfl rfl ⟨rfl, Q7r _⟩) ?_
 refine cE rfl (fun wq sq => aI (q3.ext sq) ti3 rfl rfl ⟨rfl, Q7r _⟩) ?_
 refine cE rfl (fun wq sq => fZ rfl rfl (dR (by omega)) ⟨rfl, Q7r _⟩) ?_
 refine cE rfl (fun wq sq => aT (hs.ext sq) sA rfl aE8 rfl rfl rfl hx (by omega) ⟨rfl, Q7r _⟩) ?_
 refine cE rfl (fun wq sq => cX (hs.ext sq) sA hx ti5 rfl rfl rfl ⟨rfl, Q7r _⟩) ?_
 refine cE rfl (fun wq sq => jX Tryz.underlying5 Tryz.underlying2 rfl (dR (by omega)) ⟨rfl, Q7r _⟩) ?_
 refine cE rfl (fun wq sq => aD rfl ⟨rfl, Q7r _⟩) ?_
 refine dW (fun w11 sq => ?_)
 have xq := sq
 replace hs := hs.ext xq
 replace q3 := q3.ext xq
 replace X := dE X xq; clear xq sq
 refine aB ?_
 refine aP ?_
 refine aE ?_
 refine aA rfl (aC rfl ?_)
 refine aA rfl (aC rfl ?_)
 refine aA rfl (fN rfl rfl (by omega) (sV (by omega)) ?_)
 refine aA rfl (aD rfl ?_)
 refine aB ?_
 refine aV ?_
 refine aK rfl rfl ?_
 · skip
   first
   | (exact ⟨0, a, sd, rfl, by omega, by omega, q, X⟩)
   | (have hr := fun y (hy : 0 ≤ y) => And.intro (Int.emod_nonneg y (show n ≠ 0 by omega)) (Int.emod_lt_of_pos y (show 0 < n by omega))
      first
      | (exact ⟨_, a, s1, rfl, by have := hr y1 (by omega); omega, by omega, q2, X⟩)
      | (exact ⟨_, a + 1, s1, rfl, by have := hr (y1 + (x.toNat : Int)) (by omega); omega, by omega, q3, X⟩)
      | (exact ⟨_, a + 1, s1, rfl, by have := hr (x.toNat : Int) (by omega); omega, by omega, q3, X⟩))
 refine aA rfl (aJ rfl rfl ?_)
 refine aB ?_
 refine aL rfl ?_
 refine aU ?_
 refine aP ?_
 refine aE ?_
 refine aA rfl (aC rfl ?_)
 refine aA rfl (aC rfl ?_)
 refine aA rfl (fN rfl rfl (by omega) (sV (by omega)) ?_)
 refine aA rfl (aD rfl ?_)
 refine aB ?_
 refine aV ?_
 refine aK rfl rfl ?_
 · skip
   first
   | (exact ⟨0, a, sd, rfl, by omega, by omega, q, X⟩)
   | (have hr := fun y (hy : 0 ≤ y) => And.intro (Int.emod_nonneg y (show n ≠ 0 by omega)) (Int.emod_lt_of_pos y (show 0 < n by omega))
      first
      | (exact ⟨_, a, s1, rfl, by have := hr y1 (by omega); omega, by omega, q2, X⟩)
      | (exact ⟨_, a + 1, s1, rfl, by have := hr (y1 + (x.toNat : Int)) (by omega); omega, by omega, q3, X⟩)
      | (exact ⟨_, a + 1, s1, rfl, by have := hr (x.toNat : Int) (by omega); omega, by omega, q3, X⟩))
 refine aA rfl (aC rfl ?_)
 refine aG rfl rfl rfl rfl ?_
 refine aG rfl rfl rfl rfl ?_
 refine aG rfl rfl rfl rfl ?_
 refine aG rfl rfl rfl rfl ?_
 refine aG rfl rfl rfl rfl ?_
 refine aG rfl rfl rfl rfl ?_
 refine aA rfl (aJ rfl rfl ?_)
 refine aB ?_
 refine aL rfl ?_
 refine aU ?_
 refine aP ?_
 refine aE ?_
 refine aA rfl (aC rfl ?_)
 refine aA rfl (aC rfl ?_)
 refine aA rfl (fN rfl rfl (by omega) (sV (by omega)) ?_)
 refine aA rfl (aD rfl ?_)
 refine aB ?_
 refine aV ?_
 refine aK rfl rfl ?_
 · skip
   first
   | (exact ⟨0, a, sd, rfl, by omega, by omega, q, X⟩)
   | (have hr := fun y (hy : 0 ≤ y) => And.intro (Int.emod_nonneg y (show n ≠ 0 by omega)) (Int.emod_lt_of_pos y (show 0 < n by omega))
      first
      | (exact ⟨_, a, s1, rfl, by have := hr y1 (by omega); omega, by omega, q2, X⟩)
      | (exact ⟨_, a + 1, s1, rfl, by have := hr (y1 + (x.toNat : Int)) (by omega); omega, by omega, q3, X⟩)
      | (exact ⟨_, a + 1, s1, rfl, by have := hr (x.toNat : Int) (by omega); omega, by omega, q3, X⟩))
 refine dW (fun w12 sq => ?_)
 have xq := sq
 replace hs := hs.ext xq
 replace q2 := q2.ext xq
 replace X := dE X xq; clear xq sq
 refine aB ?_
 refine aL rfl ?_
 refine aU ?_
 refine aP ?_
 refine aE ?_
 refine aA rfl (aC rfl ?_)
 refine aA rfl (aC rfl ?_)
 refine aA rfl (fN rfl rfl (by omega) (sV (by omega)) ?_)
 refine aA rfl (aD rfl ?_)
 refine aB ?_
 refine aV ?_
 refine aK rfl rfl ?_
 · skip
   first
   | (exact ⟨0, a, sd, rfl, by omega, by omega, q, X⟩)
   | (have hr := fun y (hy : 0 ≤ y) => And.intro (Int.emod_nonneg y (show n ≠ 0 by omega)) (Int.emod_lt_of_pos y (show 0 < n by omega))
      first
      | (exact ⟨_, a, s1, rfl, by have := hr y1 (by omega); omega, by omega, q2, X⟩)
      | (exact ⟨_, a + 1, s1, rfl, by have := hr (y1 + (x.toNat : Int)) (by omega); omega, by omega, q3, X⟩)
      | (exact ⟨_, a + 1, s1, rfl, by have := hr (x.toNat : Int) (by omega); omega, by omega, q3, X⟩))
structure Win (lo hi : Nat) (w w' : World) : Prop where
 os : w'.os = w.os
 tape : w'.tape = w.tape
 output : w'.output = w.output
 size : w.heap.size ≤ w'.heap.size
 block : ∀ k, k < w.heap.size → (k < lo ∨ hi ≤ k) → w'.heap[k]? = w.heap[k]?
section
variable {lo hi lo' n c s : Nat} {w w' w'' : World} {t : TypeId} {A : Option Addr} {cs : List Value} {xs : List ModeI}
theorem Win.refl (lo hi : Nat) (w : World) : Win lo hi w w := ⟨rfl, rfl, rfl, Nat.le_refl _, fun _ _ _ => rfl⟩
theorem Win.grown {row : Option Nat} (h : Win lo hi w w') (hg : w'.grownBy w'' row) (hr : ∀ g, row = some g → lo ≤ g ∧ g < hi) : Win lo hi w w'' :=
 ⟨hg.os.trans h.os, hg.tape.trans h.tape, hg.output.trans h.output, Q7l h.size hg.size, fun k hk ho => (hg.block k (Nat.lt_of_lt_of_le hk h.size) (fun e => by have := hr k e.symm; omega)).trans (h.block k hk ho)⟩
theorem Win.below (h : Win lo hi w w') (hlo : lo ≤ w.heap.size) : Below lo w w' := ⟨h.os, h.tape, h.output, h.size, fun k hk => h.block k (Nat.lt_of_lt_of_le hk hlo) (.inl hk)⟩
theorem Own.win (h : Own w lo' t s A n c cs) (x : Win lo hi w w') (hl : hi ≤ lo') : Own w' lo' t s A n c cs := by
 refine ⟨h.1, ?_⟩
 rcases h.2 with h2 | ⟨g, cap, cur, hv, hlo, hh, r⟩
 · exact .inl h2
 · exact .inr ⟨g, cap, cur, hv, hlo, (x.block g (Array.getElem?_eq_some_iff.1 hh).1 (.inr (by omega))).trans hh, r⟩
def ModeI.blk (x : ModeI) : Option Nat := (Value.slice x.A x.m.next.length x.c).ownBlock
def Disj (xs : List ModeI) : Prop := ∀ (i j : Nat) (x y : ModeI), xs[i]? = some x → xs[j]? = some y → i ≠ j → ∀ g, x.blk = some g → y.blk ≠ some g
theorem Disj.nil_ : Disj [] := fun i j x y h => by simp at h
theorem Disj.snoc {x : ModeI} (h : Disj xs) (hb : ∀ y ∈ xs, ∀ g, y.blk = some g → x.blk ≠ some g) : Disj (xs ++ [x]) := fun i j a b hi hj hij g ha hb' => by
 rw [List.getElem?_append] at hi hj
 split at hi <;> split at hj
 · exact h i j a b hi hj hij g ha hb'
 · rename_i h1 h2
   have h3 : j - xs.length = 0 := by
     rcases Nat.eq_zero_or_pos (j - xs.length) with h | h
     · exact h
     · rw [List.getElem?_eq_none (by simp only [List.length_cons, List.length_nil]; omega)] at hj; cases hj
   rw [h3] at hj; simp at hj; subst hj
   exact hb a (List.mem_of_getElem? hi) g ha hb'
 · rename_i h1 h2
   have h3 : i - xs.length = 0 := by
     rcases Nat.eq_zero_or_pos (i - xs.length) with h | h
     · exact h
     · rw [List.getElem?_eq_none (by simp only [List.length_cons, List.length_nil]; omega)] at hi; cases hi
   rw [h3] at hi; simp at hi; subst hi
   exact hb b (List.mem_of_getElem? hj) g hb' ha
 · rename_i h1 h2
   have h3 : i - xs.length = 0 := by
     rcases Nat.eq_zero_or_pos (i - xs.length) with h | h
     · exact h
     · rw [List.getElem?_eq_none (by simp only [List.length_cons, List.length_nil]; omega)] at hi; cases hi
   have h4 : j - xs.length = 0 := by
     rcases Nat.eq_zero_or_pos (j - xs.length) with h | h
     · exact h
     · rw [List.getElem?_eq_none (by simp only [List.length_cons, List.length_nil]; omega)] at hj; cases hj
   omega
def NFrom (w : World) (lo : Nat) (t : TypeId) (k : Nat) (xs : List ModeI) : Prop := ∀ i x, k ≤ i → xs[i]? = some x → Own w lo t 1 x.A x.m.next.length x.c (x.m.next.flatMap eI)
theorem NFrom.grownO {t' : TypeId} {k : Nat} (h : NFrom w lo t k xs) (o : Own w lo' t' s A n c cs) (hg : w.grownBy w' (Value.slice A n c).ownBlock) (ht : t ≠ t') : NFrom w' lo t k xs := fun i x hi hx => (h i x hi hx).grown hg (Own.neO (h i x hi hx) o ht)
theorem NFrom.next {k : Nat} {x : ModeI} (h : NFrom w lo t k xs) (hd : Disj xs) (hx : xs[k]? = some x) (hg : w.grownBy w' x.blk) : NFrom w' lo t (k + 1) xs := fun i y hi hy =>
 (h i y (by omega) hy).grown hg fun g hgx hgy => hd k i x y hx hy (by omega) g hgx hgy
end
structure NodeI where
 id : Int
 name : ByteArray
 drift : Int
 passive : Bool
def NodeI.cells (n : NodeI) : List Value := [.int .i64 n.id, .string n.name, .int .i64 n.drift, .bool n.passive]
theorem NodeI.len (n : NodeI) : n.cells.length = 4 := rfl
structure StateI where
 time : Int
 mode : Int
 round : Int
 slot : Int
 members : Int
def StateI.cells (s : StateI) : List Value := [.int .i64 s.time, .int .i64 s.mode, .int .i64 s.round, .int .i64 s.slot, .int .i64 s.members]
theorem StateI.len (s : StateI) : s.cells.length = 5 := rfl
structure MedlD where
 id : Int
 ns : List NodeI
 ms : List Mode
 ss : List SlotI
structure MedlI where
 id : Int
 An : Option Addr
 ns : List NodeI
 cn : Nat
 Am : Option Addr
 ms : List ModeI
 cm : Nat
 As : Option Addr
 ss : List SlotI
 cs : Nat
def MedlI.d (m : MedlI) : MedlD := ⟨m.id, m.ns, m.ms.map (·.m), m.ss⟩
def MedlI.cells (m : MedlI) : List Value := [.int .i64 m.id, .slice m.An m.ns.length m.cn, .slice m.Am m.ms.length m.cm, .slice m.As m.ss.length m.cs]
theorem MedlI.len (m : MedlI) : m.cells.length = 4 := rfl
structure Med (B : Nat) (w : World) (m : MedlI) : Prop where
 hB : B ≤ w.heap.size
 sn : Sl B w m.An (m.ns.flatMap NodeI.cells)
 sm : Sl B w m.Am (m.ms.flatMap ModeI.cells)
 sx : Nexts B w m.ms
 ss : Sl B w m.As (m.ss.flatMap SlotI.cells)
 kn : m.ns.length ≤ m.cn
section
variable {B B' : Nat} {w w' : World} {m : MedlI}
theorem Med.below (h : Med B w m) (hb : Below B w w') : Med B w' m := ⟨Q7l h.1 hb.size, h.sn.below hb, h.sm.below hb, h.sx.below hb, h.ss.below hb, h.kn⟩
theorem Med.ext (h : Med B w m) (hb : Ext w w') : Med B w' m := h.below (Below.mono hb h.1)
theorem Med.grown {row : Option Nat} (h : Med B w m) (hg : w.grownBy w' row) (hr : ∀ g, row = some g → B ≤ g) : Med B w' m := ⟨Q7l h.1 hg.size, h.sn.grown hg hr, h.sm.grown hg hr, h.sx.grown hg hr, h.ss.grown hg hr, h.kn⟩
theorem Med.more (h : Med B w m) (hB : B ≤ B') (hw : B' ≤ w.heap.size) : Med B' w m := ⟨hw, h.sn.more hB hw, h.sm.more hB hw, h.sx.more hB hw, h.ss.more hB hw, h.kn⟩
end
structure MedlI.small (m : MedlI) : Prop where
 ln : m.ns.length ≤ 1048576
 lm : m.ms.length ≤ 1048576
 lx : ∀ x ∈ m.ms, x.m.next.length ≤ 1048576
 ls : m.ss.length ≤ 1048576
 lz : ∀ x ∈ m.ns, x.name.size ≤ 1048576
theorem MedlI.small_of {m m' : MedlI} (e : m'.d = m.d) (h : m.small) : m'.small := by
 obtain ⟨id, An, ns, cn, Am, ms, cm, As, ss, cs⟩ := m
 obtain ⟨id', An', ns', cn', Am', ms', cm', As', ss', cs'⟩ := m'
 simp only [MedlI.d, MedlD.mk.injEq] at e
 obtain ⟨e1, e2, e3, e4⟩ := e
 obtain ⟨h1, h2, h3, h4, h5⟩ := h
 simp only at h1 h2 h3 h4 h5
 refine ⟨by simp only; rw [e2]; exact h1, ?_, ?_, by simp only; rw [e4]; exact h4, by simp only; rw [e2]; exact h5⟩
 · have := congrArg List.length e3; simp at this; simp only; omega
 · intro x hx
   have : x.m ∈ ms'.map (·.m) := List.mem_map.2 ⟨x, hx, rfl⟩
   rw [e3] at this
   obtain ⟨y, hy, e5⟩ := List.mem_map.1 this
   have := h3 y hy
   rw [e5] at this; exact this
theorem lQ (n : Nat) : BitVec.ofInt 64 (n : Int) = BitVec.ofNat 64 n := by simp
theorem aHJ {a b : Nat} (ha : a < 9223372036854775808) (hb : b < 9223372036854775808) : kW .or .i64 (a : Int) (b : Int) = ((a ||| b : Nat) : Int) := by
 have h1 : a ||| b < 2 ^ 63 := Nat.or_lt_two_pow (by omega) (by omega)
 have h2 : a ||| b < 2 ^ 64 := Nat.or_lt_two_pow (by omega) (by omega)
 show IntKind.i64.wrap ((BitVec.ofInt 64 (a : Int) ||| BitVec.ofInt 64 (b : Int)).toNat : Int) = _
 rw [lQ, lQ, BitVec.toNat_or, BitVec.toNat_ofNat, BitVec.toNat_ofNat, Nat.mod_eq_of_lt (by omega), Nat.mod_eq_of_lt (by omega)]
 exact dR (by omega)
theorem sG {a b : Nat} (ha : a < 9223372036854775808) (hb : b < 9223372036854775808) : kW .and .i64 (a : Int) (b : Int) = ((a &&& b : Nat) : Int) := by
 have h1 : a &&& b ≤ a := Nat.and_le_left
 show IntKind.i64.wrap ((BitVec.ofInt 64 (a : Int) &&& BitVec.ofInt 64 (b : Int)).toNat : Int) = _
 rw [lQ, lQ, BitVec.toNat_and, BitVec.toNat_ofNat, BitVec.toNat_ofNat, Nat.mod_eq_of_lt (by omega), Nat.mod_eq_of_lt (by omega)]
 exact dR (by omega)
theorem uZ {a b : Nat} (ha : a < 9223372036854775808) (hb : b < 9223372036854775808) : kW .xor .i64 (a : Int) (b : Int) = ((a ^^^ b : Nat) : Int) := by
 have h1 : a ^^^ b < 2 ^ 63 := Nat.xor_lt_two_pow (by omega) (by omega)
 show IntKind.i64.wrap ((BitVec.ofInt 64 (a : Int) ^^^ BitVec.ofInt 64 (b : Int)).toNat : Int) = _
 rw [lQ, lQ, BitVec.toNat_xor, BitVec.toNat_ofNat, BitVec.toNat_ofNat, Nat.mod_eq_of_lt (by omega), Nat.mod_eq_of_lt (by omega)]
 exact dR (by omega)
def sH (a b : Nat) : Nat := a ^^^ (a &&& b)
theorem aAa (a b i : Nat) : (sH a b).testBit i = (a.testBit i && !b.testBit i) := by
 unfold sH
 rw [Nat.testBit_xor, Nat.testBit_and]
 cases a.testBit i <;> cases b.testBit i <;> rfl
theorem aCJ {a b : Nat} (ha : a < 9223372036854775808) (hb : b < 9223372036854775808) : kW .andNot .i64 (a : Int) (b : Int) = (sH a b : Int) := by
 have h1 : sH a b < 2 ^ 63 := Nat.xor_lt_two_pow (by omega) (Nat.lt_of_le_of_lt Nat.and_le_left (by omega))
 show IntKind.i64.wrap ((BitVec.ofInt 64 (a : Int) &&& ~~~BitVec.ofInt 64 (b : Int)).toNat : Int) = _
 have e : (BitVec.ofInt 64 (a : Int) &&& ~~~BitVec.ofInt 64 (b : Int)).toNat = sH a b := by
   rw [lQ, lQ]
   apply Nat.eq_of_testBit_eq
   intro i
   rw [aAa, BitVec.testBit_toNat]
   by_cases hi : i < 64
   · rw [BitVec.getLsbD_and, BitVec.getLsbD_not, BitVec.getLsbD_ofNat, BitVec.getLsbD_ofNat]; simp [hi]
   · have : a.testBit i = false := Nat.testBit_lt_two_pow (Nat.lt_of_lt_of_le (by omega : a < 2 ^ 64) (Nat.pow_le_pow_right (by omega) (by omega)))
     rw [this]; simp [hi]
 rw [e]
 exact dR (by omega)
def nC (a : Nat) (n : Int) : Bool := a.testBit n.toNat
theorem aHK {a : Nat} {n : Int} (ha : a < 9223372036854775808) (hn : 0 ≤ n ∧ n ≤ 31) : kW .and .i64 ((a : Int).fdiv (2 ^ (min n.toNat 64))) 1 = if nC a n = true then 1 else 0 := by
 have e1 : min n.toNat 64 = n.toNat := by omega
 have e2 : (a : Int).fdiv (2 ^ n.toNat) = ((a / 2 ^ n.toNat : Nat) : Int) := by
   rw [Int.fdiv_eq_ediv_of_nonneg _ (Int.pow_nonneg (by omega))]; simp
 have h3 : a / 2 ^ n.toNat ≤ a := Nat.div_le_self _ _
 rw [e1, e2, show (1 : Int) = ((1 : Nat) : Int) from rfl, sG (by omega) (by omega)]
 unfold nC
 rw [Nat.testBit, Nat.shiftRight_eq_div_pow, Nat.one_and_eq_mod_two, Nat.and_one_is_mod]
 rcases Nat.mod_two_eq_zero_or_one (a / 2 ^ n.toNat) with h | h <;> rw [h] <;> rfl
theorem aEu {a : Nat} {n : Int} (ha : a < 9223372036854775808) (hn : 0 ≤ n ∧ n ≤ 31) : decide (kW .and .i64 ((a : Int).fdiv (2 ^ (min n.toNat 64))) 1 = 1) = nC a n := by
 rw [aHK ha hn]
 cases nC a n <;> rfl
theorem aBJ {n : Int} (hn : 0 ≤ n ∧ n ≤ 31) : IntKind.i64.wrap ((1 : Int) * 2 ^ (min n.toNat 64)) = ((2 ^ n.toNat : Nat) : Int) := by
 have e1 : min n.toNat 64 = n.toNat := by omega
 have h2 : 2 ^ n.toNat ≤ 2 ^ 31 := Nat.pow_le_pow_right (by omega) (by omega)
 rw [e1, Int.one_mul, show (2 : Int) ^ n.toNat = ((2 ^ n.toNat : Nat) : Int) by simp]
 generalize 2 ^ n.toNat = z at h2
 exact dR (by omega)
theorem aBK {n : Int} (hn : 0 ≤ n ∧ n ≤ 31) : 2 ^ n.toNat < 4294967296 := by
 have h2 : 2 ^ n.toNat ≤ 2 ^ 31 := Nat.pow_le_pow_right (by omega) (by omega)
 omega
def rO (a : Nat) (n : Int) : Nat := a ||| 2 ^ n.toNat
theorem sI {a : Nat} {n : Int} (ha : a < 4294967296) (hn : 0 ≤ n ∧ n ≤ 31) : rO a n < 4294967296 :=
 Nat.or_lt_two_pow (n := 32) ha (aBK hn)
theorem vZ (a : Nat) (n : Int) (i : Nat) : (rO a n).testBit i = (a.testBit i || decide (i = n.toNat)) := by
 unfold rO
 rw [Nat.testBit_or, Nat.testBit_two_pow]
 congr 1
 by_cases h : i = n.toNat
 · subst h; simp
 · rw [decide_eq_false h, decide_eq_false (fun e => h e.symm)]
theorem aAY {a : Nat} {n : Int} (ha : a < 4294967296) (hn : 0 ≤ n ∧ n ≤ 31) : kW .or .i64 (a : Int) (IntKind.i64.wrap ((1 : Int) * 2 ^ (min n.toNat 64))) = (rO a n : Int) := by
 have := aBK hn
 rw [aBJ hn, aHJ (by omega) (by omega)]; rfl
theorem aCK {a : Nat} {n : Int} (h : nC a n = true) : rO a n = a := by
 apply Nat.eq_of_testBit_eq
 intro i
 rw [vZ]
 by_cases e : i = n.toNat
 · subst e; unfold nC at h; rw [h]; rfl
 · simp [e]
theorem aCL {a : Nat} {n : Int} (h : nC a n = false) : a ^^^ 2 ^ n.toNat = rO a n := by
 apply Nat.eq_of_testBit_eq
 intro i
 rw [vZ, Nat.testBit_xor, Nat.testBit_two_pow]
 by_cases e : i = n.toNat
 · subst e; unfold nC at h; rw [h]; simp
 · rw [decide_eq_false e, decide_eq_false (fun e' => e e'.symm)]; simp
theorem aFc {a b : Nat} : sH a b = 0 ↔ ∀ i, a.testBit i = true → b.testBit i = true := by
 constructor
 · intro h i hi
   have := aAa a b i
   rw [h, hi] at this
   cases hb : b.testBit i
   · rw [hb] at this; simp at this
   · rfl
 · intro h
   apply Nat.eq_of_testBit_eq
   intro i
   rw [aAa, Nat.zero_testBit]
   cases ha : a.testBit i
   · rfl
   · rw [h i ha]; rfl
def pD {α : Type} (p : α → Bool) (f : α → Int) : Nat → List α → Nat
 | a, [] => a
 | a, x :: r => if p x = true then pD p f (rO a (f x)) r else pD p f a r
theorem yD {α : Type} {p : α → Bool} {f : α → Int} : ∀ (l : List α) (a : Nat), a < 4294967296 → (∀ x ∈ l, 0 ≤ f x ∧ f x ≤ 31) → pD p f a l < 4294967296
 | [], a, h, _ => h
 | x :: r, a, h, hf => by
   rw [pD]
   split
   · exact yD r _ (sI h (hf x (by simp))) (fun y hy => hf y (by simp [hy]))
   · exact yD r _ h (fun y hy => hf y (by simp [hy]))
theorem vA {α : Type} {p : α → Bool} {f : α → Int} (i : Nat) : ∀ (l : List α) (a : Nat), (pD p f a l).testBit i = (a.testBit i || l.any fun x => p x && decide (i = (f x).toNat))
 | [], a => by simp [pD]
 | x :: r, a => by
   rw [pD]
   split
   · rename_i h
     rw [vA i r, vZ, List.any_cons, h]; simp [Bool.or_assoc]
   · rename_i h
     rw [vA i r, List.any_cons]; simp [h]
def fY (b : UInt8) : Bool := (decide (97 ≤ b.toNat) && decide (b.toNat ≤ 122)) || (decide (48 ≤ b.toNat) && decide (b.toNat ≤ 57))
def eJ (s : ByteArray) : Bool := (s.data.toList.all fY) && decide (1 ≤ s.size) && decide (s.size ≤ 6)
def eL (n : NodeI) : Bool := hZ n.id 0 31 && eJ n.name && hZ n.drift 0 1000
def iO (s : ByteArray) (l : List NodeI) : Bool := l.any fun y => decide (y.name = s)
def iJ : Option NodeI → List NodeI → List NodeI → Bool
 | _, _, [] => true
 | none, q, x :: r => eL x && !(iO x.name q) && iJ (some x) (q ++ [x]) r
 | some y, q, x :: r => eL x && decide (y.id < x.id) && !(iO x.name q) && iJ (some x) (q ++ [x]) r
def dV (l : List NodeI) : Bool := hZ l.length 1 32 && iJ none [] l
theorem aAb : ∀ (l : List NodeI) (p : Option NodeI) (q : List NodeI), iJ p q l = true → ∀ x ∈ l, eL x = true
 | [], _, _, _, x, hx => by simp at hx
 | y :: r, p, q, h, x, hx => by
   have h1 : eL y = true ∧ iJ (some y) (q ++ [y]) r = true := by
     cases p <;> simp only [iJ, Bool.and_eq_true] at h
     · exact ⟨h.1.1, h.2⟩
     · exact ⟨h.1.1.1, h.2⟩
   rcases List.mem_cons.1 hx with rfl | hx
   · exact h1.1
   · exact aAb r _ _ h1.2 x hx
theorem kX {l : List NodeI} (h : dV l = true) : ∀ x ∈ l, eL x = true := by
 simp only [dV, Bool.and_eq_true] at h
 exact aAb l _ _ h.2
theorem sJ {l : List NodeI} (h : dV l = true) : 1 ≤ l.length ∧ l.length ≤ 32 := by
 simp only [dV, Bool.and_eq_true] at h
 have := eD.1 h.1; omega
theorem mN {x : NodeI} (h : eL x = true) : (0 ≤ x.id ∧ x.id ≤ 31) ∧ (0 ≤ x.drift ∧ x.drift ≤ 1000) ∧ eJ x.name = true := by
 simp only [eL, Bool.and_eq_true] at h
 exact ⟨eD.1 h.1.1, eD.1 h.2, h.1.2⟩
def iG (l : List NodeI) : Nat := pD (fun x => !x.passive) (·.id) 0 l
theorem yE {l : List NodeI} (h : dV l = true) : iG l < 4294967296 := yD l 0 (by omega) fun x hx => (mN (kX h x hx)).1
def setOf : List UInt8 := [97, 98, 99, 100, 101, 102, 103, 104, 105, 106, 107, 108, 109, 110, 111, 112, 113, 114, 115, 116, 117, 118, 119, 120, 121, 122, 48, 49, 50, 51, 52, 53, 54, 55, 56, 57]
theorem aGR : ∀ b : UInt8, setOf.contains b = fY b := by
 intro b
 have h : ∀ k : Fin 256, setOf.contains (UInt8.ofNat k.val) = fY (UInt8.ofNat k.val) := by decide +kernel
 have := h ⟨b.toNat, b.toNat_lt⟩
 simpa using this
theorem mQ {α : Type} {p : α → Bool} : ∀ (l : List α), l.dropWhile p = [] ↔ l.all p = true
 | [] => by simp
 | x :: r => by
   rw [List.dropWhile_cons]
   split
   · rename_i h; rw [mQ r]; simp [h]
   · rename_i h; simp [h]
theorem aGS (l : List UInt8) : Go.Lib.trimS l setOf = [] ↔ l.all fY = true := by
 have e : (fun x => setOf.contains x) = fY := funext aGR
 unfold Go.Lib.trimS Go.Lib.trimLeftS Go.Lib.trimRightS
 rw [mQ]
 show ((l.reverse.dropWhile fun x => setOf.contains x).reverse.all fun x => setOf.contains x) = true ↔ _
 rw [e]
 constructor
 · intro h
   have h2 : (l.reverse.dropWhile fY) = [] := by
     cases h3 : l.reverse.dropWhile fY with
     | nil => rfl
     | cons x r =>
       have h4 : fY x = false := by
         have := List.head?_dropWhile_not fY l.reverse
         rw [h3] at this; simpa using this
       rw [h3] at h
       simp [h4] at h
   rw [mQ] at h2
   simpa using h2
 · intro h
   have h2 : l.reverse.dropWhile fY = [] := (mQ _).2 (by simpa using h)
   rw [h2]; rfl
def aGT (s : ByteArray) : ByteArray := ⟨(Go.Lib.trimS s.data.toList setOf).toArray⟩
theorem jV (s : ByteArray) : aGT s = ⟨#[]⟩ ↔ s.data.toList.all fY = true := by
 rw [← aGS]
 unfold aGT
 constructor
 · intro h
   have h1 := congrArg (fun b : ByteArray => b.data.toList) h
   simpa using h1
 · intro h; rw [h]
theorem aKw {n : Int} (h : 0 ≤ n ∧ n ≤ 18446744073709551615) : IntKind.u64.wrap n = n := by
 simp only [IntKind.wrap, IntKind.bits, IntKind.signed]
 simp
 omega
theorem lR {l : List NodeI} {s : ByteArray} {j : Nat} {y : NodeI} (hy : l[j]? = some y) (h : y.name = s) : iO s l = true := by
 simp only [iO, List.any_eq_true, decide_eq_true_eq]
 exact ⟨y, List.mem_of_getElem? hy, h⟩
theorem aBL {q r : List NodeI} {x : NodeI} (h : eL x = true) (hn : iO x.name q = false) : iJ none q (x :: r) = iJ (some x) (q ++ [x]) r := by simp [iJ, h, hn]
theorem aBM {q r : List NodeI} {x y : NodeI} (h : eL x = true) (ho : y.id < x.id) (hn : iO x.name q = false) : iJ (some y) q (x :: r) = iJ (some x) (q ++ [x]) r := by simp [iJ, h, hn, ho]
theorem lE {p : Option NodeI} {q r : List NodeI} {x : NodeI} (h : eL x = false) : iJ p q (x :: r) = false := by cases p <;> simp [iJ, h]
theorem iL {p : Option NodeI} {q r : List NodeI} {x : NodeI} (h : iO x.name q = true) : iJ p q (x :: r) = false := by cases p <;> simp [iJ, h]
theorem lF {q r : List NodeI} {x y : NodeI} (h : ¬ y.id < x.id) : iJ (some y) q (x :: r) = false := by simp [iJ, h]
theorem fJ {p : Option NodeI} {q : List NodeI} : iJ p q [] = true := by cases p <;> rfl
def aKx : List NodeI → Int → Int
 | [], left => left
 | x :: r, left => if aEr x.name.size left < 0 then -1 else aKx r (aEr x.name.size left)
def szN (xs : List NodeI) (left : Int) : Int := if left - xs.length < 0 then -1 else aKx xs (left - xs.length)
structure MOwn (w : World) (lo : Nat) (tN tM tI tS : TypeId) (m : MedlI) : Prop where
 on : Own w lo tN 4 m.An m.ns.length m.cn (m.ns.flatMap NodeI.cells)
 om : Own w lo tM 3 m.Am m.ms.length m.cm (m.ms.flatMap ModeI.cells)
 ox : NOwn w lo tI m.ms
 od : Disj m.ms
 os : Own w lo tS 8 m.As m.ss.length m.cs (m.ss.flatMap SlotI.cells)
section
variable {w w' : World} {lo lo' n c s g : Nat} {tN tM tI tS t' : TypeId} {m : MedlI} {A : Option Addr} {cs : List Value}
theorem MOwn.ext (h : MOwn w lo tN tM tI tS m) (hb : Ext w w') : MOwn w' lo tN tM tI tS m := ⟨h.on.ext hb, h.om.ext hb, h.ox.ext hb, h.od, h.os.ext hb⟩
theorem MOwn.low (h : MOwn w lo tN tM tI tS m) (hl : lo' ≤ lo) : MOwn w lo' tN tM tI tS m := ⟨h.on.low hl, h.om.low hl, h.ox.low hl, h.od, h.os.low hl⟩
theorem MOwn.med (h : MOwn w lo tN tM tI tS m) : Med w.heap.size w m := ⟨Nat.le_refl _, h.on.sl, h.om.sl, h.ox.nexts, h.os.sl, h.on.cap⟩
theorem MOwn.sn (h : MOwn w lo tN tM tI tS m) : Sl w.heap.size w m.An (m.ns.flatMap NodeI.cells) := h.on.sl
theorem MOwn.sm (h : MOwn w lo tN tM tI tS m) : Sl w.heap.size w m.Am (m.ms.flatMap ModeI.cells) := h.om.sl
theorem MOwn.sx (h : MOwn w lo tN tM tI tS m) : Nexts w.heap.size w m.ms := h.ox.nexts
theorem MOwn.ss (h : MOwn w lo tN tM tI tS m) : Sl w.heap.size w m.As (m.ss.flatMap SlotI.cells) := h.os.sl
theorem MOwn.grownB {t' : TypeId} {ds : List Value} (h : MOwn w lo tN tM tI tS m) (k : Blk w g t' ds) (hg : w.grownBy w' (some g)) (ht : tN ≠ t' ∧ tM ≠ t' ∧ tI ≠ t' ∧ tS ≠ t') : MOwn w' lo tN tM tI tS m :=
 ⟨h.on.grownBlk hg (Own.neT h.on k ht.1), h.om.grownBlk hg (Own.neT h.om k ht.2.1), h.ox.grownB k hg ht.2.2.1, h.od, h.os.grownBlk hg (Own.neT h.os k ht.2.2.2)⟩
end
theorem aKy {k : Nat} : ((UInt8.ofNat (48 + k % 10)).toNat : Int) = 48 + (k : Int) % 10 := by
 have : k % 10 < 10 := Nat.mod_lt _ (by omega)
 rw [UInt8.toNat_ofNat']
 omega
theorem wu8 {n : Int} (h : 0 ≤ n ∧ n ≤ 255) : IntKind.u8.wrap n = n := by
 simp only [IntKind.wrap, IntKind.bits, IntKind.signed]
 simp
 omega
theorem Win.trans {lo hi : Nat} {a b c : World} (h : Win lo hi a b) (k : Win lo hi b c) : Win lo hi a c :=
 ⟨k.os.trans h.os, k.tape.trans h.tape, k.output.trans h.output, Q7l h.size k.size, fun i hi' ho => (k.block i (Nat.lt_of_lt_of_le hi' h.size) ho).trans (h.block i hi' ho)⟩
theorem NOwn.grownX {w w' : World} {lo : Nat} {t : TypeId} {xs : List ModeI} {row : Option Nat} (h : NOwn w lo t xs) (hg : w.grownBy w' row) (hr : ∀ x ∈ xs, ∀ g, row = some g → x.blk ≠ some g) : NOwn w' lo t xs :=
 fun x hx => ⟨(h x hx).1.grown hg (hr x hx), (h x hx).2⟩
theorem Disj.not {xs : List ModeI} (h : Disj xs) {i k : Nat} {x y : ModeI} (hx : xs[i]? = some x) (hy : xs[k]? = some y) (hik : i ≠ k) (g : Nat) (hg : y.blk = some g) : x.blk ≠ some g := fun e => h k i y x hy hx (fun e => hik e.symm) g hg e
def Kep (ts : List TypeId) (w w' : World) : Prop := w.heap.size ≤ w'.heap.size ∧ ∀ (k : Nat) (cur : Array Value) (t : TypeId) (e : Nat × Nat), w.heap[k]? = some (Obj.cells cur t e) → t ∉ ts → w'.heap[k]? = some (Obj.cells cur t e)
section
variable {ts : List TypeId} {w w' w'' : World} {lo hi lo' n c s g : Nat} {t : TypeId} {A : Option Addr} {cs : List Value} {xs : List ModeI}
theorem Kep.refl : Kep ts w w := ⟨Nat.le_refl _, fun _ _ _ _ h _ => h⟩
theorem Kep.trans (h : Kep ts w w') (k : Kep ts w' w'') : Kep ts w w'' := ⟨Q7l h.1 k.1, fun i cur t e hi ht => k.2 i cur t e (h.2 i cur t e hi ht) ht⟩
theorem Own.kep (h : Own w lo t s A n c cs) (k : Kep ts w w') (ht : t ∉ ts) : Own w' lo t s A n c cs := by
 refine ⟨h.1, ?_⟩
 rcases h.2 with h2 | ⟨g, cap, cur, hv, hlo, hh, r⟩
 · exact .inl h2
 · exact .inr ⟨g, cap, cur, hv, hlo, k.2 _ _ _ _ hh ht, r⟩
theorem Blk.kep (h : Blk w g t cs) (k : Kep ts w w') (ht : t ∉ ts) : Blk w' g t cs := k.2 _ _ _ _ h ht
theorem NOwn.kep (h : NOwn w lo t xs) (k : Kep ts w w') (ht : t ∉ ts) : NOwn w' lo t xs := fun x hx => ⟨(h x hx).1.kep k ht, (h x hx).2⟩
structure WinK (lo hi : Nat) (ts : List TypeId) (w w' : World) : Prop where
 win : Win lo hi w w'
 kep : Kep ts w w'
theorem WinK.refl (lo hi : Nat) (ts : List TypeId) (w : World) : WinK lo hi ts w w := ⟨Win.refl lo hi w, Kep.refl⟩
end
section
variable {P : Program} {e : List (Nat × Value)} {ty : TypeId} {w : World} {K : Value → World → Prop} {x y lo hi : Operand} {t : TypeId} {s : ByteArray} {k : IntKind} {m : Int}
end
def eS (s : ByteArray) : List Value := [.string s]
theorem aGU (s : ByteArray) : (eS s).length = 1 := rfl
end Go.Proofs.YtdoibplhbdkapaaGreatDoor
