import Derived.Test.YtebcojpmdihjfaaDoorDoc
set_option linter.unusedVariables false
set_option linter.unusedSimpArgs false
namespace Go.Proofs.YtebcojpmdihjfaaDoor
open Go Go.RowKit Pp Go.Proofs.YtebcojpmdihjfaaDoorW.PrintWords

set_option maxRecDepth 100000 in
set_option maxHeartbeats 2000000 in
theorem names_walk (v : Value) (ns : List Str) (w : World) (hv : Strs w v ns) (hbig : ∀ x ∈ ns, x.length ≤ 1099511627776) : Calls Tryd.prog 8 #[v] w fun e w' => e = .returned (.bool true) ∧ Below w.heap.size w w' := by
  have HV := Lib.hid hv
  have HG := Lib.hid hbig
  obtain ⟨A, c, rfl, hc, hC⟩ := hv
  clear hbig
  by_cases h1 : 30 < (ns.length : Int)
  · go_enter Tryd.func8, Tryd.ntmps8
    go_wp2_with fail
    refine (live_calls _).mono ?_
    rintro e w1 ⟨rfl, hB⟩
    have HB1 := Lib.hid (bstep (Below.refl _ _) hB)
    clear hB
    go_wp2_with fail
    go_ret
    exact ⟨rfl, HB1.out⟩
  replace h1 := Int.not_lt.1 h1
  go_enter Tryd.func8, Tryd.ntmps8
  obtain ⟨m, hm⟩ : ∃ m, ns.length = m := ⟨_, rfl⟩
  rw [hm] at hc HV h1 ⊢
  have HM := Lib.hid hm
  clear hm hC
  go_wp2_with fail
  go_loopw [3] (fun i W => ∃ k : Nat, k ≤ m ∧ i = .int .i64 k ∧ Hid (∀ x ∈ ns.take k, (okName x = true ∧ (47 : UInt8) ∉ x) ∧ x.length ≤ 300) ∧ Hid (Below w.heap.size w W) ∧ Hid (Strs W (.slice A m c) ns)) (fun i _ => m - (intOf i).toNat)
  case atStart => exact ⟨0, Nat.zero_le _, rfl, Lib.hid (by simp), Lib.hid (Below.refl _ _), HV⟩
  case round =>
    obtain ⟨k, hk, rfl, HT, HB, HW⟩ := hrel
    by_cases hlt : k < m
    · obtain ⟨y, hy⟩ : ∃ y, ns[k]? = some y := ⟨_, List.getElem?_eq_getElem (by have := HM.out; omega)⟩
      have hcell : ∀ W : World, Strs W (.slice A m c) ns → ∃ ad, A = some ad ∧ W.cell? (ad.add k) = some (.string (mk y)) := fun W hW => by
        obtain ⟨A', c', hv, hc', hC⟩ := hW
        injection hv with e1 e2 e3
        subst e1
        obtain ⟨ad, e, hh⟩ := Kd.at_string hC (k : Int) (by omega) (by omega)
        rw [rd_mk ns k y hy, Int.toNat_natCast] at hh
        exact ⟨ad, e, hh⟩
      have HX := Lib.hid hcell
      obtain ⟨ad, rfl, hx⟩ := hcell wr HW.out
      clear hcell
      have ez : (mk y).size = y.length := mk_size y
      have hyl := HG.out y (List.mem_of_getElem? hy)
      have z0 : (0 : Int) ≤ (k : Int) := by omega
      have z1 : (k : Int) < (m : Int) := by omega
      have z2 : (k : Int) < (c : Int) := by omega
      have hcat : (⟨#[47]⟩ : ByteArray) ++ mk y = mk (47 :: y) := mk_append [47] y
      have h47 : (47 :: y).length ≤ 4398046511104 := by simp; omega
      have HY := Lib.hid hy
      clear hy
      have z8 : (1 : Int) + (y.length : Int) ≤ 9223372036854775807 := by omega
      by_cases h300 : 300 < (y.length : Int)
      · cases hs : split (47 :: y) with
        | none =>
          go_wp2_with fail
          refine (split_none (47 :: y) hs h47 _).mono ?_
          rintro e w1 ⟨rfl, hB⟩
          have HB1 := Lib.hid (bstep HB.out hB)
          have HW1 := Lib.hid (HW.out.below (bstep (Below.refl _ _) hB))
          clear hB
          obtain ⟨ad1, had1, hx1⟩ := HX.out _ HW1.out
          cases had1
          go_wp2_with fail
          refine (live_calls _).mono ?_
          rintro e w2 ⟨rfl, hB⟩
          have HB2 := Lib.hid (bstep HB1.out hB)
          clear hB
          go_wp2_with fail
          go_ret
          exact ⟨rfl, HB2.out⟩
        | some ms =>
          go_wp2_with fail
          refine (split_good (47 :: y) ms hs h47 _).mono ?_
          rintro e w1 ⟨v1, rfl, hv, hB⟩
          have HB1 := Lib.hid (bstep HB.out hB)
          have HW1 := Lib.hid (HW.out.below (bstep (Below.refl _ _) hB))
          have HS1 := Lib.hid hv
          obtain ⟨A1, c1, rfl, hc1, _⟩ := hv
          clear hB
          obtain ⟨ad1, had1, hx1⟩ := HX.out _ HW1.out
          cases had1
          go_wp2_with fail
          refine (live_calls _).mono ?_
          rintro e w2 ⟨rfl, hB⟩
          have HB2 := Lib.hid (bstep HB1.out hB)
          clear hB
          go_wp2_with fail
          go_ret
          exact ⟨rfl, HB2.out⟩
      · cases hs : split (47 :: y) with
        | none =>
          go_wp2_with fail
          refine (split_none (47 :: y) hs h47 _).mono ?_
          rintro e w1 ⟨rfl, hB⟩
          have HB1 := Lib.hid (bstep HB.out hB)
          have HW1 := Lib.hid (HW.out.below (bstep (Below.refl _ _) hB))
          clear hB
          obtain ⟨ad1, had1, hx1⟩ := HX.out _ HW1.out
          cases had1
          go_wp2_with fail
          refine (live_calls _).mono ?_
          rintro e w2 ⟨rfl, hB⟩
          have HB2 := Lib.hid (bstep HB1.out hB)
          clear hB
          go_wp2_with fail
          go_ret
          exact ⟨rfl, HB2.out⟩
        | some ms =>
          by_cases hms : ms.length = 1
          · go_wp2_with fail
            refine (split_good (47 :: y) ms hs h47 _).mono ?_
            rintro e w1 ⟨v1, rfl, hv, hB⟩
            have HB1 := Lib.hid (bstep HB.out hB)
            have HW1 := Lib.hid (HW.out.below (bstep (Below.refl _ _) hB))
            have HS1 := Lib.hid hv
            obtain ⟨A1, c1, rfl, hc1, _⟩ := hv
            clear hB
            obtain ⟨ad1, had1, hx1⟩ := HX.out _ HW1.out
            cases had1
            go_wp2_with fail
            go_roundw
            case rel => exact ⟨k + 1, by omega, by go_num, Lib.hid (take_all HT.out HY.out ⟨one_name hs hms, by omega⟩), HB1, HW1⟩
            case measure => simp [intOf]; omega
          · have hne : ((ms.length : Int) != 1) = true := by rw [bne_iff_ne]; omega
            go_wp2_with fail
            refine (split_good (47 :: y) ms hs h47 _).mono ?_
            rintro e w1 ⟨v1, rfl, hv, hB⟩
            have HB1 := Lib.hid (bstep HB.out hB)
            have HW1 := Lib.hid (HW.out.below (bstep (Below.refl _ _) hB))
            have HS1 := Lib.hid hv
            obtain ⟨A1, c1, rfl, hc1, _⟩ := hv
            clear hB
            obtain ⟨ad1, had1, hx1⟩ := HX.out _ HW1.out
            cases had1
            go_wp2_with fail
            refine (live_calls _).mono ?_
            rintro e w2 ⟨rfl, hB⟩
            have HB2 := Lib.hid (bstep HB1.out hB)
            clear hB
            go_wp2_with fail
            go_ret
            exact ⟨rfl, HB2.out⟩
    · have hke : k = m := by omega
      subst hke
      have hall : ∀ x ∈ ns, (okName x = true ∧ (47 : UInt8) ∉ x) ∧ x.length ≤ 300 := by
        have := HT.out
        rwa [List.take_of_length_le (by have := HM.out; omega)] at this
      have hsj := split_join (ns := ns) (fun q hq => (hall q hq).1)
      have z3 : (join ns).length ≤ 9031 := join_bound (fun q hq => (hall q hq).2) (by have := HM.out; omega)
      have z4 : (join ns).length ≤ 70368744177664 := by omega
      have z5 : ns.length ≤ 140737488355328 := by have := HM.out; omega
      have z7 : ns.length ≤ 1099511627776 := by have := HM.out; omega
      obtain ⟨j, hj⟩ : ∃ j, join ns = j := ⟨_, rfl⟩
      rw [hj] at z3 z4 hsj
      have z6 : j.length ≤ 4398046511104 := by omega
      clear hall
      go_wp2_with fail
      refine (join_lit _ ns j hj _ HW.out z4 z5).mono ?_
      rintro e w1 ⟨rfl, hB⟩
      have HB1 := Lib.hid (bstep HB.out hB)
      have HW1 := Lib.hid (HW.out.below (bstep (Below.refl _ _) hB))
      clear hB
      go_wp2_with fail
      refine (split_good j ns hsj z6 _).mono ?_
      rintro e w2 ⟨v2, rfl, hv, hB⟩
      have HB2 := Lib.hid (bstep HB1.out hB)
      have HW2 := Lib.hid (HW1.out.below (bstep (Below.refl _ _) hB))
      have HS2 := Lib.hid hv
      obtain ⟨A2, c2, rfl, hc2, _⟩ := hv
      clear hB
      go_wp2_with fail
      refine (same_true _ _ ns _ z7 HS2.out HW2.out).mono ?_
      rintro e w3 ⟨rfl, hB⟩
      have HB3 := Lib.hid (bstep HB2.out hB)
      have HW3 := Lib.hid (HW2.out.below (bstep (Below.refl _ _) hB))
      have HS3 := Lib.hid (HS2.out.below (bstep (Below.refl _ _) hB))
      clear hB
      go_wp2_with fail
      refine (live_calls _).mono ?_
      rintro e w4 ⟨rfl, hB⟩
      have HB4 := Lib.hid (bstep HB3.out hB)
      clear hB
      go_wp2_with fail
      go_ret
      exact ⟨rfl, HB4.out⟩
end Go.Proofs.YtebcojpmdihjfaaDoor
