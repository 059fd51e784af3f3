import Derived.Test.YtebcojpmdihjfaaDoorDoc
set_option linter.unusedVariables false
set_option linter.unusedSimpArgs false
namespace Go.Proofs.YtebcojpmdihjfaaDoor
open Go Go.RowKit Pp Go.Proofs.YtebcojpmdihjfaaDoorW.PrintWords

set_option maxRecDepth 100000 in
set_option maxHeartbeats 2000000 in
theorem joins_walk (v : Value) (ns : List Str) (s : Str) (w : World) (hv : Strs w v ns) : Calls Tryd.prog 4 #[v, .string (mk s)] w fun e w' => e = .returned (.bool true) ∧ Below w.heap.size w w' := by
  have HV := Lib.hid hv
  obtain ⟨A, c, rfl, hc, hC⟩ := hv
  have es : (mk s).size = s.length := mk_size s
  by_cases h1 : 30 < (ns.length : Int)
  · go_enter Tryd.func4, Tryd.ntmps4
    go_wp2_with fail
    refine (live_calls _).mono ?_
    rintro e w1 ⟨rfl, hB⟩
    have HB1 := Lib.hid (bstep (Below.refl _ _) hB)
    clear hB
    go_wp2_with fail
    go_ret
    exact ⟨rfl, HB1.out⟩
  replace h1 := Int.not_lt.1 h1
  by_cases h2 : 2000 < (s.length : Int)
  · go_enter Tryd.func4, Tryd.ntmps4
    go_wp2_with fail
    refine (live_calls _).mono ?_
    rintro e w1 ⟨rfl, hB⟩
    have HB1 := Lib.hid (bstep (Below.refl _ _) hB)
    clear hB
    go_wp2_with fail
    go_ret
    exact ⟨rfl, HB1.out⟩
  replace h2 := Int.not_lt.1 h2
  go_enter Tryd.func4, Tryd.ntmps4
  go_wp2_with fail
  go_loop [5] (fun i => ∃ k : Nat, k ≤ ns.length ∧ i = .int .i64 k ∧ Hid (∀ x ∈ ns.take k, x.length ≤ 300)) (fun i => ns.length - (intOf i).toNat)
  case atStart => exact ⟨0, Nat.zero_le _, rfl, Lib.hid (by simp)⟩
  case round =>
    obtain ⟨k, hk, rfl, HT⟩ := hrel
    by_cases hlt : k < ns.length
    · obtain ⟨y, hy⟩ : ∃ y, ns[k]? = some y := ⟨_, List.getElem?_eq_getElem hlt⟩
      obtain ⟨ad, rfl, hx⟩ := Kd.at_string hC k (by omega) (by omega)
      rw [rd_mk ns k y hy, Int.toNat_natCast] at hx
      have ez : (mk y).size = y.length := mk_size y
      have z0 : (0 : Int) ≤ (k : Int) := by omega
      have z1 : (k : Int) < (ns.length : Int) := by omega
      have z2 : (k : Int) < (c : Int) := by omega
      by_cases h300 : 300 < (y.length : Int)
      · go_wp2_with fail
        refine (live_calls _).mono ?_
        rintro e w1 ⟨rfl, hB⟩
        have HB1 := Lib.hid (bstep (Below.refl _ _) hB)
        clear hB
        go_wp2_with fail
        go_ret
        exact ⟨rfl, HB1.out⟩
      · go_wp2_with fail
        go_round
        case rel => exact ⟨k + 1, by omega, by go_num, Lib.hid (take_all HT.out hy (by omega))⟩
        case measure => simp [intOf]; omega
    · have hke : k = ns.length := by omega
      subst hke
      rw [List.take_length] at HT
      have z3 : (join ns).length ≤ 9031 := join_bound HT.out (by omega)
      have z4 : (join ns).length ≤ 70368744177664 := by omega
      have z5 : ns.length ≤ 140737488355328 := by omega
      have z6 : (join ns).length ≤ 1099511627776 := by omega
      have z7 : ns.length ≤ 1099511627776 := by omega
      have h5 : s.length ≤ 4398046511104 := by omega
      obtain ⟨j, hj⟩ : ∃ j, join ns = j := ⟨_, rfl⟩
      rw [hj] at z3 z4 z6
      have tj := mk_list j
      have ts := mk_list s
      cases hs : split s with
      | none =>
        go_wp2_with fail
        refine (split_none s hs h5 _).mono ?_
        rintro e w1 ⟨rfl, hB⟩
        have HB1 := Lib.hid (bstep (Below.refl _ _) hB)
        have HV1 := Lib.hid (HV.out.below (bstep (Below.refl _ _) hB))
        clear hB
        go_wp2_with fail
        refine (join_lit _ ns j hj _ HV1.out z4 z5).mono ?_
        rintro e w2 ⟨rfl, hB⟩
        have HB2 := Lib.hid (bstep HB1.out hB)
        have HV2 := Lib.hid (HV1.out.below (bstep (Below.refl _ _) hB))
        clear hB
        go_wp2_with fail
        refine (refjoin_lit _ ns j hj _ HV2.out z7 z6).mono ?_
        rintro e w3 ⟨rfl, hB⟩
        have HB3 := Lib.hid (bstep HB2.out hB)
        have HV3 := Lib.hid (HV2.out.below (bstep (Below.refl _ _) hB))
        clear hB
        go_wp2_with fail
        refine (live_calls _).mono ?_
        rintro e w4 ⟨rfl, hB⟩
        have HB4 := Lib.hid (bstep HB3.out hB)
        clear hB
        go_wp2_with fail
        go_ret
        exact ⟨rfl, HB4.out⟩
      | some ms =>
        have z8 : ms.length ≤ 140737488355328 := by have := split_length hs; omega
        go_wp2_with fail
        refine (split_good s ms hs h5 _).mono ?_
        rintro e w1 ⟨v1, rfl, hv, hB⟩
        have HB1 := Lib.hid (bstep (Below.refl _ _) hB)
        have HV1 := Lib.hid (HV.out.below (bstep (Below.refl _ _) hB))
        have HW1 := Lib.hid hv
        obtain ⟨A1, c1, rfl, hc1, _⟩ := hv
        clear hB
        go_wp2_with fail
        refine (join_lit _ ns j hj _ HV1.out z4 z5).mono ?_
        rintro e w2 ⟨rfl, hB⟩
        have HB2 := Lib.hid (bstep HB1.out hB)
        have HV2 := Lib.hid (HV1.out.below (bstep (Below.refl _ _) hB))
        have HW2 := Lib.hid (HW1.out.below (bstep (Below.refl _ _) hB))
        clear hB
        go_wp2_with fail
        refine (refjoin_lit _ ns j hj _ HV2.out z7 z6).mono ?_
        rintro e w3 ⟨rfl, hB⟩
        have HB3 := Lib.hid (bstep HB2.out hB)
        have HV3 := Lib.hid (HV2.out.below (bstep (Below.refl _ _) hB))
        have HW3 := Lib.hid (HW2.out.below (bstep (Below.refl _ _) hB))
        clear hB
        go_wp2_with fail
        refine (join_lit _ ms s (join_split hs) _ HW3.out (by omega) z8).mono ?_
        rintro e w4 ⟨rfl, hB⟩
        have HB4 := Lib.hid (bstep HB3.out hB)
        have HW4 := Lib.hid (HW3.out.below (bstep (Below.refl _ _) hB))
        clear hB
        go_wp2_with fail
        refine (live_calls _).mono ?_
        rintro e w5 ⟨rfl, hB⟩
        have HB5 := Lib.hid (bstep HB4.out hB)
        clear hB
        go_wp2_with fail
        go_ret
        exact ⟨rfl, HB5.out⟩
end Go.Proofs.YtebcojpmdihjfaaDoor
