import Derived.Test.YtebcojpmdihjfaaDoorDoc
set_option linter.unusedVariables false
set_option linter.unusedSimpArgs false
namespace Go.Proofs.YtebcojpmdihjfaaDoor
open Go Go.RowKit Pp Go.Proofs.YtebcojpmdihjfaaDoorW.PrintWords

set_option maxRecDepth 100000 in
set_option maxHeartbeats 2000000 in
theorem splits_walk (s t : Str) (w : World) : Calls Tryd.prog 3 #[.string (mk s), .string (mk t)] w fun e w' => e = .returned (.bool true) ∧ Below w.heap.size w w' := by
  have es : (mk s).size = s.length := mk_size s
  have et : (mk t).size = t.length := mk_size t
  by_cases h1 : 2000 < (s.length : Int)
  · go_enter Tryd.func3, Tryd.ntmps3
    go_wp2_with fail
    refine (live_calls _).mono ?_
    rintro e w1 ⟨rfl, hB⟩
    have HB1 := Lib.hid (bstep (Below.refl _ _) hB)
    clear hB
    go_wp2_with fail
    go_ret
    exact ⟨rfl, HB1.out⟩
  replace h1 := Int.not_lt.1 h1
  by_cases h2 : 2000 < (t.length : Int)
  · go_enter Tryd.func3, Tryd.ntmps3
    go_wp2_with fail
    refine (live_calls _).mono ?_
    rintro e w1 ⟨rfl, hB⟩
    have HB1 := Lib.hid (bstep (Below.refl _ _) hB)
    clear hB
    go_wp2_with fail
    go_ret
    exact ⟨rfl, HB1.out⟩
  replace h2 := Int.not_lt.1 h2
  have h3 : s.length ≤ 1099511627776 := by omega
  have h4 : t.length ≤ 1099511627776 := by omega
  have h5 : s.length ≤ 4398046511104 := by omega
  have h6 : t.length ≤ 4398046511104 := by omega
  have h7 := Lib.hid (show (namesV s).length ≤ 1099511627776 from by have := namesV_length s; omega)
  obtain ⟨x, hx⟩ : ∃ x, errV s = x := ⟨_, rfl⟩
  obtain ⟨p, n, y, hp⟩ : ∃ p n y, parentV s = (p, n, y) := ⟨_, _, _, rfl⟩
  obtain ⟨b, hb⟩ : ∃ b, within s t = b := ⟨_, rfl⟩
  have tp := mk_list p
  have tn := mk_list n
  go_enter Tryd.func3, Tryd.ntmps3
  go_wp2_with fail
  refine (split_at s x hx h5 _).mono ?_
  rintro e w1 ⟨v1, rfl, hv, hB⟩
  have HB1 := Lib.hid (bstep (Below.refl _ _) hB)
  have HV1 := Lib.hid hv
  obtain ⟨A1, c1, rfl, hc1, _⟩ := hv
  clear hB
  go_wp2_with fail
  refine (refsplit_at s x hx h3 _).mono ?_
  rintro e w2 ⟨v2, rfl, hv, hB⟩
  have HB2 := Lib.hid (bstep HB1.out hB)
  have HV2 := Lib.hid (HV1.out.below (bstep (Below.refl _ _) hB))
  have HW2 := Lib.hid hv
  obtain ⟨A2, c2, rfl, hc2, _⟩ := hv
  clear hB
  go_wp2_with fail
  refine (parent_lit s p n y hp h5 _).mono ?_
  rintro e w3 ⟨rfl, hB⟩
  have HB3 := Lib.hid (bstep HB2.out hB)
  have HV3 := Lib.hid (HV2.out.below (bstep (Below.refl _ _) hB))
  have HW3 := Lib.hid (HW2.out.below (bstep (Below.refl _ _) hB))
  clear hB
  go_wp2_with fail
  refine (refparent_lit s p n y hp h3 _).mono ?_
  rintro e w4 ⟨rfl, hB⟩
  have HB4 := Lib.hid (bstep HB3.out hB)
  have HV4 := Lib.hid (HV3.out.below (bstep (Below.refl _ _) hB))
  have HW4 := Lib.hid (HW3.out.below (bstep (Below.refl _ _) hB))
  clear hB
  go_wp2_with fail
  refine (same_true _ _ _ _ h7.out HV4.out HW4.out).mono ?_
  rintro e w5 ⟨rfl, hB⟩
  have HB5 := Lib.hid (bstep HB4.out hB)
  have HV5 := Lib.hid (HV4.out.below (bstep (Below.refl _ _) hB))
  have HW5 := Lib.hid (HW4.out.below (bstep (Below.refl _ _) hB))
  clear hB
  go_wp2_with fail
  refine (within_lit s t b hb h5 h6 _).mono ?_
  rintro e w6 ⟨rfl, hB⟩
  have HB6 := Lib.hid (bstep HB5.out hB)
  clear hB
  go_wp2_with fail
  refine (refwithin_lit s t b hb h3 h4 _).mono ?_
  rintro e w7 ⟨rfl, hB⟩
  have HB7 := Lib.hid (bstep HB6.out hB)
  clear hB
  go_wp2_with fail
  refine (live_calls _).mono ?_
  rintro e w8 ⟨rfl, hB⟩
  have HB8 := Lib.hid (bstep HB7.out hB)
  clear hB
  go_wp2_with fail
  go_ret
  exact ⟨rfl, HB8.out⟩
end Go.Proofs.YtebcojpmdihjfaaDoor
