import Derived.Test.YtebcojpmdihjfaaDoorDoc
set_option linter.unusedVariables false
set_option linter.unusedSimpArgs false
namespace Go.Proofs.YtebcojpmdihjfaaDoor
open Go Go.RowKit Pp Go.Proofs.YtebcojpmdihjfaaDoorW.PrintWords

set_option maxRecDepth 100000 in
set_option maxHeartbeats 2000000 in
theorem within_walk (a b c : Str) (w : World) : Calls Tryd.prog 6 #[.string (mk a), .string (mk b), .string (mk c)] w fun e w' => e = .returned (.bool true) ∧ Below w.heap.size w w' := by
  have ea : (mk a).size = a.length := mk_size a
  have eb : (mk b).size = b.length := mk_size b
  have ec : (mk c).size = c.length := mk_size c
  by_cases h1 : 500 < (a.length : Int)
  · go_enter Tryd.func6, Tryd.ntmps6
    go_wp2_with fail
    refine (live_calls _).mono ?_
    rintro e w1 ⟨rfl, hB⟩
    have HB1 := Lib.hid (bstep (Below.refl _ _) hB)
    clear hB
    go_wp2_with fail
    go_ret
    exact ⟨rfl, HB1.out⟩
  replace h1 := Int.not_lt.1 h1
  by_cases h2 : 500 < (b.length : Int)
  · go_enter Tryd.func6, Tryd.ntmps6
    go_wp2_with fail
    refine (live_calls _).mono ?_
    rintro e w1 ⟨rfl, hB⟩
    have HB1 := Lib.hid (bstep (Below.refl _ _) hB)
    clear hB
    go_wp2_with fail
    go_ret
    exact ⟨rfl, HB1.out⟩
  replace h2 := Int.not_lt.1 h2
  by_cases h3 : 500 < (c.length : Int)
  · go_enter Tryd.func6, Tryd.ntmps6
    go_wp2_with fail
    refine (live_calls _).mono ?_
    rintro e w1 ⟨rfl, hB⟩
    have HB1 := Lib.hid (bstep (Below.refl _ _) hB)
    clear hB
    go_wp2_with fail
    go_ret
    exact ⟨rfl, HB1.out⟩
  replace h3 := Int.not_lt.1 h3
  have h4 : a.length ≤ 4398046511104 := by omega
  have h5 : b.length ≤ 4398046511104 := by omega
  have h6 : c.length ≤ 4398046511104 := by omega
  have ta := mk_list a
  have tb := mk_list b
  cases hab : within a b with
  | false =>
    go_enter Tryd.func6, Tryd.ntmps6
    go_wp2_with fail
    refine (within_lit a b false hab h4 h5 _).mono ?_
    rintro e w1 ⟨rfl, hB⟩
    have HB1 := Lib.hid (bstep (Below.refl _ _) hB)
    clear hB
    go_wp2_with fail
    refine (within_lit a b false hab h4 h5 _).mono ?_
    rintro e w2 ⟨rfl, hB⟩
    have HB2 := Lib.hid (bstep HB1.out hB)
    clear hB
    go_wp2_with fail
    refine (live_calls _).mono ?_
    rintro e w3 ⟨rfl, hB⟩
    have HB3 := Lib.hid (bstep HB2.out hB)
    clear hB
    go_wp2_with fail
    go_ret
    exact ⟨rfl, HB3.out⟩
  | true =>
    cases hba : within b a with
    | false =>
      cases hbc : within b c with
      | false =>
        go_enter Tryd.func6, Tryd.ntmps6
        go_wp2_with fail
        refine (within_lit a b true hab h4 h5 _).mono ?_
        rintro e w1 ⟨rfl, hB⟩
        have HB1 := Lib.hid (bstep (Below.refl _ _) hB)
        clear hB
        go_wp2_with fail
        refine (within_lit b c false hbc h5 h6 _).mono ?_
        rintro e w2 ⟨rfl, hB⟩
        have HB2 := Lib.hid (bstep HB1.out hB)
        clear hB
        go_wp2_with fail
        refine (within_lit a b true hab h4 h5 _).mono ?_
        rintro e w3 ⟨rfl, hB⟩
        have HB3 := Lib.hid (bstep HB2.out hB)
        clear hB
        go_wp2_with fail
        refine (within_lit b a false hba h5 h4 _).mono ?_
        rintro e w4 ⟨rfl, hB⟩
        have HB4 := Lib.hid (bstep HB3.out hB)
        clear hB
        go_wp2_with fail
        refine (live_calls _).mono ?_
        rintro e w5 ⟨rfl, hB⟩
        have HB5 := Lib.hid (bstep HB4.out hB)
        clear hB
        go_wp2_with fail
        go_ret
        exact ⟨rfl, HB5.out⟩
      | true =>
        have hac := within_trans hab hbc
        go_enter Tryd.func6, Tryd.ntmps6
        go_wp2_with fail
        refine (within_lit a b true hab h4 h5 _).mono ?_
        rintro e w1 ⟨rfl, hB⟩
        have HB1 := Lib.hid (bstep (Below.refl _ _) hB)
        clear hB
        go_wp2_with fail
        refine (within_lit b c true hbc h5 h6 _).mono ?_
        rintro e w2 ⟨rfl, hB⟩
        have HB2 := Lib.hid (bstep HB1.out hB)
        clear hB
        go_wp2_with fail
        refine (within_lit a c true hac h4 h6 _).mono ?_
        rintro e w3 ⟨rfl, hB⟩
        have HB3 := Lib.hid (bstep HB2.out hB)
        clear hB
        go_wp2_with fail
        refine (within_lit a b true hab h4 h5 _).mono ?_
        rintro e w4 ⟨rfl, hB⟩
        have HB4 := Lib.hid (bstep HB3.out hB)
        clear hB
        go_wp2_with fail
        refine (within_lit b a false hba h5 h4 _).mono ?_
        rintro e w5 ⟨rfl, hB⟩
        have HB5 := Lib.hid (bstep HB4.out hB)
        clear hB
        go_wp2_with fail
        refine (live_calls _).mono ?_
        rintro e w6 ⟨rfl, hB⟩
        have HB6 := Lib.hid (bstep HB5.out hB)
        clear hB
        go_wp2_with fail
        go_ret
        exact ⟨rfl, HB6.out⟩
    | true =>
      have he := within_antisymm hab hba
      subst he
      cases hbc : within a c with
      | false =>
        go_enter Tryd.func6, Tryd.ntmps6
        go_wp2_with fail
        refine (within_lit a a true hab h4 h5 _).mono ?_
        rintro e w1 ⟨rfl, hB⟩
        have HB1 := Lib.hid (bstep (Below.refl _ _) hB)
        clear hB
        go_wp2_with fail
        refine (within_lit a c false hbc h4 h6 _).mono ?_
        rintro e w2 ⟨rfl, hB⟩
        have HB2 := Lib.hid (bstep HB1.out hB)
        clear hB
        go_wp2_with fail
        refine (within_lit a a true hab h4 h5 _).mono ?_
        rintro e w3 ⟨rfl, hB⟩
        have HB3 := Lib.hid (bstep HB2.out hB)
        clear hB
        go_wp2_with fail
        refine (within_lit a a true hba h5 h4 _).mono ?_
        rintro e w4 ⟨rfl, hB⟩
        have HB4 := Lib.hid (bstep HB3.out hB)
        clear hB
        go_wp2_with fail
        refine (live_calls _).mono ?_
        rintro e w5 ⟨rfl, hB⟩
        have HB5 := Lib.hid (bstep HB4.out hB)
        clear hB
        go_wp2_with fail
        go_ret
        exact ⟨rfl, HB5.out⟩
      | true =>
        have hac := hbc
        go_enter Tryd.func6, Tryd.ntmps6
        go_wp2_with fail
        refine (within_lit a a true hab h4 h5 _).mono ?_
        rintro e w1 ⟨rfl, hB⟩
        have HB1 := Lib.hid (bstep (Below.refl _ _) hB)
        clear hB
        go_wp2_with fail
        refine (within_lit a c true hbc h4 h6 _).mono ?_
        rintro e w2 ⟨rfl, hB⟩
        have HB2 := Lib.hid (bstep HB1.out hB)
        clear hB
        go_wp2_with fail
        refine (within_lit a c true hac h4 h6 _).mono ?_
        rintro e w3 ⟨rfl, hB⟩
        have HB3 := Lib.hid (bstep HB2.out hB)
        clear hB
        go_wp2_with fail
        refine (within_lit a a true hab h4 h5 _).mono ?_
        rintro e w4 ⟨rfl, hB⟩
        have HB4 := Lib.hid (bstep HB3.out hB)
        clear hB
        go_wp2_with fail
        refine (within_lit a a true hba h5 h4 _).mono ?_
        rintro e w5 ⟨rfl, hB⟩
        have HB5 := Lib.hid (bstep HB4.out hB)
        clear hB
        go_wp2_with fail
        refine (live_calls _).mono ?_
        rintro e w6 ⟨rfl, hB⟩
        have HB6 := Lib.hid (bstep HB5.out hB)
        clear hB
        go_wp2_with fail
        go_ret
        exact ⟨rfl, HB6.out⟩
end Go.Proofs.YtebcojpmdihjfaaDoor
