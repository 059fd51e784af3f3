import Derived.Test.YtebcojpmdihjfaaDoorDoc
set_option linter.unusedVariables false
set_option linter.unusedSimpArgs false
namespace Go.Proofs.YtebcojpmdihjfaaDoor
open Go Go.RowKit Pp Go.Proofs.YtebcojpmdihjfaaDoorW.PrintWords

set_option maxRecDepth 100000 in
set_option maxHeartbeats 2000000 in
theorem up_walk (s : Str) (w : World) : Calls Tryd.prog 7 #[.string (mk s)] w fun e w' => e = .returned (.bool true) ∧ Below w.heap.size w w' := by
  have es : (mk s).size = s.length := mk_size s
  by_cases h1 : 500 < (s.length : Int)
  · go_enter Tryd.func7, Tryd.ntmps7
    go_wp2_with fail
    refine (live_calls _).mono ?_
    rintro e w1 ⟨rfl, hB⟩
    have HB1 := Lib.hid (bstep (Below.refl _ _) hB)
    clear hB
    go_wp2_with fail
    go_ret
    exact ⟨rfl, HB1.out⟩
  replace h1 := Int.not_lt.1 h1
  have h5 : s.length ≤ 4398046511104 := by omega
  cases hs : split s with
  | none =>
    go_enter Tryd.func7, Tryd.ntmps7
    go_wp2_with fail
    refine (split_none s hs h5 _).mono ?_
    rintro e w1 ⟨rfl, hB⟩
    have HB1 := Lib.hid (bstep (Below.refl _ _) hB)
    clear hB
    go_wp2_with fail
    refine (live_calls _).mono ?_
    rintro e w2 ⟨rfl, hB⟩
    have HB2 := Lib.hid (bstep HB1.out hB)
    clear hB
    go_wp2_with fail
    go_ret
    exact ⟨rfl, HB2.out⟩
  | some ns =>
    go_enter Tryd.func7, Tryd.ntmps7
    go_wp2_with fail
    refine (split_good s ns hs h5 _).mono ?_
    rintro e w1 ⟨v1, rfl, hv, hB⟩
    have HB1 := Lib.hid (bstep (Below.refl _ _) hB)
    have HV1 := Lib.hid hv
    obtain ⟨A1, c1, rfl, hc1, hC⟩ := hv
    clear hB
    obtain ⟨m, hm⟩ : ∃ m, ns.length = m := ⟨_, rfl⟩
    have hj := join_split hs
    have hml : m ≤ 500 := by have := split_length hs; omega
    rw [hm] at hc1 HV1 ⊢
    have HM := Lib.hid hm
    clear hm hC
    go_wp2_with fail
    go_loopw [5, 6] (fun a i W => ∃ k : Nat, k ≤ m ∧ i = .int .i64 k ∧ a = .string (mk (join (ns.take (m - k)))) ∧ Hid (Below w.heap.size w W) ∧ Hid (Strs W (.slice A1 m c1) ns)) (fun _ i _ => m - (intOf i).toNat)
    case atStart => exact ⟨0, Nat.zero_le _, rfl, by rw [Nat.sub_zero, List.take_of_length_le (by have := HM.out; omega), hj], HB1, HV1⟩
    case round =>
      obtain ⟨k, hk, rfl, rfl, HB, HV⟩ := hrel
      by_cases hlt : k < m
      · obtain ⟨j, hjk⟩ : ∃ j, m = k + j + 1 := ⟨m - k - 1, by omega⟩
        have hmk : m - k = j + 1 := by omega
        have hjl : j < ns.length := by have := HM.out; omega
        obtain ⟨x, hx⟩ : ∃ x, ns[j]? = some x := ⟨_, List.getElem?_eq_getElem hjl⟩
        have htk : ns.take (m - k) = ns.take j ++ [x] := by rw [hmk, List.take_add_one, hx]; rfl
        have hsp : split (join (ns.take j ++ [x])) = some (ns.take j ++ [x]) := by
          rw [← htk]
          exact split_join (fun q hq => split_names hs q (List.mem_of_mem_take hq))
        obtain ⟨a, ha⟩ : ∃ a, join (ns.take j ++ [x]) = a := ⟨_, rfl⟩
        obtain ⟨b, hb⟩ : ∃ b, join (ns.take j) = b := ⟨_, rfl⟩
        have hal : a.length ≤ 4398046511104 := by
          rw [← ha, ← htk]
          have := join_take_length ns (m - k)
          rw [hj] at this
          omega
        rw [htk, ha]
        have hpp : parentV a = (b, x, 0) := by rw [← ha, parentV_snoc hsp, hb]
        have hx' : ∀ (W : World), Strs W (.slice A1 m c1) ns → ∃ ad, A1 = some ad ∧ W.cell? (ad.add j) = some (.string (mk x)) := fun W hW => by
          obtain ⟨A, c, hv, hc, hC⟩ := hW
          injection hv with e1 e2 e3
          subst e1
          obtain ⟨ad, e, hh⟩ := Kd.at_string hC (j : Int) (by omega) (by omega)
          rw [rd_mk ns j x hx, Int.toNat_natCast] at hh
          exact ⟨ad, e, hh⟩
        have HX := Lib.hid hx'
        have tx := mk_list x
        have HJ := Lib.hid hjk
        clear hx' hx htk hsp ha hjl hj hjk hmk
        go_wp2_with fail
        refine (parent_lit a b x 0 hpp hal _).mono ?_
        rintro e w2 ⟨rfl, hB⟩
        have HB2 := Lib.hid (bstep HB.out hB)
        have HV2 := Lib.hid (HV.out.below hB)
        obtain ⟨ad, rfl, hcell⟩ := HX.out _ HV2.out
        have zi : (m : Int) - 1 - (k : Int) = (j : Int) := by have := HJ.out; omega
        have z0 : (0 : Int) ≤ (j : Int) := by omega
        have z1 : (j : Int) < (m : Int) := by have := HJ.out; omega
        have z2 : (j : Int) < (c1 : Int) := by have := HJ.out; omega
        have hke : ns.take (m - (k + 1)) = ns.take j := by have := HJ.out; rw [show m - (k + 1) = j by omega]
        have HK := Lib.hid hke
        clear hB HX HV hke
        go_wp2_with fail
        go_roundw
        case rel => exact ⟨k + 1, by omega, by go_num, by rw [HK.out, hb], HB2, HV2⟩
        case measure => simp [intOf]; omega
      · have hke : k = m := by omega
        subst hke
        rw [Nat.sub_self, List.take_zero]
        have tj : (mk (join [])).toList = [47] := mk_list _
        go_wp2_with fail
        refine (live_calls _).mono ?_
        rintro e w2 ⟨rfl, hB⟩
        have HB2 := Lib.hid (bstep HB.out hB)
        clear hB
        go_wp2_with fail
        go_ret
        exact ⟨rfl, HB2.out⟩
end Go.Proofs.YtebcojpmdihjfaaDoor
