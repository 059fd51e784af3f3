import Derived.Laws.AppendOwnNone
import Derived.Test.YtebcojpmdihjfaaDoorDoc
set_option linter.unusedVariables false
set_option linter.unusedSimpArgs false
namespace Go.Proofs.YtebcojpmdihjfaaDoor
open Go Go.RowKit Pp Go.Proofs.YtebcojpmdihjfaaDoorW.PrintWords

set_option maxRecDepth 100000 in
set_option maxHeartbeats 2000000 in
theorem parent_walk (s : Str) (w : World) : Calls Tryd.prog 5 #[.string (mk s)] w fun e w' => e = .returned (.bool true) ∧ Below w.heap.size w w' := by
  have es : (mk s).size = s.length := mk_size s
  by_cases h1 : 2000 < (s.length : Int)
  · go_enter Tryd.func5, Tryd.ntmps5
    go_wp2_with fail
    refine (live_calls _).mono ?_
    rintro e w1 ⟨rfl, hB⟩
    have HB1 := Lib.hid (bstep (Below.refl _ _) hB)
    clear hB
    go_wp2_with fail
    go_ret
    exact ⟨rfl, HB1.out⟩
  replace h1 := Int.not_lt.1 h1
  have h5 : s.length ≤ 4398046511104 := by omega
  have tz := mk_list []
  have ts := mk_list s
  cases hs : split s with
  | none =>
    go_enter Tryd.func5, Tryd.ntmps5
    go_wp2_with fail
    refine (parent_lit s [] [] 12 (parentV_none hs) h5 _).mono ?_
    rintro e w1 ⟨rfl, hB⟩
    have HB1 := Lib.hid (bstep (Below.refl _ _) hB)
    clear hB
    go_wp2_with fail
    refine (live_calls _).mono ?_
    rintro e w2 ⟨rfl, hB⟩
    have HB2 := Lib.hid (bstep HB1.out hB)
    clear hB
    go_wp2_with fail
    go_ret
    exact ⟨rfl, HB2.out⟩
  | some ns =>
    have hj := join_split hs
    by_cases hne : ns = []
    · subst hne
      go_enter Tryd.func5, Tryd.ntmps5
      go_wp2_with fail
      refine (parent_lit s [] [] 1 (parentV_nil hs) h5 _).mono ?_
      rintro e w1 ⟨rfl, hB⟩
      have HB1 := Lib.hid (bstep (Below.refl _ _) hB)
      clear hB
      go_wp2_with fail
      refine (live_calls _).mono ?_
      rintro e w2 ⟨rfl, hB⟩
      have HB2 := Lib.hid (bstep HB1.out hB)
      clear hB
      go_wp2_with fail
      go_ret
      exact ⟨rfl, HB2.out⟩
    · obtain ⟨ini, x, rfl⟩ := snoc_of hne
      have hx : okName x = true ∧ (47 : UInt8) ∉ x := split_names hs x (by simp)
      have hini := split_join (ns := ini) (fun q hq => split_names hs q (by simp [hq]))
      have hlen := join_snoc_length ini x
      rw [hj] at hlen
      obtain ⟨p, hp⟩ : ∃ p, join ini = p := ⟨_, rfl⟩
      rw [hp] at hlen hini
      have h6 : p.length ≤ 4398046511104 := by omega
      have wps : within p s = true := within_iff.2 ⟨_, _, hini, hs, List.prefix_append _ _⟩
      have wsp : within s p = false := by
        cases e : within s p with
        | false => rfl
        | true =>
          have := within_antisymm e wps
          subst this
          rw [hs] at hini
          have := congrArg Option.some hini
          simp at hini
      have wrs : within [47] s = true := within_iff.2 ⟨[], _, rfl, hs, List.nil_prefix⟩
      have wss := within_refl hs
      have hps := (parentV_snoc hs).trans (by rw [hp])
      obtain ⟨i0, hi, hz0, hz1, hz2⟩ := info_parts Tryd.infoStr
      have hxc : (mk x).toList = x := mk_list x
      have hil : ini.length ≤ 2000 := by have := split_length hs; simp at this; omega
      have z4 : s.length ≤ 70368744177664 := by omega
      have z5 : (ini ++ [x]).length ≤ 140737488355328 := by simp; omega
      by_cases hie : ini = []
      · subst hie
        obtain rfl : p = [47] := hp.symm
        go_enter Tryd.func5, Tryd.ntmps5
        go_wp2_with fail
        refine (parent_lit s [47] x 0 hps h5 _).mono ?_
        rintro e w1 ⟨rfl, hB⟩
        have HB1 := Lib.hid (bstep (Below.refl _ _) hB)
        clear hB
        go_wp2_with fail
        refine (split_root_nil _).mono ?_
        rintro e w2 ⟨rfl, hB⟩
        have HB2 := Lib.hid (bstep HB1.out hB)
        clear hB
        go_wp2_with (at_builtin; first | (refine wpList_append_own_none rfl _ _ 23 rfl w2.heap.size 9 i0 1 Tryd.underlying23 hi (.slice none 0 0) 0 [] rfl (World.ownsRow_nil _ _ _ _) rfl ?_) | (refine wpList_append_own _ rfl _ _ 23 rfl w2.heap.size 9 i0 (.string ⟨#[]⟩) 1 16 Tryd.underlying23 hi hz0 hz1 hz2 rfl (by decide) (.slice none 0 0) 0 [] rfl (World.ownsRow_nil _ _ _ _) ⟨w2.heap.size, 0, none⟩ 1 1 [.string (mk x)] rfl rfl (cell_one_new _ _ _) (by simp [Value.oneCell']) (by unfold maxLen; omega) (by omega) (by rw [World.size_alloc]; omega) ?_; intro v3 w3 hown hgrow _; obtain ⟨A3, c3, rfl⟩ := own_slice hown; have HB3 := Lib.hid (Below.grown (balloc HB2.out) hgrow (by have := HB2.out.size; rw [World.size_alloc]; omega) (fun k e => by cases e)); have HL := Lib.hid (Strs.of_row (ns := [x]) hown (by simp)); clear hown hgrow))
        refine (join_lit _ [x] s hj _ HL.out z4 z5).mono ?_
        rintro e w4 ⟨rfl, hB⟩
        have HB4 := Lib.hid (bstep HB3.out hB)
        clear hB
        go_wp2_with fail
        refine (within_lit [47] s true wps h6 h5 _).mono ?_
        rintro e w5 ⟨rfl, hB⟩
        have HB5 := Lib.hid (bstep HB4.out hB)
        clear hB
        go_wp2_with fail
        refine (within_lit s [47] false wsp h5 h6 _).mono ?_
        rintro e w6 ⟨rfl, hB⟩
        have HB6 := Lib.hid (bstep HB5.out hB)
        clear hB
        go_wp2_with fail
        refine (within_lit [47] s true wrs (by decide) h5 _).mono ?_
        rintro e w7 ⟨rfl, hB⟩
        have HB7 := Lib.hid (bstep HB6.out hB)
        clear hB
        go_wp2_with fail
        refine (within_lit s s true wss h5 h5 _).mono ?_
        rintro e w8 ⟨rfl, hB⟩
        have HB8 := Lib.hid (bstep HB7.out hB)
        clear hB
        go_wp2_with fail
        refine (live_calls _).mono ?_
        rintro e w9 ⟨rfl, hB⟩
        have HB9 := Lib.hid (bstep HB8.out hB)
        clear hB
        go_wp2_with fail
        go_ret
        exact ⟨rfl, HB9.out⟩
      · go_enter Tryd.func5, Tryd.ntmps5
        go_wp2_with fail
        refine (parent_lit s p x 0 hps h5 _).mono ?_
        rintro e w1 ⟨rfl, hB⟩
        have HB1 := Lib.hid (bstep (Below.refl _ _) hB)
        clear hB
        go_wp2_with fail
        refine (split_good p ini hini h6 _).mono ?_
        rintro e w2 ⟨v2, rfl, hv, hB⟩
        have HB2 := Lib.hid (bstep HB1.out hB)
        obtain ⟨bk, o, c2, rfl, hc2, hbk, hcell⟩ := hv.cells hie
        have hnews : ∀ j u, (svals ini)[j]? = some u → w2.cell? ((⟨bk, o, none⟩ : Addr).add j) = some u := fun j u hj => by
          unfold svals at hj
          rw [List.getElem?_map] at hj
          cases e : ini[j]? with
          | none => rw [e] at hj; cases hj
          | some y =>
            rw [e] at hj
            obtain rfl : Value.string (mk y) = u := by simpa using hj
            rw [← hcell j y e]
            unfold Addr.add
            split
            · rename_i h0; subst h0; rfl
            · rfl
        have HN := Lib.hid hnews
        clear hB hv hcell hnews
        obtain ⟨B0, hB0⟩ : ∃ B0, w2.heap.size = B0 := ⟨_, rfl⟩
        go_wp2_with (at_builtin; first | (refine wpList_append_own _ rfl _ _ 23 rfl B0 9 i0 (.string ⟨#[]⟩) 1 16 Tryd.underlying23 hi hz0 hz1 hz2 rfl (by decide) (.slice none 0 0) 0 [] rfl (World.ownsRow_nil _ _ _ _) ⟨bk, o, none⟩ ini.length c2 (svals ini) rfl (by rw [svals_length, Nat.mul_one]) HN.out (by unfold svals; simp [Value.oneCell']) (by unfold maxLen; omega) (by omega) (by omega) ?_; intro v3 w3 hown3 hgrow3 _; rw [Nat.zero_add, List.nil_append] at hown3; obtain ⟨A3, c3, rfl⟩ := own_slice hown3; have HB3 := Lib.hid (Below.grown HB2.out hgrow3 (by have := HB2.out.size; omega) (fun k e => by cases e)); have hsz3 : B0 ≤ w3.heap.size := (by have := hgrow3.size; omega); have HO3 := Lib.hid hown3; clear hown3 hgrow3) | (refine wpList_append_own _ rfl _ _ 23 rfl B0 9 i0 (.string ⟨#[]⟩) 1 16 Tryd.underlying23 hi hz0 hz1 hz2 rfl (by decide) _ ini.length (svals ini) rfl (HO3.out.alloc _) ⟨w3.heap.size, 0, none⟩ 1 1 [.string (mk x)] rfl rfl (cell_one_new _ _ _) (by simp [Value.oneCell']) (by unfold maxLen; omega) (by omega) (by rw [World.size_alloc]; omega) ?_; intro v4 w4 hown4 hgrow4 _; obtain ⟨A4, c4, rfl⟩ := own_slice hown4; have HB4 := Lib.hid (Below.grown (balloc HB3.out) hgrow4 (by have := HB3.out.size; rw [World.size_alloc]; omega) (fun k e => by have := own_base HO3.out k e; have := HB2.out.size; omega)); have HL := Lib.hid (Strs.of_row (ns := ini ++ [x]) (by rw [svals_snoc]; simpa using hown4) (by simp; omega)); clear hown4 hgrow4))
        refine (join_lit _ (ini ++ [x]) s hj _ HL.out z4 z5).mono ?_
        rintro e w5 ⟨rfl, hB⟩
        have HB5 := Lib.hid (bstep HB4.out hB)
        clear hB
        go_wp2_with fail
        refine (within_lit p s true wps h6 h5 _).mono ?_
        rintro e w6 ⟨rfl, hB⟩
        have HB6 := Lib.hid (bstep HB5.out hB)
        clear hB
        go_wp2_with fail
        refine (within_lit s p false wsp h5 h6 _).mono ?_
        rintro e w7 ⟨rfl, hB⟩
        have HB7 := Lib.hid (bstep HB6.out hB)
        clear hB
        go_wp2_with fail
        refine (within_lit [47] s true wrs (by decide) h5 _).mono ?_
        rintro e w8 ⟨rfl, hB⟩
        have HB8 := Lib.hid (bstep HB7.out hB)
        clear hB
        go_wp2_with fail
        refine (within_lit s s true wss h5 h5 _).mono ?_
        rintro e w9 ⟨rfl, hB⟩
        have HB9 := Lib.hid (bstep HB8.out hB)
        clear hB
        go_wp2_with fail
        refine (live_calls _).mono ?_
        rintro e w10 ⟨rfl, hB⟩
        have HB10 := Lib.hid (bstep HB9.out hB)
        clear hB
        go_wp2_with fail
        go_ret
        exact ⟨rfl, HB10.out⟩
end Go.Proofs.YtebcojpmdihjfaaDoor
