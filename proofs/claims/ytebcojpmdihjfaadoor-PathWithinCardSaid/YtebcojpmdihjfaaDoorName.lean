import Derived.Test.YtebcojpmdihjfaaDoorIter
set_option linter.unusedVariables false
set_option linter.unusedSimpArgs false
namespace Go.Proofs.YtebcojpmdihjfaaDoor
open Go Go.RowKit Go.Shelf Pp

theorem idx0_none {l : Str} (h : (0 : UInt8) ∉ l) : Lib.indexByte l 0 = -1 := by
  have hg := Lib.indexByte_ge l 0
  by_cases e : Lib.indexByte l 0 = -1
  · exact e
  · exfalso
    have ho : Lib.indexByte l 0 = ((Lib.indexByte l 0).toNat : Nat) := by omega
    exact h (List.mem_of_getElem? (Lib.indexByte_some ho).1)
theorem idx0_some {l : Str} (h : (0 : UInt8) ∈ l) : 0 ≤ Lib.indexByte l 0 := by
  have hg := Lib.indexByte_ge l 0
  by_cases e : Lib.indexByte l 0 = -1
  · obtain ⟨k, hk, hk'⟩ := List.mem_iff_getElem.1 h
    exact absurd (by rw [List.getElem?_eq_getElem hk, hk']) (Lib.indexByte_none e k)
  · omega
theorem index0 (l : Str) (w : World) : Calls Tryd.prog 27 #[.string (mk l), .int .u8 0] w fun e w' => e = .returned (.int .i64 (Lib.indexByte l 0)) ∧ w' = w := by
  have := Tryd.strings_IndexByte (mk l) 0 w
  rw [mk_toList] at this
  exact this
theorem mk_list (l : Str) : (mk l).toList = l := by
  have : (mk l).toList = (mk l).data.toList := by rw [ByteArray.toList_eq]
  rw [this, mk_toList]
theorem ret_bool {a b : Bool} (h : a = b) : Ending.returned (.bool a) = .returned (.bool b) := by rw [h]
theorem okF {l : Str} (h : ¬ (l ≠ [] ∧ l ≠ [46] ∧ l ≠ [46, 46] ∧ l.length ≤ 255 ∧ (0 : UInt8) ∉ l)) : okName l = false := by unfold okName; exact decide_eq_false h

set_option maxRecDepth 100000 in
set_option maxHeartbeats 1000000 in
theorem name_calls (l : Str) (hl : l.length ≤ 140737488355328) (w : World) : Calls Tryd.prog 21 #[.string (mk l)] w fun e w' => e = .returned (.bool (okName l)) ∧ w' = w := by
  have hs : (mk l).size = l.length := mk_size l
  have ht : (mk l).toList = l := mk_list l
  go_enter Tryd.func21, Tryd.ntmps21
  go_wp2_with fail
  · have h1 : l = [] := by assumption
    go_ret
    exact ⟨ret_bool (okF (fun h => h.1 h1)).symm, rfl⟩
  · have h1 : l = [46] := by assumption
    go_ret
    exact ⟨ret_bool (okF (fun h => h.2.1 h1)).symm, rfl⟩
  · have h1 : l = [46, 46] := by assumption
    go_ret
    exact ⟨ret_bool (okF (fun h => h.2.2.1 h1)).symm, rfl⟩
  · have h1 : ¬ l = [] := by assumption
    have h2 : ¬ l = [46] := by assumption
    have h3 : ¬ l = [46, 46] := by assumption
    have h4 : (List.length l : Int) ≤ 255 := by assumption
    refine (index0 l _).mono ?_
    rintro e w' ⟨rfl, rfl⟩
    by_cases h0 : (0 : UInt8) ∈ l
    · have hi := idx0_some h0
      go_wp2_with fail
      go_ret
      refine ⟨ret_bool ?_, rfl⟩
      rw [okF (fun h => h.2.2.2.2 h0)]
      simp
      omega
    · have hi := idx0_none h0
      go_wp2_with fail
      go_ret
      refine ⟨ret_bool ?_, rfl⟩
      rw [(okName_iff l).2 ⟨h1, h2, h3, by omega, h0⟩]
      simp [h1, h2, h3]
  · have h1 : 255 < (List.length l : Int) := by assumption
    go_ret
    exact ⟨ret_bool (okF (fun h => by omega)).symm, rfl⟩
end Go.Proofs.YtebcojpmdihjfaaDoor
