import Derived.Test.YtebcojpmdihjfaaDoorDoc
import Derived.Test.YtebcojpmdihjfaaDoorRows
import Derived.Test.YtebcojpmdihjfaaDoorCards
import Derived.Test.YtebcojpmdihjfaaDoorTie
import Derived.ProofKit
import Derived.OpenShut
import Derived.ShutString
import Derived.ChangeOld
import Derived.Below
import Derived.Lay
import Derived.SliceStrings
import Derived.Deep.DeepHandedRow
import Derived.Stop.Joined
namespace Go.Proofs.YtebcojpmdihjfaaDoor
open Go.ChangeShapes Go.WideShapes Go.ChangeAt Go.RowKit Pp Go.Proofs.YtebcojpmdihjfaaDoorW.PrintWords
set_option linter.unusedVariables false

theorem own : ownKnob Tryd.prog.godebug = none := by kernel_rfl
theorem laidOut : laidOutB Tryd.prog = true := by kernel_rfl
theorem cellsStr : Tryd.prog.cellsOf 9 = 1 := by kernel_rfl

/-! ### what the bound gives -/
theorem bulk_part {H : Type} {d : DataW H} {l : List (DataW H)} (h : d ∈ l) : Rows.uptoBulk d ≤ Rows.uptoBulkAll l := by
  induction l with
  | nil => cases h
  | cons x r ih =>
    simp only [Rows.uptoBulkAll]
    cases List.mem_cons.1 h with
    | inl e => subst e; omega
    | inr e => have := ih e; omega

section
variable {H : Type} {enc : TypeId × Value → H} {W : World} {base b0 : Nat} {spare : Nat → Bool} {held : Bool} {r : Reach}
theorem open_texts {v : Value} {d : DataW H} {p : List MemPlace} (hv : Value.okWide Tryd.prog W r b0 23 v) (h : DataW.Trod enc Tryd.prog W base spare held 23 v d p) :
    ∃ ns : List Str, Strs W v ns ∧ ∀ x ∈ ns, x.length ≤ Rows.uptoBulk d := by
  obtain ⟨a0, len, cap, rfl⟩ := okWide_slice Tryd.underlying23 hv
  obtain ⟨fuel, hf⟩ := h
  rcases open_strings Tryd.underlying23 Tryd.underlying9 cellsStr hf with ⟨hcs, hx⟩ | ⟨a, len', cap', ss, hcs, _, hl, hm, hz, hx, hcell, hws⟩
  · simp [Value.cells] at hcs
    obtain ⟨rfl, rfl, rfl⟩ := hcs
    exact ⟨[], Strs.nil W 0 none, fun x hx => by cases hx⟩
  · simp [Value.cells] at hcs
    obtain ⟨rfl, rfl, rfl⟩ := hcs
    simp only [Prod.mk.injEq] at hx
    obtain ⟨rfl, rfl⟩ := hx
    have hlen : len ≤ ss.length := by rw [hz]; split <;> omega
    refine ⟨(ss.take len).map (fun x => x.data.toList), ?_, ?_⟩
    · have e1 : ((ss.take len).map (fun x : ByteArray => x.data.toList)).length = len := by rw [List.length_map, List.length_take]; omega
      have e2 : ((ss.take len).map (fun x : ByteArray => x.data.toList)).map mk = ss.take len := by
        rw [List.map_map]
        conv => rhs; rw [← List.map_id (ss.take len)]
        exact List.map_congr_left (fun x _ => mk_data x)
      refine ⟨some a, cap, by rw [e1], by omega, ?_⟩
      rw [e1, e2]
      refine ⟨by rw [List.length_take]; omega, by unfold maxLen at hm; omega, fun _ => ⟨a, rfl, fun j q hj => ⟨[.string q], rfl, rfl, fun i u hu => ?_⟩⟩⟩
      have hi : i = 0 := by
        rcases Nat.eq_zero_or_pos i with h0 | h0
        · exact h0
        · rw [List.getElem?_eq_none (by simp; omega)] at hu
          cases hu
      subst hi
      have hu' : u = .string q := by simpa using hu.symm
      subst hu'
      have hs : (Kd.string).sz = 1 := rfl
      rw [hs, Nat.mul_one, Nat.add_zero]
      have hjl : j < len := by
        rcases Nat.lt_or_ge j len with h | h
        · exact h
        · rw [List.getElem?_eq_none (by rw [List.length_take]; omega)] at hj
          cases hj
      rw [List.getElem?_take_of_lt hjl] at hj
      rw [hcell j (by omega)]
      simp [List.getD, hj]
    · intro x hx
      obtain ⟨s, hs, rfl⟩ := List.mem_map.1 hx
      have h1 : (DataW.lit (.string s.data.toList) : DataW H) ∈ strs (ss.take len) := List.mem_map.2 ⟨s, hs, rfl⟩
      have h2 := bulk_part h1
      simp only [Rows.uptoBulk] at h2 ⊢
      omega
end
end Go.Proofs.YtebcojpmdihjfaaDoor
