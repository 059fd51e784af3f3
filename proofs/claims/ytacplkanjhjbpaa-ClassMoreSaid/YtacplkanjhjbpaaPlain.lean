import Derived.Test.YtacplkanjhjbpaaPClassChoosesx2
import Derived.Test.YtacplkanjhjbpaaPClassChoosesx4
import Derived.Test.YtacplkanjhjbpaaPClassChoosesx5
namespace Go.Proofs.Ytacplkanjhjbpaa
open Go.RowKit Go.Proofs.YtacplkanjhjbpaaW.PrintWords Go.Proofs.YtacplkanjhjbpaaW.PrintLast Go.Proofs.YtacplkanjhjbpaaW.PrintMore
open PClassChooses
set_option linter.unusedVariables false
set_option linter.unusedSimpArgs false

/-- A policy that may be. -/
def polOk (small arc sec : Int) : Prop := 0 ≤ small ∧ small ≤ 256 ∧ 0 ≤ arc ∧ arc ≤ 64 ∧ 0 ≤ sec ∧ sec ≤ 508
instance (small arc sec : Int) : Decidable (polOk small arc sec) := by unfold polOk; infer_instance
def checkS (small arc sec : Int) : Int := if polOk small arc sec then 0 else 1
def wantsS (mf : Bool) (small kind size : Int) : Bool := if kind = 0 then mf else decide (small ≠ 0 ∧ size ≤ small)
def chooseS (mf mi : Bool) (small arc sec kind size : Int) (l : List Int) : List Int × Int :=
  if polOk small arc sec ∧ 0 ≤ kind ∧ kind ≤ 1 ∧ 0 ≤ size ∧ size ≤ 960 ∧ l.length = 2 ∧ 0 ≤ rd l 0 ∧ 0 ≤ rd l 1 then
    if wantsS mf small kind size = true ∧ 0 < rd l 1 then
      if kind = 0 ∧ mi = true ∧ 0 < rd l 0 then ([1, 0], 0) else ([1], 0)
    else if 0 < rd l 0 then ([0], 0) else ([], 6)
  else ([], 1)
def needS (mf : Bool) (small arc sec m d : Int) : Int × Int :=
  if polOk small arc sec ∧ 0 ≤ m ∧ m ≤ 1073741824 ∧ 0 ≤ d ∧ d ≤ 1073741824 then (m + d, (if mf = true then m else 0) + (if small = 0 then 0 else d)) else (0, 0)

theorem in_ok (a b : Int) : class_in.f a b = some (decide (0 ≤ a ∧ a ≤ b)) := by
  unfold class_in.f
  by_cases h : a ≥ 0
  · have h' : 0 ≤ a := h
    simp [h']
  · have h' : ¬ 0 ≤ a := h
    simp [h']
theorem in_ok' (a b : Int) : permafrostref08_in.f a b = some (decide (0 ≤ a ∧ a ≤ b)) := by
  unfold permafrostref08_in.f
  by_cases h : a ≥ 0
  · have h' : 0 ≤ a := h
    simp [h']
  · have h' : ¬ 0 ≤ a := h
    simp [h']
theorem check_ok (b0 b1 : Bool) (s a x : Int) : class_Check.f b0 b1 s a x = some (checkS s a x) := by
  unfold class_Check.f checkS
  simp only [in_ok, Option.bind_some, decide_eq_true_eq]
  by_cases h : polOk s a x
  · rw [if_pos h]
    unfold polOk at h
    rw [if_pos (show 0 ≤ s ∧ s ≤ 256 by omega), if_pos (show 0 ≤ a ∧ a ≤ 64 by omega), if_pos (show 0 ≤ x ∧ x ≤ 508 by omega)]
  · rw [if_neg h]
    unfold polOk at h
    by_cases h1 : 0 ≤ s ∧ s ≤ 256
    · rw [if_pos h1]
      by_cases h2 : 0 ≤ a ∧ a ≤ 64
      · rw [if_pos h2, if_neg (by omega)]
      · rw [if_neg h2]
    · rw [if_neg h1]
theorem check_ok' (b0 b1 : Bool) (s a x : Int) : permafrostref08_Check.f b0 b1 s a x = some (checkS s a x) := by
  unfold permafrostref08_Check.f checkS
  simp only [in_ok', Option.bind_some, decide_eq_true_eq]
  by_cases h : polOk s a x
  · rw [if_pos h]
    unfold polOk at h
    rw [if_pos (show 0 ≤ s ∧ s ≤ 256 by omega), if_pos (show 0 ≤ a ∧ a ≤ 64 by omega), if_pos (show 0 ≤ x ∧ x ≤ 508 by omega)]
  · rw [if_neg h]
    unfold polOk at h
    by_cases h1 : 0 ≤ s ∧ s ≤ 256
    · rw [if_pos h1]
      by_cases h2 : 0 ≤ a ∧ a ≤ 64
      · rw [if_pos h2, if_neg (by omega)]
      · rw [if_neg h2]
    · rw [if_neg h1]
theorem checkS_zero (s a x : Int) : checkS s a x = 0 ↔ polOk s a x := by unfold checkS; by_cases h : polOk s a x <;> simp [h]

theorem wishes_ok (k : Nat) (mf mi : Bool) (small arc sec kind size : Int) (h0 : 0 ≤ kind) (h1 : kind ≤ 1) :
    class_wishes.f (k + 2) mf mi small arc sec kind size = some (if wantsS mf small kind size = true then (if kind = 0 ∧ mi = true then [1, 0] else [1]) else [0]) := by
  unfold class_wishes.f
  simp only [class_wishes.j0, class_wishes.j1]
  unfold wantsS
  by_cases hk : kind = 0
  · subst hk
    cases mf <;> cases mi <;> simp
  · obtain rfl : kind = 1 := by omega
    by_cases hs : small = 0
    · simp [hs]
    · by_cases hz : size ≤ small
      · have : ¬ size > small := by omega
        simp [hs, hz, this]
      · have : size > small := by omega
        simp [hs, hz, this]

theorem two_of {l : List Int} (h : l.length = 2) : ∃ a b, l = [a, b] := by
  match l, h with
  | [a, b], _ => exact ⟨a, b, rfl⟩
theorem rd0 (a b : Int) : rd [a, b] 0 = a := by unfold rd; simp
theorem rd1 (a b : Int) : rd [a, b] 1 = b := by unfold rd; simp
theorem rd10 : rd [1, 0] 0 = 1 := by unfold rd; simp
theorem rd11 : rd [1, 0] 1 = 0 := by unfold rd; simp
theorem rds (x : Int) : rd [x] 0 = x := by unfold rd; simp
theorem w01 : wrap64 (0 + 1) = 1 := by kernel_rfl
theorem w11 : wrap64 (1 + 1) = 2 := by kernel_rfl

theorem loop1 (k : Nat) (a b x : Int) (hx : x = 0 ∨ x = 1) (h0 : 0 ≤ a) (h1 : 0 ≤ b) :
    class_Choose.l0 (k + 2) [a, b] [] [x] 1 0 = some (if 0 < (if x = 0 then a else b) then ([x], 0) else if 0 < a then ([0], 0) else ([], 6)) := by
  rcases hx with rfl | rfl
  · simp only [class_Choose.l0, rds, rd0, rd1, w01]
    by_cases h : a > 0 <;> simp [h]
  · simp only [class_Choose.l0, rds, rd0, rd1, w01]
    by_cases h : b > 0 <;> by_cases h' : a > 0 <;> simp [h, h']
theorem loop2 (k : Nat) (a b : Int) (h0 : 0 ≤ a) (h1 : 0 ≤ b) :
    class_Choose.l0 (k + 3) [a, b] [] [1, 0] 2 0 = some (if 0 < b then (if 0 < a then ([1, 0], 0) else ([1], 0)) else if 0 < a then ([0], 0) else ([], 6)) := by
  simp only [class_Choose.l0, rd10, rd11, rd0, rd1, w01, w11]
  by_cases h : b > 0 <;> by_cases h' : a > 0 <;> simp [h, h']

theorem choose_ok (mf mi : Bool) (small arc sec kind size : Int) (l : List Int) : class_Choose.f 9 mf mi small arc sec kind size l = some (chooseS mf mi small arc sec kind size l) := by
  unfold class_Choose.f chooseS
  simp only [check_ok, in_ok, Option.bind_some, decide_eq_true_eq, checkS_zero]
  by_cases c1 : polOk small arc sec
  case neg => simp [c1, class_Choose.j0]
  by_cases c2 : 0 ≤ kind ∧ kind ≤ 1
  case neg =>
    rw [if_pos c1, if_neg c2, if_neg (by omega)]
    rfl
  by_cases c3 : 0 ≤ size ∧ size ≤ 960
  case neg =>
    rw [if_pos c1, if_pos c2, if_neg c3, if_neg (by omega)]
    rfl
  by_cases c4 : l.length = 2
  case neg =>
    rw [if_pos c1, if_pos c2, if_pos c3, if_neg (by omega), if_neg (by omega)]
    rfl
  obtain ⟨a, b, rfl⟩ := two_of c4
  rw [if_pos c1, if_pos c2, if_pos c3, if_pos (by simp), if_pos (by simp), if_pos (by simp)]
  simp only [rd0, rd1]
  by_cases c5 : 0 ≤ a ∧ 0 ≤ b
  case neg =>
    have hm : mn a b < 0 := by unfold mn; split <;> omega
    rw [if_neg (by omega)]
    simp [hm, class_Choose.j0]
  have hm : ¬ mn a b < 0 := by unfold mn; split <;> omega
  rw [if_pos ⟨c1, c2.1, c2.2, c3.1, c3.2, c4, c5.1, c5.2⟩]
  have hd : decide (mn a b < 0) = false := decide_eq_false hm
  rw [hd]
  simp only [class_Choose.j0, Bool.false_eq_true, if_false]
  rw [wishes_ok 6 mf mi small arc sec kind size c2.1 c2.2]
  simp only [Option.bind_some]
  by_cases hw : wantsS mf small kind size = true
  · rw [if_pos hw]
    by_cases hm2 : kind = 0 ∧ mi = true
    · rw [if_pos hm2]
      have e := loop2 5 a b c5.1 c5.2
      have e' : class_Choose.l0 8 [a, b] [] [1, 0] (([1, 0] : List Int).length : Int) 0 = class_Choose.l0 (5 + 3) [a, b] [] [1, 0] 2 0 := rfl
      rw [e', e]
      by_cases hb : 0 < b
      · obtain ⟨rfl, rfl⟩ := hm2
        by_cases ha : 0 < a <;> simp [hb, ha, hw]
      · simp [hb]
    · rw [if_neg hm2]
      have e := loop1 6 a b 1 (.inr rfl) c5.1 c5.2
      have e' : class_Choose.l0 8 [a, b] [] [1] (([1] : List Int).length : Int) 0 = class_Choose.l0 (6 + 2) [a, b] [] [1] 1 0 := rfl
      rw [e', e]
      have hn : ¬ (kind = 0 ∧ mi = true ∧ 0 < a) := fun h => hm2 ⟨h.1, h.2.1⟩
      by_cases hb : 0 < b
      · have hb' : ¬ b ≤ 0 := by omega
        simp only [hb, hw, hn]
        simp [hb']
      · simp [hb]
  · rw [if_neg hw]
    have e := loop1 6 a b 0 (.inl rfl) c5.1 c5.2
    have e' : class_Choose.l0 8 [a, b] [] [0] (([0] : List Int).length : Int) 0 = class_Choose.l0 (6 + 2) [a, b] [] [0] 1 0 := rfl
    rw [e', e]
    simp [hw]

theorem choose_ok' (mf mi : Bool) (small arc sec kind size : Int) (l : List Int) : permafrostref08_Choose.f 9 mf mi small arc sec kind size l = some (chooseS mf mi small arc sec kind size l) := by
  unfold permafrostref08_Choose.f chooseS
  simp only [check_ok', in_ok', Option.bind_some, decide_eq_true_eq, checkS_zero]
  by_cases c1 : polOk small arc sec
  case neg => simp [c1, permafrostref08_Choose.j0]
  by_cases c2 : 0 ≤ kind ∧ kind ≤ 1
  case neg =>
    rw [if_pos c1, if_neg c2, if_neg (by omega)]
    rfl
  by_cases c3 : 0 ≤ size ∧ size ≤ 960
  case neg =>
    rw [if_pos c1, if_pos c2, if_neg c3, if_neg (by omega)]
    rfl
  by_cases c4 : l.length = 2
  case neg =>
    have : ((l.length : Int) != 2) = true := by simp; omega
    rw [if_pos c1, if_pos c2, if_pos c3, this, if_neg (by omega)]
    rfl
  obtain ⟨a, b, rfl⟩ := two_of c4
  have hl : ((([a, b] : List Int).length : Int) != 2) = false := rfl
  rw [if_pos c1, if_pos c2, if_pos c3, hl]
  simp only [permafrostref08_Choose.j0, permafrostref08_Choose.j1, permafrostref08_Choose.j2, permafrostref08_Choose.j3, permafrostref08_wants.f, rd0, rd1, Bool.false_eq_true, if_false]
  unfold wantsS
  by_cases h0 : a < 0
  · rw [if_neg (show ¬ (polOk small arc sec ∧ 0 ≤ kind ∧ kind ≤ 1 ∧ 0 ≤ size ∧ size ≤ 960 ∧ [a, b].length = 2 ∧ 0 ≤ a ∧ 0 ≤ b) by omega)]
    simp [h0]
  by_cases h1 : b < 0
  · rw [if_neg (show ¬ (polOk small arc sec ∧ 0 ≤ kind ∧ kind ≤ 1 ∧ 0 ≤ size ∧ size ≤ 960 ∧ [a, b].length = 2 ∧ 0 ≤ a ∧ 0 ≤ b) by omega)]
    simp [h0, h1]
  rw [if_pos (show (polOk small arc sec ∧ 0 ≤ kind ∧ kind ≤ 1 ∧ 0 ≤ size ∧ size ≤ 960 ∧ [a, b].length = 2 ∧ 0 ≤ a ∧ 0 ≤ b) from ⟨c1, c2.1, c2.2, c3.1, c3.2, c4, by omega, by omega⟩)]
  by_cases hk : kind = 0
  · subst hk
    by_cases ha : 0 < a <;> by_cases hb : 0 < b <;> cases mf <;> cases mi <;> simp [h0, h1, ha, hb]
  · by_cases hs : small = 0 <;> by_cases hz : size ≤ small <;> by_cases ha : 0 < a <;> by_cases hb : 0 < b <;> simp [h0, h1, ha, hb, hk, hs, hz] <;> simp_all

theorem need_ok (mf mi : Bool) (small arc sec m d : Int) : class_Need.f 9 mf mi small arc sec m d = some (needS mf small arc sec m d) := by
  unfold class_Need.f needS
  simp only [check_ok, in_ok, Option.bind_some, decide_eq_true_eq, checkS_zero]
  by_cases c1 : polOk small arc sec
  case neg => simp [c1, class_Need.j0]
  by_cases c2 : 0 ≤ m ∧ m ≤ 1073741824
  case neg =>
    rw [if_pos c1, if_neg c2, if_neg (by omega)]
    rfl
  by_cases c3 : 0 ≤ d ∧ d ≤ 1073741824
  case neg =>
    rw [if_pos c1, if_pos c2, if_neg (by omega)]
    simp [c3, class_Need.j0]
  rw [if_pos c1, if_pos c2, if_pos ⟨c1, c2.1, c2.2, c3.1, c3.2⟩]
  have hp : 0 ≤ small := c1.1
  have e1 : wrap64 (m + d) = m + d := by unfold wrap64; omega
  have e2 : wrap64 (0 + m) = m := by unfold wrap64; omega
  have e3 : wrap64 (0 + d) = d := by unfold wrap64; omega
  have hd : (!decide (0 ≤ d ∧ d ≤ 1073741824)) = false := by simp [c3]
  rw [hd]
  simp only [class_Need.j0, e1, e2, e3]
  by_cases hs : small = 0
  · subst hs
    cases mf <;> simp
  · have : small > 0 := by omega
    cases mf <;> simp [hs, this]
theorem need_ok' (mf mi : Bool) (small arc sec m d : Int) : permafrostref08_Need.f 9 mf mi small arc sec m d = some (needS mf small arc sec m d) := by
  unfold permafrostref08_Need.f needS
  simp only [check_ok', in_ok', Option.bind_some, decide_eq_true_eq, checkS_zero]
  by_cases c1 : polOk small arc sec
  case neg => simp [c1, permafrostref08_Need.j0]
  by_cases c2 : 0 ≤ m ∧ m ≤ 1073741824
  case neg =>
    rw [if_pos c1, if_neg c2, if_neg (by omega)]
    rfl
  by_cases c3 : 0 ≤ d ∧ d ≤ 1073741824
  case neg =>
    rw [if_pos c1, if_pos c2, if_neg (by omega)]
    simp [c3, permafrostref08_Need.j0]
  rw [if_pos c1, if_pos c2, if_pos ⟨c1, c2.1, c2.2, c3.1, c3.2⟩]
  have e1 : wrap64 (m + d) = m + d := by unfold wrap64; omega
  have e2 : wrap64 (0 + m) = m := by unfold wrap64; omega
  have e3 : wrap64 (0 + d) = d := by unfold wrap64; omega
  have hd : (!decide (0 ≤ d ∧ d ≤ 1073741824)) = false := by simp [c3]
  rw [hd]
  simp only [permafrostref08_Need.j0, e1, e2, e3]
  by_cases hs : small = 0
  · subst hs
    cases mf <;> simp
  · cases mf <;> simp [hs]

/-- What may be told. -/
def told (l : List Int) : Prop := l = [] ∨ l = [0] ∨ l = [1] ∨ l = [1, 0]
theorem chooseS_told (mf mi : Bool) (small arc sec kind size : Int) (l : List Int) : told (chooseS mf mi small arc sec kind size l).1 := by
  unfold chooseS told
  repeat' split
  all_goals simp
theorem ints_ok (l : List Int) (h : told l) : permafrostref01_Ints.f 9 l l = some true := by
  rcases h with rfl | rfl | rfl | rfl <;> kernel_rfl
end Go.Proofs.Ytacplkanjhjbpaa
