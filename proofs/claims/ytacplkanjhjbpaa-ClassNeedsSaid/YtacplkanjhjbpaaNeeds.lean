import Derived.Test.YtacplkanjhjbpaaPlain
import Derived.Test.YtacplkanjhjbpaaLive
import Derived.Test.YtacplkanjhjbpaaStep
import Derived.BigQuiet
import Derived.Deep.QuietTactic
namespace Go.Proofs.Ytacplkanjhjbpaa
open Go.RowKit Go.Proofs.YtacplkanjhjbpaaW.PrintWords Go.Proofs.YtacplkanjhjbpaaW.PrintLast Go.Proofs.YtacplkanjhjbpaaW.PrintMore
open PClassChooses
set_option linter.unusedVariables false
set_option linter.unusedSimpArgs false

theorem needS_of (mf : Bool) (s a x m d : Int) (h : polOk s a x) (h1 : 0 ≤ m) (h2 : m ≤ 1048576) (h3 : 0 ≤ d) (h4 : d ≤ 1048576) :
    needS mf s a x m d = (m + d, (if mf = true then m else 0) + (if s = 0 then 0 else d)) := by
  unfold needS
  rw [if_pos ⟨h, by omega, by omega, by omega, by omega⟩]

set_option maxHeartbeats 2000000 in
set_option maxRecDepth 100000 in
theorem needs_walk (b0 b1 : Bool) (n2 n3 n4 m d : Int) (w : World) :
    Calls Try.prog 8 #[.agg #[.bool b0, .bool b1, .int .i64 n2, .int .i64 n3, .int .i64 n4], .int .i64 m, .int .i64 d] w fun e w' => e = .returned (.bool true) ∧ Below w.heap.size w w' := by
  by_cases hp : polOk n2 n3 n4
  case neg =>
    have hev := Lib.hid ((check_ok b0 b1 n2 n3 n4).trans (by rw [checkS, if_neg hp]))
    clear hp
    go_enter Try.func8, Try.ntmps8
    go_wp2_with fail
    refine (class_Check.calls b0 b1 n2 n3 n4 1 _ hev.out).mono ?_
    rintro e w1 ⟨rfl, hB⟩
    have P1 := Lib.hid ((Box.start w #[.bool b0, .bool b1, .int .i64 n2, .int .i64 n3, .int .i64 n4] 23).step hB); clear hB
    obtain ⟨q0, q1, q2, q3, q4⟩ := P1.out.pol
    go_wp2_with fail
    refine (live_calls _).mono ?_
    rintro e w' ⟨rfl, hB⟩
    have HL := Lib.hid hB; clear hB
    go_wp2_with fail
    go_ret
    exact ⟨rfl, bstep P1.out.1 HL.out⟩
  have hev := Lib.hid ((check_ok b0 b1 n2 n3 n4).trans (by rw [checkS, if_pos hp]))
  have HP := Lib.hid hp
  clear hp
  by_cases h1 : m < 0
  · go_enter Try.func8, Try.ntmps8
    go_wp2_with fail
    refine (class_Check.calls b0 b1 n2 n3 n4 0 _ hev.out).mono ?_
    rintro e w1 ⟨rfl, hB⟩
    have P1 := Lib.hid ((Box.start w #[.bool b0, .bool b1, .int .i64 n2, .int .i64 n3, .int .i64 n4] 23).step hB); clear hB
    obtain ⟨q0, q1, q2, q3, q4⟩ := P1.out.pol
    go_wp2_with fail
    refine (live_calls _).mono ?_
    rintro e w' ⟨rfl, hB⟩
    have HL := Lib.hid hB; clear hB
    go_wp2_with fail
    go_ret
    exact ⟨rfl, bstep P1.out.1 HL.out⟩
  by_cases h2 : d < 0
  · go_enter Try.func8, Try.ntmps8
    go_wp2_with fail
    refine (class_Check.calls b0 b1 n2 n3 n4 0 _ hev.out).mono ?_
    rintro e w1 ⟨rfl, hB⟩
    have P1 := Lib.hid ((Box.start w #[.bool b0, .bool b1, .int .i64 n2, .int .i64 n3, .int .i64 n4] 23).step hB); clear hB
    obtain ⟨q0, q1, q2, q3, q4⟩ := P1.out.pol
    go_wp2_with fail
    refine (live_calls _).mono ?_
    rintro e w' ⟨rfl, hB⟩
    have HL := Lib.hid hB; clear hB
    go_wp2_with fail
    go_ret
    exact ⟨rfl, bstep P1.out.1 HL.out⟩
  by_cases h3 : 1048576 < m
  · go_enter Try.func8, Try.ntmps8
    go_wp2_with fail
    refine (class_Check.calls b0 b1 n2 n3 n4 0 _ hev.out).mono ?_
    rintro e w1 ⟨rfl, hB⟩
    have P1 := Lib.hid ((Box.start w #[.bool b0, .bool b1, .int .i64 n2, .int .i64 n3, .int .i64 n4] 23).step hB); clear hB
    obtain ⟨q0, q1, q2, q3, q4⟩ := P1.out.pol
    go_wp2_with fail
    refine (live_calls _).mono ?_
    rintro e w' ⟨rfl, hB⟩
    have HL := Lib.hid hB; clear hB
    go_wp2_with fail
    go_ret
    exact ⟨rfl, bstep P1.out.1 HL.out⟩
  by_cases h4 : 1048576 < d
  · go_enter Try.func8, Try.ntmps8
    go_wp2_with fail
    refine (class_Check.calls b0 b1 n2 n3 n4 0 _ hev.out).mono ?_
    rintro e w1 ⟨rfl, hB⟩
    have P1 := Lib.hid ((Box.start w #[.bool b0, .bool b1, .int .i64 n2, .int .i64 n3, .int .i64 n4] 23).step hB); clear hB
    obtain ⟨q0, q1, q2, q3, q4⟩ := P1.out.pol
    go_wp2_with fail
    refine (live_calls _).mono ?_
    rintro e w' ⟨rfl, hB⟩
    have HL := Lib.hid hB; clear hB
    go_wp2_with fail
    go_ret
    exact ⟨rfl, bstep P1.out.1 HL.out⟩
  obtain ⟨y, hy⟩ : ∃ y, y = (if n2 = 0 then 0 else d) := ⟨_, rfl⟩
  obtain ⟨x, hx⟩ : ∃ x, x = (if b0 = true then m else 0) := ⟨_, rfl⟩
  have y1 : 0 ≤ y := by rw [hy]; split <;> omega
  have y2 : y ≤ d := by rw [hy]; split <;> omega
  have x1 : 0 ≤ x := by rw [hx]; split <;> omega
  have x2 : x ≤ m := by rw [hx]; split <;> omega
  have e1 := Lib.hid ((need_ok b0 b1 n2 n3 n4 m 0).trans (by rw [needS_of b0 n2 n3 n4 m 0 HP.out (by omega) (by omega) (by omega) (by omega), ← hx, ite_self, Int.add_zero, Int.add_zero]))
  have e2 := Lib.hid ((need_ok b0 b1 n2 n3 n4 0 d).trans (by rw [needS_of b0 n2 n3 n4 0 d HP.out (by omega) (by omega) (by omega) (by omega), ← hy, ite_self, Int.zero_add, Int.zero_add]))
  have e3 := Lib.hid ((need_ok b0 b1 n2 n3 n4 m d).trans (by rw [needS_of b0 n2 n3 n4 m d HP.out (by omega) (by omega) (by omega) (by omega), ← hy, ← hx]))
  clear hx hy HP
  go_enter Try.func8, Try.ntmps8
  go_wp2_with fail
  refine (class_Check.calls b0 b1 n2 n3 n4 0 _ hev.out).mono ?_
  rintro e w1 ⟨rfl, hB⟩
  have P1 := Lib.hid ((Box.start w #[.bool b0, .bool b1, .int .i64 n2, .int .i64 n3, .int .i64 n4] 23).step hB); clear hB
  obtain ⟨q0, q1, q2, q3, q4⟩ := P1.out.pol
  go_wp2_with fail
  refine (class_Need.calls 9 b0 b1 n2 n3 n4 m 0 _ _ _ e1.out).mono ?_
  rintro e w2 ⟨rfl, hB⟩
  have P2 := Lib.hid (P1.out.step hB); clear hB P1 q0 q1 q2 q3 q4
  obtain ⟨q0, q1, q2, q3, q4⟩ := P2.out.pol
  go_wp2_with fail
  refine (class_Need.calls 9 b0 b1 n2 n3 n4 0 d _ _ _ e2.out).mono ?_
  rintro e w3 ⟨rfl, hB⟩
  have P3 := Lib.hid (P2.out.step hB); clear hB P2 q0 q1 q2 q3 q4
  obtain ⟨q0, q1, q2, q3, q4⟩ := P3.out.pol
  go_wp2_with fail
  refine (class_Need.calls 9 b0 b1 n2 n3 n4 m d _ _ _ e3.out).mono ?_
  rintro e w4 ⟨rfl, hB⟩
  have P4 := Lib.hid (P3.out.step hB); clear hB P3 q0 q1 q2 q3 q4
  have c1 : (m + d == m + d) = true := beq_self_eq_true _
  have c2 : (x + y == x + y) = true := beq_self_eq_true _
  have c3 : decide (x + y ≤ m + d) = true := decide_eq_true (by omega)
  go_wp2_with fail
  refine (live_calls _).mono ?_
  rintro e w' ⟨rfl, hB⟩
  have HL := Lib.hid hB; clear hB
  go_wp2_with fail
  go_ret
  exact ⟨rfl, bstep P4.out.1 HL.out⟩
end Go.Proofs.Ytacplkanjhjbpaa
