import Derived.Test.YtacplkanjhjbpaaPlain
import Derived.Test.YtacplkanjhjbpaaLive
import Derived.Test.YtacplkanjhjbpaaStep
import Derived.BigQuiet
import Derived.Deep.QuietTactic
namespace Go.Proofs.Ytacplkanjhjbpaa
open Go.RowKit Go.Proofs.YtacplkanjhjbpaaW.PrintWords Go.Proofs.YtacplkanjhjbpaaW.PrintLast Go.Proofs.YtacplkanjhjbpaaW.PrintMore
open PClassChooses
set_option linter.unusedVariables false
set_option linter.unusedSimpArgs false

theorem chooseS_plain (kind size a b : Int) (h1 : 0 ≤ kind) (h2 : kind ≤ 1) (h3 : 0 ≤ size) (h4 : size ≤ 960) (h5 : 0 ≤ a) (h6 : 0 ≤ b) : chooseS false true 0 0 0 kind size [a, b] = if 0 < a then ([0], 0) else ([], 6) := by
  unfold chooseS
  rw [if_pos ⟨⟨by omega, by omega, by omega⟩, h1, h2, h3, h4, rfl, by rw [rd0]; omega, by rw [rd1]; omega⟩, if_neg (by simp [wantsS]), rd0]
theorem needS_plain (n : Int) (h1 : 0 ≤ n) (h2 : n ≤ 960) : needS false 0 0 0 n n = (n + n, 0) := by
  unfold needS
  rw [if_pos ⟨⟨by omega, by omega, by omega⟩, by omega, by omega, by omega, by omega⟩]
  simp

set_option maxHeartbeats 2000000 in
set_option maxRecDepth 100000 in
theorem plain_walk (a b c d : Int) (w : World) :
    Calls Try.prog 5 #[.agg #[.int .i64 a, .int .i64 b, .int .i64 c, .int .i64 d]] w fun e w' => e = .returned (.bool true) ∧ Below w.heap.size w w' := by
  by_cases h1 : a < 0
  · go_enter Try.func5, Try.ntmps5
    go_wp2_with fail
    go_quiet (fail)
    go_wp2_with fail
    refine (live_calls _).mono ?_
    rintro e w' ⟨rfl, hB⟩
    have HL := Lib.hid hB; clear hB
    go_wp2_with fail
    go_ret
    exact ⟨rfl, bstep (bdrew (balloc b0)) HL.out⟩
  by_cases h2 : 1 < a
  · go_enter Try.func5, Try.ntmps5
    go_wp2_with fail
    go_quiet (fail)
    go_wp2_with fail
    refine (live_calls _).mono ?_
    rintro e w' ⟨rfl, hB⟩
    have HL := Lib.hid hB; clear hB
    go_wp2_with fail
    go_ret
    exact ⟨rfl, bstep (bdrew (balloc b0)) HL.out⟩
  by_cases h3 : b < 0
  · go_enter Try.func5, Try.ntmps5
    go_wp2_with fail
    go_quiet (fail)
    go_wp2_with fail
    refine (live_calls _).mono ?_
    rintro e w' ⟨rfl, hB⟩
    have HL := Lib.hid hB; clear hB
    go_wp2_with fail
    go_ret
    exact ⟨rfl, bstep (bdrew (balloc b0)) HL.out⟩
  by_cases h4 : 960 < b
  · go_enter Try.func5, Try.ntmps5
    go_wp2_with fail
    go_quiet (fail)
    go_wp2_with fail
    refine (live_calls _).mono ?_
    rintro e w' ⟨rfl, hB⟩
    have HL := Lib.hid hB; clear hB
    go_wp2_with fail
    go_ret
    exact ⟨rfl, bstep (bdrew (balloc b0)) HL.out⟩
  by_cases h5 : c < 0
  · go_enter Try.func5, Try.ntmps5
    go_wp2_with fail
    go_quiet (fail)
    go_wp2_with fail
    refine (live_calls _).mono ?_
    rintro e w' ⟨rfl, hB⟩
    have HL := Lib.hid hB; clear hB
    go_wp2_with fail
    go_ret
    exact ⟨rfl, bstep (bdrew (balloc b0)) HL.out⟩
  by_cases h6 : d < 0
  · go_enter Try.func5, Try.ntmps5
    go_wp2_with fail
    go_quiet (fail)
    go_wp2_with fail
    refine (live_calls _).mono ?_
    rintro e w' ⟨rfl, hB⟩
    have HL := Lib.hid hB; clear hB
    go_wp2_with fail
    go_ret
    exact ⟨rfl, bstep (bdrew (balloc b0)) HL.out⟩
  have hev3 := Lib.hid ((need_ok false true 0 0 0 b b).trans (by rw [needS_plain b (by omega) (by omega)]))
  by_cases h7 : c = 0
  · subst h7
    have hev2 := Lib.hid ((choose_ok false true 0 0 0 a b [0, d]).trans (by rw [chooseS_plain a b 0 d (by omega) (by omega) (by omega) (by omega) (by omega) (by omega), if_neg (by omega)]))
    go_enter Try.func5, Try.ntmps5
    go_wp2_with fail
    go_quiet (fail)
    go_wp2_with fail
    refine (choose_any 9 false true 0 0 0 a b _ 2 [0, d] [] 6 _ (new2 (by simp) 0 d) (le2 0 d) hev2.out).mono ?_
    rintro e w1 ⟨A1, c1, rfl, hl1, hC1, hB1⟩
    have HB := Lib.hid hB1; clear hB1
    have HC1 := Lib.hid hC1; clear hC1
    go_wp2_with fail
    refine (class_Need.calls 9 false true 0 0 0 b b _ _ _ hev3.out).mono ?_
    rintro e w2 ⟨rfl, hB2⟩
    have HB2 := Lib.hid hB2; clear hB2
    go_wp2_with fail
    refine (live_calls _).mono ?_
    rintro e w' ⟨rfl, hB⟩
    have HL := Lib.hid hB; clear hB
    go_wp2_with fail
    go_ret
    exact ⟨rfl, bstep (bstep (bstep (balloc (bdrew (balloc b0))) HB.out) HB2.out) HL.out⟩
  · have hev2 := Lib.hid ((choose_ok false true 0 0 0 a b [c, d]).trans (by rw [chooseS_plain a b c d (by omega) (by omega) (by omega) (by omega) (by omega) (by omega), if_pos (by omega)]))
    go_enter Try.func5, Try.ntmps5
    go_wp2_with fail
    go_quiet (fail)
    go_wp2_with fail
    refine (choose_any 9 false true 0 0 0 a b _ 2 [c, d] [0] 0 _ (new2 (by simp) c d) (le2 c d) hev2.out).mono ?_
    rintro e w1 ⟨A1, c1, rfl, hl1, hC1, hB1⟩
    have HB := Lib.hid hB1; clear hB1
    have HC1 := Lib.hid hC1; clear hC1
    go_wp2_with fail
    refine (class_Need.calls 9 false true 0 0 0 b b _ _ _ hev3.out).mono ?_
    rintro e w2 ⟨rfl, hB2⟩
    have HB2 := Lib.hid hB2; clear hB2
    go_wp2_with fail
    refine (permafrostref01_Ints.calls 9 A1 c1 [0] _ 1 [0] true _ (Kd.C_below (Kd.C_below HC1.out HB2.out) (balloc b0)) hl1 (new1 (by simp) 0) (Nat.le_refl _) ev8).mono ?_
    rintro e w7 ⟨rfl, hD⟩
    have HD := Lib.hid hD.below; clear hD
    go_wp2_with fail
    refine (live_calls _).mono ?_
    rintro e w' ⟨rfl, hB⟩
    have HL := Lib.hid hB; clear hB
    go_wp2_with fail
    go_ret
    exact ⟨rfl, bstep (bstep (balloc (bstep (bstep (balloc (bdrew (balloc b0))) HB.out) HB2.out)) HD.out) HL.out⟩
end Go.Proofs.Ytacplkanjhjbpaa
