import Derived.Test.YtacplkanjhjbpaaPlain
import Derived.Test.YtacplkanjhjbpaaLive
import Derived.Test.YtacplkanjhjbpaaStep
import Derived.BigQuiet
import Derived.Deep.QuietTactic
namespace Go.Proofs.Ytacplkanjhjbpaa
open Go.RowKit Go.Proofs.YtacplkanjhjbpaaW.PrintWords Go.Proofs.YtacplkanjhjbpaaW.PrintLast Go.Proofs.YtacplkanjhjbpaaW.PrintMore
open PClassChooses
set_option linter.unusedVariables false
set_option linter.unusedSimpArgs false

theorem chooseS_mirror (s size a b : Int) (h1 : 0 ≤ s) (h2 : s ≤ 256) (h3 : 0 ≤ size) (h4 : size ≤ 960) (h5 : 1 ≤ a) (h6 : 1 ≤ b) : chooseS true true s 0 0 0 size [a, b] = ([1, 0], 0) := by
  unfold chooseS
  rw [if_pos ⟨⟨h1, h2, by omega⟩, by omega, by omega, h3, h4, rfl, by rw [rd0]; omega, by rw [rd1]; omega⟩, if_pos ⟨by simp [wantsS], by rw [rd1]; omega⟩, if_pos ⟨rfl, rfl, by rw [rd0]; omega⟩]

set_option maxHeartbeats 2000000 in
set_option maxRecDepth 100000 in
theorem mirror_walk (a b c d : Int) (w : World) :
    Calls Try.prog 6 #[.agg #[.int .i64 a, .int .i64 b, .int .i64 c, .int .i64 d]] w fun e w' => e = .returned (.bool true) ∧ Below w.heap.size w w' := by
  by_cases h1 : a < 0
  · go_enter Try.func6, Try.ntmps6
    go_wp2_with fail
    go_quiet (fail)
    go_wp2_with fail
    refine (live_calls _).mono ?_
    rintro e w' ⟨rfl, hB⟩
    have HL := Lib.hid hB; clear hB
    go_wp2_with fail
    go_ret
    exact ⟨rfl, bstep (bdrew (balloc b0)) HL.out⟩
  by_cases h2 : 960 < a
  · go_enter Try.func6, Try.ntmps6
    go_wp2_with fail
    go_quiet (fail)
    go_wp2_with fail
    refine (live_calls _).mono ?_
    rintro e w' ⟨rfl, hB⟩
    have HL := Lib.hid hB; clear hB
    go_wp2_with fail
    go_ret
    exact ⟨rfl, bstep (bdrew (balloc b0)) HL.out⟩
  by_cases h3 : b < 1
  · go_enter Try.func6, Try.ntmps6
    go_wp2_with fail
    go_quiet (fail)
    go_wp2_with fail
    refine (live_calls _).mono ?_
    rintro e w' ⟨rfl, hB⟩
    have HL := Lib.hid hB; clear hB
    go_wp2_with fail
    go_ret
    exact ⟨rfl, bstep (bdrew (balloc b0)) HL.out⟩
  by_cases h4 : c < 1
  · go_enter Try.func6, Try.ntmps6
    go_wp2_with fail
    go_quiet (fail)
    go_wp2_with fail
    refine (live_calls _).mono ?_
    rintro e w' ⟨rfl, hB⟩
    have HL := Lib.hid hB; clear hB
    go_wp2_with fail
    go_ret
    exact ⟨rfl, bstep (bdrew (balloc b0)) HL.out⟩
  by_cases h5 : d < 0
  · go_enter Try.func6, Try.ntmps6
    go_wp2_with fail
    go_quiet (fail)
    go_wp2_with fail
    refine (live_calls _).mono ?_
    rintro e w' ⟨rfl, hB⟩
    have HL := Lib.hid hB; clear hB
    go_wp2_with fail
    go_ret
    exact ⟨rfl, bstep (bdrew (balloc b0)) HL.out⟩
  by_cases h6 : 256 < d
  · go_enter Try.func6, Try.ntmps6
    go_wp2_with fail
    go_quiet (fail)
    go_wp2_with fail
    refine (live_calls _).mono ?_
    rintro e w' ⟨rfl, hB⟩
    have HL := Lib.hid hB; clear hB
    go_wp2_with fail
    go_ret
    exact ⟨rfl, bstep (bdrew (balloc b0)) HL.out⟩
  have hev2 := Lib.hid ((choose_ok true true d 0 0 0 a [b, c]).trans (by rw [chooseS_mirror d a b c (by omega) (by omega) (by omega) (by omega) (by omega) (by omega)]))
  go_enter Try.func6, Try.ntmps6
  go_wp2_with fail
  go_quiet (fail)
  go_wp2_with fail
  refine (choose_any 9 true true d 0 0 0 a _ 2 [b, c] [1, 0] 0 _ (new2 (by simp) b c) (le2 b c) hev2.out).mono ?_
  rintro e w1 ⟨A1, c1, rfl, hl1, hC1, hB1⟩
  have HB := Lib.hid hB1; clear hB1
  have HC1 := Lib.hid hC1; clear hC1
  go_wp2_with fail
  refine (permafrostref01_Ints.calls 9 A1 c1 [1, 0] _ 2 [1, 0] true _ (Kd.C_below HC1.out (balloc b0)) hl1 (new2 (by simp) 1 0) (le2 1 0) ev7).mono ?_
  rintro e w7 ⟨rfl, hD⟩
  have HD := Lib.hid hD.below; clear hD
  go_wp2_with fail
  refine (live_calls _).mono ?_
  rintro e w' ⟨rfl, hB⟩
  have HL := Lib.hid hB; clear hB
  go_wp2_with fail
  go_ret
  exact ⟨rfl, bstep (bstep (balloc (bstep (balloc (bdrew (balloc b0))) HB.out)) HD.out) HL.out⟩
end Go.Proofs.Ytacplkanjhjbpaa
