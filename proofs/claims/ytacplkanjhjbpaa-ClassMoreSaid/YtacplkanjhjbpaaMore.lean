import Derived.Test.YtacplkanjhjbpaaPlain
import Derived.Test.YtacplkanjhjbpaaLive
import Derived.Test.YtacplkanjhjbpaaStep
import Derived.BigQuiet
import Derived.Deep.QuietTactic
namespace Go.Proofs.Ytacplkanjhjbpaa
open Go.RowKit Go.Proofs.YtacplkanjhjbpaaW.PrintWords Go.Proofs.YtacplkanjhjbpaaW.PrintLast Go.Proofs.YtacplkanjhjbpaaW.PrintMore
open PClassChooses
set_option linter.unusedVariables false
set_option linter.unusedSimpArgs false

theorem moreS {w W0 W : World} {b0 b1 : Bool} {n2 n3 n4 kind size x y : Int} {b off c : Nat} (H : Box w W0 (askCells b0 b1 n2 n3 n4 kind size (some ⟨b, off, none⟩) 2 c) 26) (s0 : W0.cell? ⟨b, off, none⟩ = some (.int .i64 x)) (s1 : W0.cell? ⟨b, off + 1, none⟩ = some (.int .i64 y)) (h : Below W0.heap.size W0 W) :
    Below W0.heap.size W0 W ∧ W.cell? ⟨w.heap.size, 0, none⟩ = some (.bool b0) ∧ W.cell? ⟨w.heap.size, 1, none⟩ = some (.bool b1) ∧ W.cell? ⟨w.heap.size, 2, none⟩ = some (.int .i64 n2) ∧ W.cell? ⟨w.heap.size, 3, none⟩ = some (.int .i64 n3) ∧ W.cell? ⟨w.heap.size, 4, none⟩ = some (.int .i64 n4) ∧ W.cell? ⟨w.heap.size, 5, none⟩ = some (.int .i64 kind) ∧ W.cell? ⟨w.heap.size, 6, none⟩ = some (.int .i64 size) ∧ W.cell? ⟨w.heap.size, 7, none⟩ = some (.slice (some ⟨b, off, none⟩) 2 c) ∧ W.cell? ⟨b, off, none⟩ = some (.int .i64 x) ∧ W.cell? ⟨b, off + 1, none⟩ = some (.int .i64 y) := by
  obtain ⟨q0, q1, q2, q3, q4, q5, q6, q7⟩ := (H.step h).ask
  exact ⟨h, q0, q1, q2, q3, q4, q5, q6, q7, pw_cell_below h s0, pw_cell_below h s1⟩

theorem chooseS_more (mf mi : Bool) (s a z kind size x y x' y' : Int) (h1 : 1 ≤ x) (h2 : 1 ≤ y) (h3 : 1 ≤ x') (h4 : 1 ≤ y') : chooseS mf mi s a z kind size [x, y] = chooseS mf mi s a z kind size [x', y'] := by
  unfold chooseS
  simp only [rd0, rd1]
  have e1 : (0 ≤ x) = True := by simp; omega
  have e2 : (0 ≤ y) = True := by simp; omega
  have e3 : (0 ≤ x') = True := by simp; omega
  have e4 : (0 ≤ y') = True := by simp; omega
  have e5 : (0 < x) = True := by simp; omega
  have e6 : (0 < y) = True := by simp; omega
  have e7 : (0 < x') = True := by simp; omega
  have e8 : (0 < y') = True := by simp; omega
  simp only [e1, e2, e3, e4, e5, e6, e7, e8, List.length_cons, List.length_nil]
theorem chooseS_ok (mf mi : Bool) (s a z kind size x y : Int) (hp : polOk s a z) (h1 : 0 ≤ kind) (h2 : kind ≤ 1) (h3 : 0 ≤ size) (h4 : size ≤ 960) (h5 : 1 ≤ x) (h6 : 1 ≤ y) : ∃ r, told r ∧ chooseS mf mi s a z kind size [x, y] = (r, 0) := by
  have ht := chooseS_told mf mi s a z kind size [x, y]
  refine ⟨_, ht, ?_⟩
  unfold chooseS
  rw [if_pos ⟨hp, h1, h2, h3, h4, rfl, by rw [rd0]; omega, by rw [rd1]; omega⟩, rd0, rd1]
  have e5 : 0 < x := by omega
  have e6 : 0 < y := by omega
  repeat' split
  all_goals first | rfl | omega

set_option maxHeartbeats 2000000 in
set_option maxRecDepth 100000 in
theorem more_bad (b0 b1 : Bool) (n2 n3 n4 kind size : Int) (A : Option Addr) (n c : Nat) (more : Int) (w : World) (hp : ¬ polOk n2 n3 n4) :
    Calls Try.prog 7 #[.agg #[.bool b0, .bool b1, .int .i64 n2, .int .i64 n3, .int .i64 n4, .int .i64 kind, .int .i64 size, .slice A n c], .int .i64 more] w fun e w' => e = .returned (.bool true) ∧ Below w.heap.size w w' := by
  have hev := Lib.hid ((check_ok b0 b1 n2 n3 n4).trans (by rw [checkS, if_neg hp]))
  clear hp
  go_enter Try.func7, Try.ntmps7
  go_wp2_with fail
  refine (class_Check.calls b0 b1 n2 n3 n4 1 _ hev.out).mono ?_
  rintro e w1 ⟨rfl, hB⟩
  have P1 := Lib.hid ((Box.start w (askCells b0 b1 n2 n3 n4 kind size A n c) 26).step hB); clear hB
  obtain ⟨q0, q1, q2, q3, q4, q5, q6, q7⟩ := P1.out.ask
  go_wp2_with fail
  refine (live_calls _).mono ?_
  rintro e w' ⟨rfl, hB⟩
  have HL := Lib.hid hB; clear hB
  go_wp2_with fail
  go_ret
  exact ⟨rfl, bstep P1.out.1 HL.out⟩

set_option maxHeartbeats 2000000 in
set_option maxRecDepth 100000 in
theorem more_len (b0 b1 : Bool) (n2 n3 n4 kind size : Int) (A : Option Addr) (n c : Nat) (more : Int) (w : World) (hp : polOk n2 n3 n4) (hn : n ≠ 2) :
    Calls Try.prog 7 #[.agg #[.bool b0, .bool b1, .int .i64 n2, .int .i64 n3, .int .i64 n4, .int .i64 kind, .int .i64 size, .slice A n c], .int .i64 more] w fun e w' => e = .returned (.bool true) ∧ Below w.heap.size w w' := by
  have hev := Lib.hid ((check_ok b0 b1 n2 n3 n4).trans (by rw [checkS, if_pos hp]))
  clear hp
  have hn1 : ((n : Int) == 2) = false := by simp; omega
  have hn2 : ((n : Int) != 2) = true := by simp; omega
  clear hn
  go_enter Try.func7, Try.ntmps7
  go_wp2_with fail
  refine (class_Check.calls b0 b1 n2 n3 n4 0 _ hev.out).mono ?_
  rintro e w1 ⟨rfl, hB⟩
  have P1 := Lib.hid ((Box.start w (askCells b0 b1 n2 n3 n4 kind size A n c) 26).step hB); clear hB
  obtain ⟨q0, q1, q2, q3, q4, q5, q6, q7⟩ := P1.out.ask
  go_wp2_with fail
  refine (live_calls _).mono ?_
  rintro e w' ⟨rfl, hB⟩
  have HL := Lib.hid hB; clear hB
  go_wp2_with fail
  go_ret
  exact ⟨rfl, bstep P1.out.1 HL.out⟩

set_option maxHeartbeats 2000000 in
set_option maxRecDepth 100000 in
theorem more_g1 (b0 b1 : Bool) (n2 n3 n4 kind size x y : Int) (b off c : Nat) (more : Int) (w : World) (hp : polOk n2 n3 n4) (k0 : Hid (w.cell? ⟨b, off, none⟩ = some (.int .i64 x))) (k1 : Hid (w.cell? ⟨b, off + 1, none⟩ = some (.int .i64 y))) (h1 : kind < 0) :
    Calls Try.prog 7 #[.agg #[.bool b0, .bool b1, .int .i64 n2, .int .i64 n3, .int .i64 n4, .int .i64 kind, .int .i64 size, .slice (some ⟨b, off, none⟩) 2 c], .int .i64 more] w fun e w' => e = .returned (.bool true) ∧ Below w.heap.size w w' := by
  have hev := Lib.hid ((check_ok b0 b1 n2 n3 n4).trans (by rw [checkS, if_pos hp]))
  clear hp
  go_enter Try.func7, Try.ntmps7
  go_wp2_with fail
  refine (class_Check.calls b0 b1 n2 n3 n4 0 _ hev.out).mono ?_
  rintro e w1 ⟨rfl, hB⟩
  have P1 := Lib.hid ((Box.start w (askCells b0 b1 n2 n3 n4 kind size (some ⟨b, off, none⟩) 2 c) 26).step hB); clear hB
  obtain ⟨q0, q1, q2, q3, q4, q5, q6, q7⟩ := P1.out.ask
  have s0 := pw_cell_below P1.out.1 k0.out
  have s1 := pw_cell_below P1.out.1 k1.out
  go_wp2_with fail
  refine (live_calls _).mono ?_
  rintro e w' ⟨rfl, hB⟩
  have HL := Lib.hid hB; clear hB
  go_wp2_with fail
  go_ret
  exact ⟨rfl, bstep P1.out.1 HL.out⟩

set_option maxHeartbeats 2000000 in
set_option maxRecDepth 100000 in
theorem more_g2 (b0 b1 : Bool) (n2 n3 n4 kind size x y : Int) (b off c : Nat) (more : Int) (w : World) (hp : polOk n2 n3 n4) (k0 : Hid (w.cell? ⟨b, off, none⟩ = some (.int .i64 x))) (k1 : Hid (w.cell? ⟨b, off + 1, none⟩ = some (.int .i64 y))) (h1 : ¬ kind < 0) (h2 : 1 < kind) :
    Calls Try.prog 7 #[.agg #[.bool b0, .bool b1, .int .i64 n2, .int .i64 n3, .int .i64 n4, .int .i64 kind, .int .i64 size, .slice (some ⟨b, off, none⟩) 2 c], .int .i64 more] w fun e w' => e = .returned (.bool true) ∧ Below w.heap.size w w' := by
  have hev := Lib.hid ((check_ok b0 b1 n2 n3 n4).trans (by rw [checkS, if_pos hp]))
  clear hp
  go_enter Try.func7, Try.ntmps7
  go_wp2_with fail
  refine (class_Check.calls b0 b1 n2 n3 n4 0 _ hev.out).mono ?_
  rintro e w1 ⟨rfl, hB⟩
  have P1 := Lib.hid ((Box.start w (askCells b0 b1 n2 n3 n4 kind size (some ⟨b, off, none⟩) 2 c) 26).step hB); clear hB
  obtain ⟨q0, q1, q2, q3, q4, q5, q6, q7⟩ := P1.out.ask
  have s0 := pw_cell_below P1.out.1 k0.out
  have s1 := pw_cell_below P1.out.1 k1.out
  go_wp2_with fail
  refine (live_calls _).mono ?_
  rintro e w' ⟨rfl, hB⟩
  have HL := Lib.hid hB; clear hB
  go_wp2_with fail
  go_ret
  exact ⟨rfl, bstep P1.out.1 HL.out⟩

set_option maxHeartbeats 2000000 in
set_option maxRecDepth 100000 in
theorem more_g3 (b0 b1 : Bool) (n2 n3 n4 kind size x y : Int) (b off c : Nat) (more : Int) (w : World) (hp : polOk n2 n3 n4) (k0 : Hid (w.cell? ⟨b, off, none⟩ = some (.int .i64 x))) (k1 : Hid (w.cell? ⟨b, off + 1, none⟩ = some (.int .i64 y))) (h1 : ¬ kind < 0) (h2 : ¬ 1 < kind) (h3 : size < 0) :
    Calls Try.prog 7 #[.agg #[.bool b0, .bool b1, .int .i64 n2, .int .i64 n3, .int .i64 n4, .int .i64 kind, .int .i64 size, .slice (some ⟨b, off, none⟩) 2 c], .int .i64 more] w fun e w' => e = .returned (.bool true) ∧ Below w.heap.size w w' := by
  have hev := Lib.hid ((check_ok b0 b1 n2 n3 n4).trans (by rw [checkS, if_pos hp]))
  clear hp
  go_enter Try.func7, Try.ntmps7
  go_wp2_with fail
  refine (class_Check.calls b0 b1 n2 n3 n4 0 _ hev.out).mono ?_
  rintro e w1 ⟨rfl, hB⟩
  have P1 := Lib.hid ((Box.start w (askCells b0 b1 n2 n3 n4 kind size (some ⟨b, off, none⟩) 2 c) 26).step hB); clear hB
  obtain ⟨q0, q1, q2, q3, q4, q5, q6, q7⟩ := P1.out.ask
  have s0 := pw_cell_below P1.out.1 k0.out
  have s1 := pw_cell_below P1.out.1 k1.out
  go_wp2_with fail
  refine (live_calls _).mono ?_
  rintro e w' ⟨rfl, hB⟩
  have HL := Lib.hid hB; clear hB
  go_wp2_with fail
  go_ret
  exact ⟨rfl, bstep P1.out.1 HL.out⟩

set_option maxHeartbeats 2000000 in
set_option maxRecDepth 100000 in
theorem more_g4 (b0 b1 : Bool) (n2 n3 n4 kind size x y : Int) (b off c : Nat) (more : Int) (w : World) (hp : polOk n2 n3 n4) (k0 : Hid (w.cell? ⟨b, off, none⟩ = some (.int .i64 x))) (k1 : Hid (w.cell? ⟨b, off + 1, none⟩ = some (.int .i64 y))) (h1 : ¬ kind < 0) (h2 : ¬ 1 < kind) (h3 : ¬ size < 0) (h4 : 960 < size) :
    Calls Try.prog 7 #[.agg #[.bool b0, .bool b1, .int .i64 n2, .int .i64 n3, .int .i64 n4, .int .i64 kind, .int .i64 size, .slice (some ⟨b, off, none⟩) 2 c], .int .i64 more] w fun e w' => e = .returned (.bool true) ∧ Below w.heap.size w w' := by
  have hev := Lib.hid ((check_ok b0 b1 n2 n3 n4).trans (by rw [checkS, if_pos hp]))
  clear hp
  go_enter Try.func7, Try.ntmps7
  go_wp2_with fail
  refine (class_Check.calls b0 b1 n2 n3 n4 0 _ hev.out).mono ?_
  rintro e w1 ⟨rfl, hB⟩
  have P1 := Lib.hid ((Box.start w (askCells b0 b1 n2 n3 n4 kind size (some ⟨b, off, none⟩) 2 c) 26).step hB); clear hB
  obtain ⟨q0, q1, q2, q3, q4, q5, q6, q7⟩ := P1.out.ask
  have s0 := pw_cell_below P1.out.1 k0.out
  have s1 := pw_cell_below P1.out.1 k1.out
  go_wp2_with fail
  refine (live_calls _).mono ?_
  rintro e w' ⟨rfl, hB⟩
  have HL := Lib.hid hB; clear hB
  go_wp2_with fail
  go_ret
  exact ⟨rfl, bstep P1.out.1 HL.out⟩

set_option maxHeartbeats 2000000 in
set_option maxRecDepth 100000 in
theorem more_g5 (b0 b1 : Bool) (n2 n3 n4 kind size x y : Int) (b off c : Nat) (more : Int) (w : World) (hp : polOk n2 n3 n4) (k0 : Hid (w.cell? ⟨b, off, none⟩ = some (.int .i64 x))) (k1 : Hid (w.cell? ⟨b, off + 1, none⟩ = some (.int .i64 y))) (h1 : ¬ kind < 0) (h2 : ¬ 1 < kind) (h3 : ¬ size < 0) (h4 : ¬ 960 < size) (h5 : x < 1) :
    Calls Try.prog 7 #[.agg #[.bool b0, .bool b1, .int .i64 n2, .int .i64 n3, .int .i64 n4, .int .i64 kind, .int .i64 size, .slice (some ⟨b, off, none⟩) 2 c], .int .i64 more] w fun e w' => e = .returned (.bool true) ∧ Below w.heap.size w w' := by
  have hev := Lib.hid ((check_ok b0 b1 n2 n3 n4).trans (by rw [checkS, if_pos hp]))
  clear hp
  go_enter Try.func7, Try.ntmps7
  go_wp2_with fail
  refine (class_Check.calls b0 b1 n2 n3 n4 0 _ hev.out).mono ?_
  rintro e w1 ⟨rfl, hB⟩
  have P1 := Lib.hid ((Box.start w (askCells b0 b1 n2 n3 n4 kind size (some ⟨b, off, none⟩) 2 c) 26).step hB); clear hB
  obtain ⟨q0, q1, q2, q3, q4, q5, q6, q7⟩ := P1.out.ask
  have s0 := pw_cell_below P1.out.1 k0.out
  have s1 := pw_cell_below P1.out.1 k1.out
  go_wp2_with fail
  refine (live_calls _).mono ?_
  rintro e w' ⟨rfl, hB⟩
  have HL := Lib.hid hB; clear hB
  go_wp2_with fail
  go_ret
  exact ⟨rfl, bstep P1.out.1 HL.out⟩

set_option maxHeartbeats 2000000 in
set_option maxRecDepth 100000 in
theorem more_g6 (b0 b1 : Bool) (n2 n3 n4 kind size x y : Int) (b off c : Nat) (more : Int) (w : World) (hp : polOk n2 n3 n4) (k0 : Hid (w.cell? ⟨b, off, none⟩ = some (.int .i64 x))) (k1 : Hid (w.cell? ⟨b, off + 1, none⟩ = some (.int .i64 y))) (h1 : ¬ kind < 0) (h2 : ¬ 1 < kind) (h3 : ¬ size < 0) (h4 : ¬ 960 < size) (h5 : ¬ x < 1) (h6 : y < 1) :
    Calls Try.prog 7 #[.agg #[.bool b0, .bool b1, .int .i64 n2, .int .i64 n3, .int .i64 n4, .int .i64 kind, .int .i64 size, .slice (some ⟨b, off, none⟩) 2 c], .int .i64 more] w fun e w' => e = .returned (.bool true) ∧ Below w.heap.size w w' := by
  have hev := Lib.hid ((check_ok b0 b1 n2 n3 n4).trans (by rw [checkS, if_pos hp]))
  clear hp
  go_enter Try.func7, Try.ntmps7
  go_wp2_with fail
  refine (class_Check.calls b0 b1 n2 n3 n4 0 _ hev.out).mono ?_
  rintro e w1 ⟨rfl, hB⟩
  have P1 := Lib.hid ((Box.start w (askCells b0 b1 n2 n3 n4 kind size (some ⟨b, off, none⟩) 2 c) 26).step hB); clear hB
  obtain ⟨q0, q1, q2, q3, q4, q5, q6, q7⟩ := P1.out.ask
  have s0 := pw_cell_below P1.out.1 k0.out
  have s1 := pw_cell_below P1.out.1 k1.out
  go_wp2_with fail
  refine (live_calls _).mono ?_
  rintro e w' ⟨rfl, hB⟩
  have HL := Lib.hid hB; clear hB
  go_wp2_with fail
  go_ret
  exact ⟨rfl, bstep P1.out.1 HL.out⟩

set_option maxHeartbeats 2000000 in
set_option maxRecDepth 100000 in
theorem more_g7 (b0 b1 : Bool) (n2 n3 n4 kind size x y : Int) (b off c : Nat) (more : Int) (w : World) (hp : polOk n2 n3 n4) (k0 : Hid (w.cell? ⟨b, off, none⟩ = some (.int .i64 x))) (k1 : Hid (w.cell? ⟨b, off + 1, none⟩ = some (.int .i64 y))) (h1 : ¬ kind < 0) (h2 : ¬ 1 < kind) (h3 : ¬ size < 0) (h4 : ¬ 960 < size) (h5 : ¬ x < 1) (h6 : ¬ y < 1) (h7 : 1073741824 < x) :
    Calls Try.prog 7 #[.agg #[.bool b0, .bool b1, .int .i64 n2, .int .i64 n3, .int .i64 n4, .int .i64 kind, .int .i64 size, .slice (some ⟨b, off, none⟩) 2 c], .int .i64 more] w fun e w' => e = .returned (.bool true) ∧ Below w.heap.size w w' := by
  have hev := Lib.hid ((check_ok b0 b1 n2 n3 n4).trans (by rw [checkS, if_pos hp]))
  clear hp
  go_enter Try.func7, Try.ntmps7
  go_wp2_with fail
  refine (class_Check.calls b0 b1 n2 n3 n4 0 _ hev.out).mono ?_
  rintro e w1 ⟨rfl, hB⟩
  have P1 := Lib.hid ((Box.start w (askCells b0 b1 n2 n3 n4 kind size (some ⟨b, off, none⟩) 2 c) 26).step hB); clear hB
  obtain ⟨q0, q1, q2, q3, q4, q5, q6, q7⟩ := P1.out.ask
  have s0 := pw_cell_below P1.out.1 k0.out
  have s1 := pw_cell_below P1.out.1 k1.out
  go_wp2_with fail
  refine (live_calls _).mono ?_
  rintro e w' ⟨rfl, hB⟩
  have HL := Lib.hid hB; clear hB
  go_wp2_with fail
  go_ret
  exact ⟨rfl, bstep P1.out.1 HL.out⟩

set_option maxHeartbeats 2000000 in
set_option maxRecDepth 100000 in
theorem more_g8 (b0 b1 : Bool) (n2 n3 n4 kind size x y : Int) (b off c : Nat) (more : Int) (w : World) (hp : polOk n2 n3 n4) (k0 : Hid (w.cell? ⟨b, off, none⟩ = some (.int .i64 x))) (k1 : Hid (w.cell? ⟨b, off + 1, none⟩ = some (.int .i64 y))) (h1 : ¬ kind < 0) (h2 : ¬ 1 < kind) (h3 : ¬ size < 0) (h4 : ¬ 960 < size) (h5 : ¬ x < 1) (h6 : ¬ y < 1) (h7 : ¬ 1073741824 < x) (h8 : 1073741824 < y) :
    Calls Try.prog 7 #[.agg #[.bool b0, .bool b1, .int .i64 n2, .int .i64 n3, .int .i64 n4, .int .i64 kind, .int .i64 size, .slice (some ⟨b, off, none⟩) 2 c], .int .i64 more] w fun e w' => e = .returned (.bool true) ∧ Below w.heap.size w w' := by
  have hev := Lib.hid ((check_ok b0 b1 n2 n3 n4).trans (by rw [checkS, if_pos hp]))
  clear hp
  go_enter Try.func7, Try.ntmps7
  go_wp2_with fail
  refine (class_Check.calls b0 b1 n2 n3 n4 0 _ hev.out).mono ?_
  rintro e w1 ⟨rfl, hB⟩
  have P1 := Lib.hid ((Box.start w (askCells b0 b1 n2 n3 n4 kind size (some ⟨b, off, none⟩) 2 c) 26).step hB); clear hB
  obtain ⟨q0, q1, q2, q3, q4, q5, q6, q7⟩ := P1.out.ask
  have s0 := pw_cell_below P1.out.1 k0.out
  have s1 := pw_cell_below P1.out.1 k1.out
  go_wp2_with fail
  refine (live_calls _).mono ?_
  rintro e w' ⟨rfl, hB⟩
  have HL := Lib.hid hB; clear hB
  go_wp2_with fail
  go_ret
  exact ⟨rfl, bstep P1.out.1 HL.out⟩

set_option maxHeartbeats 2000000 in
set_option maxRecDepth 100000 in
theorem more_g9 (b0 b1 : Bool) (n2 n3 n4 kind size x y : Int) (b off c : Nat) (more : Int) (w : World) (hp : polOk n2 n3 n4) (k0 : Hid (w.cell? ⟨b, off, none⟩ = some (.int .i64 x))) (k1 : Hid (w.cell? ⟨b, off + 1, none⟩ = some (.int .i64 y))) (h1 : ¬ kind < 0) (h2 : ¬ 1 < kind) (h3 : ¬ size < 0) (h4 : ¬ 960 < size) (h5 : ¬ x < 1) (h6 : ¬ y < 1) (h7 : ¬ 1073741824 < x) (h8 : ¬ 1073741824 < y) (h9 : more < 0) :
    Calls Try.prog 7 #[.agg #[.bool b0, .bool b1, .int .i64 n2, .int .i64 n3, .int .i64 n4, .int .i64 kind, .int .i64 size, .slice (some ⟨b, off, none⟩) 2 c], .int .i64 more] w fun e w' => e = .returned (.bool true) ∧ Below w.heap.size w w' := by
  have hev := Lib.hid ((check_ok b0 b1 n2 n3 n4).trans (by rw [checkS, if_pos hp]))
  clear hp
  go_enter Try.func7, Try.ntmps7
  go_wp2_with fail
  refine (class_Check.calls b0 b1 n2 n3 n4 0 _ hev.out).mono ?_
  rintro e w1 ⟨rfl, hB⟩
  have P1 := Lib.hid ((Box.start w (askCells b0 b1 n2 n3 n4 kind size (some ⟨b, off, none⟩) 2 c) 26).step hB); clear hB
  obtain ⟨q0, q1, q2, q3, q4, q5, q6, q7⟩ := P1.out.ask
  have s0 := pw_cell_below P1.out.1 k0.out
  have s1 := pw_cell_below P1.out.1 k1.out
  go_wp2_with fail
  refine (live_calls _).mono ?_
  rintro e w' ⟨rfl, hB⟩
  have HL := Lib.hid hB; clear hB
  go_wp2_with fail
  go_ret
  exact ⟨rfl, bstep P1.out.1 HL.out⟩

set_option maxHeartbeats 2000000 in
set_option maxRecDepth 100000 in
theorem more_g10 (b0 b1 : Bool) (n2 n3 n4 kind size x y : Int) (b off c : Nat) (more : Int) (w : World) (hp : polOk n2 n3 n4) (k0 : Hid (w.cell? ⟨b, off, none⟩ = some (.int .i64 x))) (k1 : Hid (w.cell? ⟨b, off + 1, none⟩ = some (.int .i64 y))) (h1 : ¬ kind < 0) (h2 : ¬ 1 < kind) (h3 : ¬ size < 0) (h4 : ¬ 960 < size) (h5 : ¬ x < 1) (h6 : ¬ y < 1) (h7 : ¬ 1073741824 < x) (h8 : ¬ 1073741824 < y) (h9 : ¬ more < 0) (h10 : 1073741824 < more) :
    Calls Try.prog 7 #[.agg #[.bool b0, .bool b1, .int .i64 n2, .int .i64 n3, .int .i64 n4, .int .i64 kind, .int .i64 size, .slice (some ⟨b, off, none⟩) 2 c], .int .i64 more] w fun e w' => e = .returned (.bool true) ∧ Below w.heap.size w w' := by
  have hev := Lib.hid ((check_ok b0 b1 n2 n3 n4).trans (by rw [checkS, if_pos hp]))
  clear hp
  go_enter Try.func7, Try.ntmps7
  go_wp2_with fail
  refine (class_Check.calls b0 b1 n2 n3 n4 0 _ hev.out).mono ?_
  rintro e w1 ⟨rfl, hB⟩
  have P1 := Lib.hid ((Box.start w (askCells b0 b1 n2 n3 n4 kind size (some ⟨b, off, none⟩) 2 c) 26).step hB); clear hB
  obtain ⟨q0, q1, q2, q3, q4, q5, q6, q7⟩ := P1.out.ask
  have s0 := pw_cell_below P1.out.1 k0.out
  have s1 := pw_cell_below P1.out.1 k1.out
  go_wp2_with fail
  refine (live_calls _).mono ?_
  rintro e w' ⟨rfl, hB⟩
  have HL := Lib.hid hB; clear hB
  go_wp2_with fail
  go_ret
  exact ⟨rfl, bstep P1.out.1 HL.out⟩

set_option maxHeartbeats 2000000 in
set_option maxRecDepth 100000 in
theorem more_main (b0 b1 : Bool) (n2 n3 n4 kind size x y more : Int) (b off c : Nat) (r : List Int) (w : World) (hp : polOk n2 n3 n4) (hC : Hid (Kd.C (Kd.int .i64) w (some ⟨b, off, none⟩) [x, y].length [x, y])) (hc : [x, y].length ≤ c) (k0 : Hid (w.cell? ⟨b, off, none⟩ = some (.int .i64 x))) (k1 : Hid (w.cell? ⟨b, off + 1, none⟩ = some (.int .i64 y)))
    (h1 : 0 ≤ kind) (h2 : kind ≤ 1) (h3 : 0 ≤ size) (h4 : size ≤ 960) (h5 : 1 ≤ x) (h6 : 1 ≤ y) (h7 : x ≤ 1073741824) (h8 : y ≤ 1073741824) (h9 : 0 ≤ more) (h10 : more ≤ 1073741824) (ht : told r) (hch : chooseS b0 b1 n2 n3 n4 kind size [x, y] = (r, 0)) :
    Calls Try.prog 7 #[.agg #[.bool b0, .bool b1, .int .i64 n2, .int .i64 n3, .int .i64 n4, .int .i64 kind, .int .i64 size, .slice (some ⟨b, off, none⟩) 2 c], .int .i64 more] w fun e w' => e = .returned (.bool true) ∧ Below w.heap.size w w' := by
  have hev := Lib.hid ((check_ok b0 b1 n2 n3 n4).trans (by rw [checkS, if_pos hp]))
  have hev2 := Lib.hid ((choose_ok b0 b1 n2 n3 n4 kind size [x, y]).trans (by rw [hch]))
  have hev3 := Lib.hid ((choose_ok b0 b1 n2 n3 n4 kind size [x + more, y + more]).trans (by rw [← chooseS_more b0 b1 n2 n3 n4 kind size x y (x + more) (y + more) h5 h6 (by omega) (by omega), hch]))
  have hev4 := Lib.hid (ints_ok r ht)
  clear hp hch ht
  go_enter Try.func7, Try.ntmps7
  go_wp2_with fail
  refine (class_Check.calls b0 b1 n2 n3 n4 0 _ hev.out).mono ?_
  rintro e w1 ⟨rfl, hB⟩
  have P1 := Lib.hid ((Box.start w (askCells b0 b1 n2 n3 n4 kind size (some ⟨b, off, none⟩) 2 c) 26).step hB); clear hB
  obtain ⟨q0, q1, q2, q3, q4, q5, q6, q7⟩ := P1.out.ask
  have s0 := pw_cell_below P1.out.1 k0.out
  have s1 := pw_cell_below P1.out.1 k1.out
  go_wp2_with fail
  refine (choose_any 9 b0 b1 n2 n3 n4 kind size _ c [x, y] r 0 _ (Kd.C_below hC.out P1.out.1) hc hev2.out).mono ?_
  rintro e w2 ⟨A1, c1, rfl, hl1, hC1, hB1⟩
  have P2 := Lib.hid (P1.out.step hB1)
  clear q0 q1 q2 q3 q4 q5 q6 q7 s0 s1 hB1 P1
  have s0 := Lib.hid (pw_cell_below P2.out.1 k0.out)
  have s1 := Lib.hid (pw_cell_below P2.out.1 k1.out)
  have HC1 := Lib.hid hC1; clear hC1
  have wx : IntKind.i64.wrap (x + more) = x + more := IntWalk.i64_in _ (by omega)
  have wy : IntKind.i64.wrap (y + more) = y + more := IntWalk.i64_in _ (by omega)
  go_wp2_with fail
  go_region_held3 (fun W => Below w2.heap.size w2 W ∧ W.cell? ⟨w.heap.size, 0, none⟩ = some (.bool b0) ∧ W.cell? ⟨w.heap.size, 1, none⟩ = some (.bool b1) ∧ W.cell? ⟨w.heap.size, 2, none⟩ = some (.int .i64 n2) ∧ W.cell? ⟨w.heap.size, 3, none⟩ = some (.int .i64 n3) ∧ W.cell? ⟨w.heap.size, 4, none⟩ = some (.int .i64 n4) ∧ W.cell? ⟨w.heap.size, 5, none⟩ = some (.int .i64 kind) ∧ W.cell? ⟨w.heap.size, 6, none⟩ = some (.int .i64 size) ∧ W.cell? ⟨w.heap.size, 7, none⟩ = some (.slice (some ⟨b, off, none⟩) 2 c) ∧ W.cell? ⟨b, off, none⟩ = some (.int .i64 x) ∧ W.cell? ⟨b, off + 1, none⟩ = some (.int .i64 y)) (first | exact moreS P2.out s0.out s1.out b0drew | exact moreS P2.out s0.out s1.out (balloc (And.left (by assumption))) | exact moreS P2.out s0.out s1.out (bstep (And.left (by assumption)) (by assumption))) (first | (go_at_call 10; refine (choose_any 9 b0 b1 n2 n3 n4 kind size _ 2 [x + more, y + more] r 0 _ (new2d (by simp) _ _) (le2 _ _) hev3.out).mono ?_; rintro e w3 ⟨A2, c2, rfl, hl2, hC2, hB2⟩))
  rename_i hHeld
  have P3 := Lib.hid (P2.out.step hHeld.1)
  have HC1_ := Lib.hid (Kd.C_below HC1.out hHeld.1)
  have HC2 := Lib.hid hC2
  clear hC2 hHeld HC1 hB2
  go_wp2_with fail
  refine (permafrostref01_Ints.calls 9 A1 c1 r A2 c2 r true _ HC1_.out hl1 HC2.out hl2 hev4.out).mono ?_
  rintro e w7 ⟨rfl, hD⟩
  have HD := Lib.hid hD.below; clear hD
  go_wp2_with fail
  refine (live_calls _).mono ?_
  rintro e w' ⟨rfl, hB⟩
  have HL := Lib.hid hB; clear hB
  go_wp2_with fail
  go_ret
  exact ⟨rfl, bstep (bstep P3.out.1 HD.out) HL.out⟩

theorem more_walk (b0 b1 : Bool) (n2 n3 n4 kind size : Int) (A : Option Addr) (c : Nat) (l : List Int) (more : Int) (w : World) (hr : Kd.C (Kd.int .i64) w A l.length l) (hc : l.length ≤ c) :
    Calls Try.prog 7 #[.agg #[.bool b0, .bool b1, .int .i64 n2, .int .i64 n3, .int .i64 n4, .int .i64 kind, .int .i64 size, .slice A l.length c], .int .i64 more] w fun e w' => e = .returned (.bool true) ∧ Below w.heap.size w w' := by
  by_cases hp : polOk n2 n3 n4
  case neg => exact more_bad b0 b1 n2 n3 n4 kind size A l.length c more w hp
  by_cases hn : l.length = 2
  case neg => exact more_len b0 b1 n2 n3 n4 kind size A l.length c more w hp hn
  obtain ⟨x, y, rfl⟩ := two_of hn
  obtain ⟨b, off, rfl, k0, k1⟩ := two_cells hr
  by_cases h1 : kind < 0
  · exact more_g1 b0 b1 n2 n3 n4 kind size x y b off c more w hp (Lib.hid k0) (Lib.hid k1) h1
  by_cases h2 : 1 < kind
  · exact more_g2 b0 b1 n2 n3 n4 kind size x y b off c more w hp (Lib.hid k0) (Lib.hid k1) h1 h2
  by_cases h3 : size < 0
  · exact more_g3 b0 b1 n2 n3 n4 kind size x y b off c more w hp (Lib.hid k0) (Lib.hid k1) h1 h2 h3
  by_cases h4 : 960 < size
  · exact more_g4 b0 b1 n2 n3 n4 kind size x y b off c more w hp (Lib.hid k0) (Lib.hid k1) h1 h2 h3 h4
  by_cases h5 : x < 1
  · exact more_g5 b0 b1 n2 n3 n4 kind size x y b off c more w hp (Lib.hid k0) (Lib.hid k1) h1 h2 h3 h4 h5
  by_cases h6 : y < 1
  · exact more_g6 b0 b1 n2 n3 n4 kind size x y b off c more w hp (Lib.hid k0) (Lib.hid k1) h1 h2 h3 h4 h5 h6
  by_cases h7 : 1073741824 < x
  · exact more_g7 b0 b1 n2 n3 n4 kind size x y b off c more w hp (Lib.hid k0) (Lib.hid k1) h1 h2 h3 h4 h5 h6 h7
  by_cases h8 : 1073741824 < y
  · exact more_g8 b0 b1 n2 n3 n4 kind size x y b off c more w hp (Lib.hid k0) (Lib.hid k1) h1 h2 h3 h4 h5 h6 h7 h8
  by_cases h9 : more < 0
  · exact more_g9 b0 b1 n2 n3 n4 kind size x y b off c more w hp (Lib.hid k0) (Lib.hid k1) h1 h2 h3 h4 h5 h6 h7 h8 h9
  by_cases h10 : 1073741824 < more
  · exact more_g10 b0 b1 n2 n3 n4 kind size x y b off c more w hp (Lib.hid k0) (Lib.hid k1) h1 h2 h3 h4 h5 h6 h7 h8 h9 h10
  obtain ⟨r, ht, hch⟩ := chooseS_ok b0 b1 n2 n3 n4 kind size x y hp (by omega) (by omega) (by omega) (by omega) (by omega) (by omega)
  exact more_main b0 b1 n2 n3 n4 kind size x y more b off c r w hp (Lib.hid hr) hc (Lib.hid k0) (Lib.hid k1) (by omega) (by omega) (by omega) (by omega) (by omega) (by omega) (by omega) (by omega) (by omega) (by omega) ht hch
end Go.Proofs.Ytacplkanjhjbpaa
