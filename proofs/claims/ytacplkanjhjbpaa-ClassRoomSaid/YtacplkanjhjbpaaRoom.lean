import Derived.Test.YtacplkanjhjbpaaPlain
import Derived.Test.YtacplkanjhjbpaaLive
import Derived.Test.YtacplkanjhjbpaaStep
import Derived.BigQuiet
import Derived.Deep.QuietTactic
namespace Go.Proofs.Ytacplkanjhjbpaa
open Go.RowKit Go.Proofs.YtacplkanjhjbpaaW.PrintWords Go.Proofs.YtacplkanjhjbpaaW.PrintLast Go.Proofs.YtacplkanjhjbpaaW.PrintMore
open PClassChooses
set_option linter.unusedVariables false
set_option linter.unusedSimpArgs false

set_option maxHeartbeats 2000000 in
set_option maxRecDepth 100000 in
theorem room_bad (b0 b1 : Bool) (n2 n3 n4 kind size : Int) (A : Option Addr) (n c : Nat) (w : World) (hp : ¬ polOk n2 n3 n4) :
    Calls Try.prog 4 #[.agg #[.bool b0, .bool b1, .int .i64 n2, .int .i64 n3, .int .i64 n4, .int .i64 kind, .int .i64 size, .slice A n c]] w fun e w' => e = .returned (.bool true) ∧ Below w.heap.size w w' := by
  have hev := Lib.hid ((check_ok b0 b1 n2 n3 n4).trans (by rw [checkS, if_neg hp]))
  clear hp
  go_enter Try.func4, Try.ntmps4
  go_wp2_with fail
  refine (class_Check.calls b0 b1 n2 n3 n4 1 _ hev.out).mono ?_
  rintro e w1 ⟨rfl, hB⟩
  have P1 := Lib.hid ((Box.start w (askCells b0 b1 n2 n3 n4 kind size A n c) 26).step hB); clear hB
  obtain ⟨q0, q1, q2, q3, q4, q5, q6, q7⟩ := P1.out.ask
  go_wp2_with fail
  refine (live_calls _).mono ?_
  rintro e w' ⟨rfl, hB⟩
  have HL := Lib.hid hB; clear hB
  go_wp2_with fail
  go_ret
  exact ⟨rfl, bstep P1.out.1 HL.out⟩

set_option maxHeartbeats 2000000 in
set_option maxRecDepth 100000 in
theorem room_len (b0 b1 : Bool) (n2 n3 n4 kind size : Int) (A : Option Addr) (n c : Nat) (w : World) (hp : polOk n2 n3 n4) (hn : n ≠ 2) :
    Calls Try.prog 4 #[.agg #[.bool b0, .bool b1, .int .i64 n2, .int .i64 n3, .int .i64 n4, .int .i64 kind, .int .i64 size, .slice A n c]] w fun e w' => e = .returned (.bool true) ∧ Below w.heap.size w w' := by
  have hev := Lib.hid ((check_ok b0 b1 n2 n3 n4).trans (by rw [checkS, if_pos hp]))
  clear hp
  have hn1 : ((n : Int) == 2) = false := by simp; omega
  have hn2 : ((n : Int) != 2) = true := by simp; omega
  clear hn
  go_enter Try.func4, Try.ntmps4
  go_wp2_with fail
  refine (class_Check.calls b0 b1 n2 n3 n4 0 _ hev.out).mono ?_
  rintro e w1 ⟨rfl, hB⟩
  have P1 := Lib.hid ((Box.start w (askCells b0 b1 n2 n3 n4 kind size A n c) 26).step hB); clear hB
  obtain ⟨q0, q1, q2, q3, q4, q5, q6, q7⟩ := P1.out.ask
  go_wp2_with fail
  refine (live_calls _).mono ?_
  rintro e w' ⟨rfl, hB⟩
  have HL := Lib.hid hB; clear hB
  go_wp2_with fail
  go_ret
  exact ⟨rfl, bstep P1.out.1 HL.out⟩

set_option maxHeartbeats 2000000 in
set_option maxRecDepth 100000 in
theorem room_guards (b0 b1 : Bool) (n2 n3 n4 kind size x y : Int) (b off c : Nat) (w : World) (hp : polOk n2 n3 n4) (k0 : Hid (w.cell? ⟨b, off, none⟩ = some (.int .i64 x))) (k1 : Hid (w.cell? ⟨b, off + 1, none⟩ = some (.int .i64 y))) (hg : ¬ (0 ≤ kind ∧ kind ≤ 1 ∧ 0 ≤ size ∧ size ≤ 960 ∧ 0 ≤ x ∧ 0 ≤ y)) :
    Calls Try.prog 4 #[.agg #[.bool b0, .bool b1, .int .i64 n2, .int .i64 n3, .int .i64 n4, .int .i64 kind, .int .i64 size, .slice (some ⟨b, off, none⟩) 2 c]] w fun e w' => e = .returned (.bool true) ∧ Below w.heap.size w w' := by
  have hev := Lib.hid ((check_ok b0 b1 n2 n3 n4).trans (by rw [checkS, if_pos hp]))
  clear hp
  by_cases h1 : kind < 0
  · go_enter Try.func4, Try.ntmps4
    go_wp2_with fail
    refine (class_Check.calls b0 b1 n2 n3 n4 0 _ hev.out).mono ?_
    rintro e w1 ⟨rfl, hB⟩
    have P1 := Lib.hid ((Box.start w (askCells b0 b1 n2 n3 n4 kind size (some ⟨b, off, none⟩) 2 c) 26).step hB); clear hB
    obtain ⟨q0, q1, q2, q3, q4, q5, q6, q7⟩ := P1.out.ask
    have s0 := pw_cell_below P1.out.1 k0.out
    have s1 := pw_cell_below P1.out.1 k1.out
    go_wp2_with fail
    refine (live_calls _).mono ?_
    rintro e w' ⟨rfl, hB⟩
    have HL := Lib.hid hB; clear hB
    go_wp2_with fail
    go_ret
    exact ⟨rfl, bstep P1.out.1 HL.out⟩
  by_cases h2 : 1 < kind
  · go_enter Try.func4, Try.ntmps4
    go_wp2_with fail
    refine (class_Check.calls b0 b1 n2 n3 n4 0 _ hev.out).mono ?_
    rintro e w1 ⟨rfl, hB⟩
    have P1 := Lib.hid ((Box.start w (askCells b0 b1 n2 n3 n4 kind size (some ⟨b, off, none⟩) 2 c) 26).step hB); clear hB
    obtain ⟨q0, q1, q2, q3, q4, q5, q6, q7⟩ := P1.out.ask
    have s0 := pw_cell_below P1.out.1 k0.out
    have s1 := pw_cell_below P1.out.1 k1.out
    go_wp2_with fail
    refine (live_calls _).mono ?_
    rintro e w' ⟨rfl, hB⟩
    have HL := Lib.hid hB; clear hB
    go_wp2_with fail
    go_ret
    exact ⟨rfl, bstep P1.out.1 HL.out⟩
  by_cases h3 : size < 0
  · go_enter Try.func4, Try.ntmps4
    go_wp2_with fail
    refine (class_Check.calls b0 b1 n2 n3 n4 0 _ hev.out).mono ?_
    rintro e w1 ⟨rfl, hB⟩
    have P1 := Lib.hid ((Box.start w (askCells b0 b1 n2 n3 n4 kind size (some ⟨b, off, none⟩) 2 c) 26).step hB); clear hB
    obtain ⟨q0, q1, q2, q3, q4, q5, q6, q7⟩ := P1.out.ask
    have s0 := pw_cell_below P1.out.1 k0.out
    have s1 := pw_cell_below P1.out.1 k1.out
    go_wp2_with fail
    refine (live_calls _).mono ?_
    rintro e w' ⟨rfl, hB⟩
    have HL := Lib.hid hB; clear hB
    go_wp2_with fail
    go_ret
    exact ⟨rfl, bstep P1.out.1 HL.out⟩
  by_cases h4 : 960 < size
  · go_enter Try.func4, Try.ntmps4
    go_wp2_with fail
    refine (class_Check.calls b0 b1 n2 n3 n4 0 _ hev.out).mono ?_
    rintro e w1 ⟨rfl, hB⟩
    have P1 := Lib.hid ((Box.start w (askCells b0 b1 n2 n3 n4 kind size (some ⟨b, off, none⟩) 2 c) 26).step hB); clear hB
    obtain ⟨q0, q1, q2, q3, q4, q5, q6, q7⟩ := P1.out.ask
    have s0 := pw_cell_below P1.out.1 k0.out
    have s1 := pw_cell_below P1.out.1 k1.out
    go_wp2_with fail
    refine (live_calls _).mono ?_
    rintro e w' ⟨rfl, hB⟩
    have HL := Lib.hid hB; clear hB
    go_wp2_with fail
    go_ret
    exact ⟨rfl, bstep P1.out.1 HL.out⟩
  by_cases h5 : x < 0
  · go_enter Try.func4, Try.ntmps4
    go_wp2_with fail
    refine (class_Check.calls b0 b1 n2 n3 n4 0 _ hev.out).mono ?_
    rintro e w1 ⟨rfl, hB⟩
    have P1 := Lib.hid ((Box.start w (askCells b0 b1 n2 n3 n4 kind size (some ⟨b, off, none⟩) 2 c) 26).step hB); clear hB
    obtain ⟨q0, q1, q2, q3, q4, q5, q6, q7⟩ := P1.out.ask
    have s0 := pw_cell_below P1.out.1 k0.out
    have s1 := pw_cell_below P1.out.1 k1.out
    go_wp2_with fail
    refine (live_calls _).mono ?_
    rintro e w' ⟨rfl, hB⟩
    have HL := Lib.hid hB; clear hB
    go_wp2_with fail
    go_ret
    exact ⟨rfl, bstep P1.out.1 HL.out⟩
  by_cases h6 : y < 0
  · go_enter Try.func4, Try.ntmps4
    go_wp2_with fail
    refine (class_Check.calls b0 b1 n2 n3 n4 0 _ hev.out).mono ?_
    rintro e w1 ⟨rfl, hB⟩
    have P1 := Lib.hid ((Box.start w (askCells b0 b1 n2 n3 n4 kind size (some ⟨b, off, none⟩) 2 c) 26).step hB); clear hB
    obtain ⟨q0, q1, q2, q3, q4, q5, q6, q7⟩ := P1.out.ask
    have s0 := pw_cell_below P1.out.1 k0.out
    have s1 := pw_cell_below P1.out.1 k1.out
    go_wp2_with fail
    refine (live_calls _).mono ?_
    rintro e w' ⟨rfl, hB⟩
    have HL := Lib.hid hB; clear hB
    go_wp2_with fail
    go_ret
    exact ⟨rfl, bstep P1.out.1 HL.out⟩
  exact absurd ⟨by omega, by omega, by omega, by omega, by omega, by omega⟩ hg

set_option maxHeartbeats 2000000 in
set_option maxRecDepth 100000 in
theorem room_none (b0 b1 : Bool) (n2 n3 n4 kind size x y : Int) (b off c : Nat) (w : World) (hp : polOk n2 n3 n4) (hC : Hid (Kd.C (Kd.int .i64) w (some ⟨b, off, none⟩) [x, y].length [x, y])) (hc : [x, y].length ≤ c) (k0 : Hid (w.cell? ⟨b, off, none⟩ = some (.int .i64 x))) (k1 : Hid (w.cell? ⟨b, off + 1, none⟩ = some (.int .i64 y)))
    (h1 : 0 ≤ kind) (h2 : kind ≤ 1) (h3 : 0 ≤ size) (h4 : size ≤ 960) (h5 : 0 ≤ x) (h6 : 0 ≤ y) (hx : (x == 0) = true) (hch : chooseS b0 b1 n2 n3 n4 kind size [x, y] = ([], 6)) :
    Calls Try.prog 4 #[.agg #[.bool b0, .bool b1, .int .i64 n2, .int .i64 n3, .int .i64 n4, .int .i64 kind, .int .i64 size, .slice (some ⟨b, off, none⟩) 2 c]] w fun e w' => e = .returned (.bool true) ∧ Below w.heap.size w w' := by
  have hev := Lib.hid ((check_ok b0 b1 n2 n3 n4).trans (by rw [checkS, if_pos hp]))
  have hev2 := Lib.hid ((choose_ok b0 b1 n2 n3 n4 kind size [x, y]).trans (by rw [hch]))
  clear hp hch
  go_enter Try.func4, Try.ntmps4
  go_wp2_with fail
  refine (class_Check.calls b0 b1 n2 n3 n4 0 _ hev.out).mono ?_
  rintro e w1 ⟨rfl, hB⟩
  have P1 := Lib.hid ((Box.start w (askCells b0 b1 n2 n3 n4 kind size (some ⟨b, off, none⟩) 2 c) 26).step hB); clear hB
  obtain ⟨q0, q1, q2, q3, q4, q5, q6, q7⟩ := P1.out.ask
  have s0 := pw_cell_below P1.out.1 k0.out
  have s1 := pw_cell_below P1.out.1 k1.out
  go_wp2_with fail
  refine (choose_any 9 b0 b1 n2 n3 n4 kind size _ c [x, y] [] 6 _ (Kd.C_below hC.out P1.out.1) hc hev2.out).mono ?_
  rintro e w2 ⟨A1, c1, rfl, hl1, hC1, hB1⟩
  have P2 := Lib.hid (P1.out.step hB1)
  clear q0 q1 q2 q3 q4 q5 q6 q7 s0 s1 hB1 P1
  obtain ⟨q0, q1, q2, q3, q4, q5, q6, q7⟩ := P2.out.ask
  have s0 := pw_cell_below P2.out.1 k0.out
  have s1 := pw_cell_below P2.out.1 k1.out
  clear hC1
  go_wp2_with fail
  refine (live_calls _).mono ?_
  rintro e w' ⟨rfl, hB⟩
  have HL := Lib.hid hB; clear hB
  go_wp2_with fail
  go_ret
  exact ⟨rfl, bstep P2.out.1 HL.out⟩

set_option maxHeartbeats 2000000 in
set_option maxRecDepth 100000 in
theorem room_slow (b0 b1 : Bool) (n2 n3 n4 kind size x y : Int) (b off c : Nat) (w : World) (hp : polOk n2 n3 n4) (hC : Hid (Kd.C (Kd.int .i64) w (some ⟨b, off, none⟩) [x, y].length [x, y])) (hc : [x, y].length ≤ c) (k0 : Hid (w.cell? ⟨b, off, none⟩ = some (.int .i64 x))) (k1 : Hid (w.cell? ⟨b, off + 1, none⟩ = some (.int .i64 y)))
    (h1 : 0 ≤ kind) (h2 : kind ≤ 1) (h3 : 0 ≤ size) (h4 : size ≤ 960) (h5 : 0 ≤ x) (h6 : 0 ≤ y) (hx : 1 ≤ x) (hch : chooseS b0 b1 n2 n3 n4 kind size [x, y] = ([0], 0)) :
    Calls Try.prog 4 #[.agg #[.bool b0, .bool b1, .int .i64 n2, .int .i64 n3, .int .i64 n4, .int .i64 kind, .int .i64 size, .slice (some ⟨b, off, none⟩) 2 c]] w fun e w' => e = .returned (.bool true) ∧ Below w.heap.size w w' := by
  have hev := Lib.hid ((check_ok b0 b1 n2 n3 n4).trans (by rw [checkS, if_pos hp]))
  have hev2 := Lib.hid ((choose_ok b0 b1 n2 n3 n4 kind size [x, y]).trans (by rw [hch]))
  clear hp hch
  go_enter Try.func4, Try.ntmps4
  go_wp2_with fail
  refine (class_Check.calls b0 b1 n2 n3 n4 0 _ hev.out).mono ?_
  rintro e w1 ⟨rfl, hB⟩
  have P1 := Lib.hid ((Box.start w (askCells b0 b1 n2 n3 n4 kind size (some ⟨b, off, none⟩) 2 c) 26).step hB); clear hB
  obtain ⟨q0, q1, q2, q3, q4, q5, q6, q7⟩ := P1.out.ask
  have s0 := pw_cell_below P1.out.1 k0.out
  have s1 := pw_cell_below P1.out.1 k1.out
  go_wp2_with fail
  refine (choose_any 9 b0 b1 n2 n3 n4 kind size _ c [x, y] [0] 0 _ (Kd.C_below hC.out P1.out.1) hc hev2.out).mono ?_
  rintro e w2 ⟨A1, c1, rfl, hl1, hC1, hB1⟩
  have P2 := Lib.hid (P1.out.step hB1)
  clear q0 q1 q2 q3 q4 q5 q6 q7 s0 s1 hB1 P1
  obtain ⟨q0, q1, q2, q3, q4, q5, q6, q7⟩ := P2.out.ask
  have s0 := pw_cell_below P2.out.1 k0.out
  have s1 := pw_cell_below P2.out.1 k1.out
  obtain ⟨b1_, o1_, rfl, r0⟩ := one_cell hC1
  clear hC1
  go_wp2_with fail
  go_quiet (fail)
  go_wp2_with fail
  refine wp_loop_rounds 2 ?_
  rw [rounds_succ]
  go_wp2_with fail
  go_quiet (fail)
  go_wp2_with fail
  rw [rounds_succ]
  go_wp2_with fail
  refine (live_calls _).mono ?_
  rintro e w' ⟨rfl, hB⟩
  have HL := Lib.hid hB; clear hB
  go_wp2_with fail
  go_ret
  exact ⟨rfl, bstep (bdrew P2.out.1) HL.out⟩

set_option maxHeartbeats 2000000 in
set_option maxRecDepth 100000 in
theorem room_fast (b0 b1 : Bool) (n2 n3 n4 kind size x y : Int) (b off c : Nat) (w : World) (hp : polOk n2 n3 n4) (hC : Hid (Kd.C (Kd.int .i64) w (some ⟨b, off, none⟩) [x, y].length [x, y])) (hc : [x, y].length ≤ c) (k0 : Hid (w.cell? ⟨b, off, none⟩ = some (.int .i64 x))) (k1 : Hid (w.cell? ⟨b, off + 1, none⟩ = some (.int .i64 y)))
    (h1 : 0 ≤ kind) (h2 : kind ≤ 1) (h3 : 0 ≤ size) (h4 : size ≤ 960) (h5 : 0 ≤ x) (h6 : 0 ≤ y) (hx : 1 ≤ y) (hch : chooseS b0 b1 n2 n3 n4 kind size [x, y] = ([1], 0)) :
    Calls Try.prog 4 #[.agg #[.bool b0, .bool b1, .int .i64 n2, .int .i64 n3, .int .i64 n4, .int .i64 kind, .int .i64 size, .slice (some ⟨b, off, none⟩) 2 c]] w fun e w' => e = .returned (.bool true) ∧ Below w.heap.size w w' := by
  have hev := Lib.hid ((check_ok b0 b1 n2 n3 n4).trans (by rw [checkS, if_pos hp]))
  have hev2 := Lib.hid ((choose_ok b0 b1 n2 n3 n4 kind size [x, y]).trans (by rw [hch]))
  clear hp hch
  go_enter Try.func4, Try.ntmps4
  go_wp2_with fail
  refine (class_Check.calls b0 b1 n2 n3 n4 0 _ hev.out).mono ?_
  rintro e w1 ⟨rfl, hB⟩
  have P1 := Lib.hid ((Box.start w (askCells b0 b1 n2 n3 n4 kind size (some ⟨b, off, none⟩) 2 c) 26).step hB); clear hB
  obtain ⟨q0, q1, q2, q3, q4, q5, q6, q7⟩ := P1.out.ask
  have s0 := pw_cell_below P1.out.1 k0.out
  have s1 := pw_cell_below P1.out.1 k1.out
  go_wp2_with fail
  refine (choose_any 9 b0 b1 n2 n3 n4 kind size _ c [x, y] [1] 0 _ (Kd.C_below hC.out P1.out.1) hc hev2.out).mono ?_
  rintro e w2 ⟨A1, c1, rfl, hl1, hC1, hB1⟩
  have P2 := Lib.hid (P1.out.step hB1)
  clear q0 q1 q2 q3 q4 q5 q6 q7 s0 s1 hB1 P1
  obtain ⟨q0, q1, q2, q3, q4, q5, q6, q7⟩ := P2.out.ask
  have s0 := pw_cell_below P2.out.1 k0.out
  have s1 := pw_cell_below P2.out.1 k1.out
  obtain ⟨b1_, o1_, rfl, r0⟩ := one_cell hC1
  clear hC1
  go_wp2_with fail
  go_quiet (fail)
  go_wp2_with fail
  refine wp_loop_rounds 2 ?_
  rw [rounds_succ]
  go_wp2_with fail
  go_quiet (fail)
  go_wp2_with fail
  rw [rounds_succ]
  go_wp2_with fail
  refine (live_calls _).mono ?_
  rintro e w' ⟨rfl, hB⟩
  have HL := Lib.hid hB; clear hB
  go_wp2_with fail
  go_ret
  exact ⟨rfl, bstep (bdrew P2.out.1) HL.out⟩

set_option maxHeartbeats 2000000 in
set_option maxRecDepth 100000 in
theorem room_both (b0 b1 : Bool) (n2 n3 n4 kind size x y : Int) (b off c : Nat) (w : World) (hp : polOk n2 n3 n4) (hC : Hid (Kd.C (Kd.int .i64) w (some ⟨b, off, none⟩) [x, y].length [x, y])) (hc : [x, y].length ≤ c) (k0 : Hid (w.cell? ⟨b, off, none⟩ = some (.int .i64 x))) (k1 : Hid (w.cell? ⟨b, off + 1, none⟩ = some (.int .i64 y)))
    (h1 : 0 ≤ kind) (h2 : kind ≤ 1) (h3 : 0 ≤ size) (h4 : size ≤ 960) (h5 : 0 ≤ x) (h6 : 0 ≤ y) (hx : 1 ≤ x) (hy : 1 ≤ y) (hch : chooseS b0 b1 n2 n3 n4 kind size [x, y] = ([1, 0], 0)) :
    Calls Try.prog 4 #[.agg #[.bool b0, .bool b1, .int .i64 n2, .int .i64 n3, .int .i64 n4, .int .i64 kind, .int .i64 size, .slice (some ⟨b, off, none⟩) 2 c]] w fun e w' => e = .returned (.bool true) ∧ Below w.heap.size w w' := by
  have hev := Lib.hid ((check_ok b0 b1 n2 n3 n4).trans (by rw [checkS, if_pos hp]))
  have hev2 := Lib.hid ((choose_ok b0 b1 n2 n3 n4 kind size [x, y]).trans (by rw [hch]))
  clear hp hch
  go_enter Try.func4, Try.ntmps4
  go_wp2_with fail
  refine (class_Check.calls b0 b1 n2 n3 n4 0 _ hev.out).mono ?_
  rintro e w1 ⟨rfl, hB⟩
  have P1 := Lib.hid ((Box.start w (askCells b0 b1 n2 n3 n4 kind size (some ⟨b, off, none⟩) 2 c) 26).step hB); clear hB
  obtain ⟨q0, q1, q2, q3, q4, q5, q6, q7⟩ := P1.out.ask
  have s0 := pw_cell_below P1.out.1 k0.out
  have s1 := pw_cell_below P1.out.1 k1.out
  go_wp2_with fail
  refine (choose_any 9 b0 b1 n2 n3 n4 kind size _ c [x, y] [1, 0] 0 _ (Kd.C_below hC.out P1.out.1) hc hev2.out).mono ?_
  rintro e w2 ⟨A1, c1, rfl, hl1, hC1, hB1⟩
  have P2 := Lib.hid (P1.out.step hB1)
  clear q0 q1 q2 q3 q4 q5 q6 q7 s0 s1 hB1 P1
  obtain ⟨q0, q1, q2, q3, q4, q5, q6, q7⟩ := P2.out.ask
  have s0 := pw_cell_below P2.out.1 k0.out
  have s1 := pw_cell_below P2.out.1 k1.out
  obtain ⟨b1_, o1_, rfl, r0, r1⟩ := two_cells hC1
  clear hC1
  go_wp2_with fail
  go_quiet (fail)
  go_wp2_with fail
  refine wp_loop_rounds 3 ?_
  rw [rounds_succ]
  go_wp2_with fail
  go_quiet (fail)
  go_wp2_with fail
  rw [rounds_succ]
  go_wp2_with fail
  go_quiet (fail)
  go_wp2_with fail
  rw [rounds_succ]
  go_wp2_with fail
  refine (live_calls _).mono ?_
  rintro e w' ⟨rfl, hB⟩
  have HL := Lib.hid hB; clear hB
  go_wp2_with fail
  go_ret
  exact ⟨rfl, bstep (bdrew P2.out.1) HL.out⟩

set_option maxHeartbeats 2000000 in
set_option maxRecDepth 100000 in
theorem room_walk (b0 b1 : Bool) (n2 n3 n4 kind size : Int) (A : Option Addr) (c : Nat) (l : List Int) (w : World) (hr : Kd.C (Kd.int .i64) w A l.length l) (hc : l.length ≤ c) :
    Calls Try.prog 4 #[.agg #[.bool b0, .bool b1, .int .i64 n2, .int .i64 n3, .int .i64 n4, .int .i64 kind, .int .i64 size, .slice A l.length c]] w fun e w' => e = .returned (.bool true) ∧ Below w.heap.size w w' := by
  by_cases hp : polOk n2 n3 n4
  case neg => exact room_bad b0 b1 n2 n3 n4 kind size A l.length c w hp
  by_cases hn : l.length = 2
  case neg => exact room_len b0 b1 n2 n3 n4 kind size A l.length c w hp hn
  obtain ⟨x, y, rfl⟩ := two_of hn
  obtain ⟨b, off, rfl, k0, k1⟩ := two_cells hr
  by_cases hg : 0 ≤ kind ∧ kind ≤ 1 ∧ 0 ≤ size ∧ size ≤ 960 ∧ 0 ≤ x ∧ 0 ≤ y
  case neg => exact room_guards b0 b1 n2 n3 n4 kind size x y b off c w hp (Lib.hid k0) (Lib.hid k1) hg
  obtain ⟨g1, g2, g3, g4, g5, g6⟩ := hg
  have hch : chooseS b0 b1 n2 n3 n4 kind size [x, y] = if wantsS b0 n2 kind size = true ∧ 0 < y then (if kind = 0 ∧ b1 = true ∧ 0 < x then ([1, 0], 0) else ([1], 0)) else if 0 < x then ([0], 0) else ([], 6) := by
    unfold chooseS
    rw [if_pos ⟨hp, g1, g2, g3, g4, rfl, by rw [rd0]; exact g5, by rw [rd1]; exact g6⟩, rd0, rd1]
  by_cases c1 : wantsS b0 n2 kind size = true ∧ 0 < y
  · rw [if_pos c1] at hch
    by_cases c2 : kind = 0 ∧ b1 = true ∧ 0 < x
    · rw [if_pos c2] at hch
      exact room_both b0 b1 n2 n3 n4 kind size x y b off c w hp (Lib.hid hr) hc (Lib.hid k0) (Lib.hid k1) g1 g2 g3 g4 g5 g6 c2.2.2 c1.2 hch
    · rw [if_neg c2] at hch
      exact room_fast b0 b1 n2 n3 n4 kind size x y b off c w hp (Lib.hid hr) hc (Lib.hid k0) (Lib.hid k1) g1 g2 g3 g4 g5 g6 c1.2 hch
  · rw [if_neg c1] at hch
    by_cases c2 : 0 < x
    · rw [if_pos c2] at hch
      exact room_slow b0 b1 n2 n3 n4 kind size x y b off c w hp (Lib.hid hr) hc (Lib.hid k0) (Lib.hid k1) g1 g2 g3 g4 g5 g6 c2 hch
    · rw [if_neg c2] at hch
      exact room_none b0 b1 n2 n3 n4 kind size x y b off c w hp (Lib.hid hr) hc (Lib.hid k0) (Lib.hid k1) g1 g2 g3 g4 g5 g6 (by simp; omega) hch
end Go.Proofs.Ytacplkanjhjbpaa
