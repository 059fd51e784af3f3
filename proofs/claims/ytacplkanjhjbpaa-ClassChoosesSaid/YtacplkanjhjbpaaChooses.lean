import Derived.Test.YtacplkanjhjbpaaPlain
import Derived.Test.YtacplkanjhjbpaaLive
import Derived.Test.YtacplkanjhjbpaaStep
import Derived.BigQuiet
import Derived.Deep.QuietTactic
namespace Go.Proofs.Ytacplkanjhjbpaa
open Go.RowKit Go.Proofs.YtacplkanjhjbpaaW.PrintWords Go.Proofs.YtacplkanjhjbpaaW.PrintLast Go.Proofs.YtacplkanjhjbpaaW.PrintMore
open PClassChooses
set_option linter.unusedVariables false
set_option linter.unusedSimpArgs false

theorem polS {w W0 W : World} {b0 b1 : Bool} {n2 n3 n4 kind size : Int} {A : Option Addr} {n c : Nat} (H : Box w W0 (askCells b0 b1 n2 n3 n4 kind size A n c) 26) (h : Below W0.heap.size W0 W) :
    Below W0.heap.size W0 W ∧ W.cell? ⟨w.heap.size, 0, none⟩ = some (.bool b0) ∧ W.cell? ⟨w.heap.size, 1, none⟩ = some (.bool b1) ∧ W.cell? ⟨w.heap.size, 2, none⟩ = some (.int .i64 n2) ∧ W.cell? ⟨w.heap.size, 3, none⟩ = some (.int .i64 n3) ∧ W.cell? ⟨w.heap.size, 4, none⟩ = some (.int .i64 n4) := by
  obtain ⟨q0, q1, q2, q3, q4, q5, q6, q7⟩ := (H.step h).ask
  exact ⟨h, q0, q1, q2, q3, q4⟩
theorem choose_any' (k : Nat) (b0 b1 : Bool) (n2 n3 n4 kind size : Int) (A : Option Addr) (c : Nat) (l r1 : List Int) (r2 : Int) (W : World) (hr : Kd.C (Kd.int .i64) W A l.length l) (hc : l.length ≤ c)
    (h : permafrostref08_Choose.f k b0 b1 n2 n3 n4 kind size l = some (r1, r2)) :
    Calls Try.prog 11 #[.agg #[.bool b0, .bool b1, .int .i64 n2, .int .i64 n3, .int .i64 n4], .int .i64 kind, .int .i64 size, .slice A l.length c] W fun e w' =>
      ∃ A1 c1, e = .returned (.tuple #[.slice A1 r1.length c1, .int .i64 r2]) ∧ r1.length ≤ c1 ∧ Kd.C (Kd.int .i64) w' A1 r1.length r1 ∧ Below W.heap.size W w' := by
  refine (permafrostref08_Choose.calls k b0 b1 n2 n3 n4 kind size A c l r1 r2 W hr hc h).mono ?_
  rintro e w' ⟨v, rfl, hR, hB⟩
  obtain ⟨A1, c1, rfl, hl, hC⟩ := Kd.R_reads hR
  exact ⟨A1, c1, rfl, hl, hC, hB⟩

set_option maxHeartbeats 2000000 in
set_option maxRecDepth 100000 in
theorem chooses_long (b0 b1 : Bool) (n2 n3 n4 kind size : Int) (A : Option Addr) (n c : Nat) (m d : Int) (w : World) (hn : 20 < (n : Int)) :
    Calls Try.prog 3 #[.agg #[.bool b0, .bool b1, .int .i64 n2, .int .i64 n3, .int .i64 n4, .int .i64 kind, .int .i64 size, .slice A n c], .int .i64 m, .int .i64 d] w fun e w' => e = .returned (.bool true) ∧ Below w.heap.size w w' := by
  go_enter Try.func3, Try.ntmps3
  go_wp2_with fail
  refine (live_calls _).mono ?_
  rintro e w' ⟨rfl, hB⟩
  have HL := Lib.hid hB; clear hB
  go_wp2_with fail
  go_ret
  exact ⟨rfl, bstep (balloc (Below.refl _ _)) HL.out⟩

set_option maxHeartbeats 2000000 in
set_option maxRecDepth 100000 in
theorem chooses_main (b0 b1 : Bool) (n2 n3 n4 kind size : Int) (A : Option Addr) (c : Nat) (l : List Int) (m d : Int) (r : List Int) (code k1 k2 : Int) (w : World) (hn : ¬ 20 < (l.length : Int)) (hC : Hid (Kd.C (Kd.int .i64) w A l.length l)) (hc : l.length ≤ c)
    (ht : told r) (hch : chooseS b0 b1 n2 n3 n4 kind size l = (r, code)) (hne : needS b0 n2 n3 n4 m d = (k1, k2)) :
    Calls Try.prog 3 #[.agg #[.bool b0, .bool b1, .int .i64 n2, .int .i64 n3, .int .i64 n4, .int .i64 kind, .int .i64 size, .slice A l.length c], .int .i64 m, .int .i64 d] w fun e w' => e = .returned (.bool true) ∧ Below w.heap.size w w' := by
  have hev1 := Lib.hid ((choose_ok b0 b1 n2 n3 n4 kind size l).trans (by rw [hch]))
  have hev2 := Lib.hid ((choose_ok' b0 b1 n2 n3 n4 kind size l).trans (by rw [hch]))
  have hev3 := Lib.hid ((need_ok b0 b1 n2 n3 n4 m d).trans (by rw [hne]))
  have hev4 := Lib.hid ((need_ok' b0 b1 n2 n3 n4 m d).trans (by rw [hne]))
  have hev5 := Lib.hid (ints_ok r ht)
  obtain ⟨ck, hck⟩ : ∃ ck, checkS n2 n3 n4 = ck := ⟨_, rfl⟩
  have hev6 := Lib.hid ((check_ok b0 b1 n2 n3 n4).trans (by rw [hck]))
  have hev7 := Lib.hid ((check_ok' b0 b1 n2 n3 n4).trans (by rw [hck]))
  have P0 := Lib.hid (Box.start w (askCells b0 b1 n2 n3 n4 kind size A l.length c) 26)
  clear hch hne ht hck
  go_enter Try.func3, Try.ntmps3
  go_wp2_with fail
  refine (choose_any 9 b0 b1 n2 n3 n4 kind size _ c l r code _ (Kd.C_below hC.out P0.out.1) hc hev1.out).mono ?_
  rintro e w1 ⟨A1, c1, rfl, hl1, hC1, hB1⟩
  have P1 := Lib.hid (P0.out.step hB1); clear hB1 P0
  have HC1 := Lib.hid hC1; clear hC1
  obtain ⟨q0, q1, q2, q3, q4, q5, q6, q7⟩ := P1.out.ask
  go_wp2_with fail
  refine (choose_any' 9 b0 b1 n2 n3 n4 kind size _ c l r code _ (Kd.C_below hC.out P1.out.1) hc hev2.out).mono ?_
  rintro e w2 ⟨A2, c2, rfl, hl2, hC2, hB2⟩
  have P2 := Lib.hid (P1.out.step hB2); clear P1 q0 q1 q2 q3 q4 q5 q6 q7
  have HC1_ := Lib.hid (Kd.C_below HC1.out hB2); clear HC1 hB2
  have HC2 := Lib.hid hC2; clear hC2
  obtain ⟨q0, q1, q2, q3, q4, q5, q6, q7⟩ := P2.out.ask
  go_wp2_with fail
  refine (class_Need.calls 9 b0 b1 n2 n3 n4 m d _ _ _ hev3.out).mono ?_
  rintro e w3 ⟨rfl, hB⟩
  have P3 := Lib.hid (P2.out.step hB); clear P2 q0 q1 q2 q3 q4 q5 q6 q7
  have HC1 := Lib.hid (Kd.C_below HC1_.out hB); clear HC1_
  have HC2_ := Lib.hid (Kd.C_below HC2.out hB); clear HC2 hB
  obtain ⟨q0, q1, q2, q3, q4, q5, q6, q7⟩ := P3.out.ask
  go_wp2_with fail
  refine (permafrostref08_Need.calls 9 b0 b1 n2 n3 n4 m d _ _ _ hev4.out).mono ?_
  rintro e w4 ⟨rfl, hB⟩
  have P4 := Lib.hid (P3.out.step hB); clear P3 q0 q1 q2 q3 q4 q5 q6 q7
  have HC1_ := Lib.hid (Kd.C_below HC1.out hB); clear HC1
  have HC2 := Lib.hid (Kd.C_below HC2_.out hB); clear HC2_ hB
  go_wp2_with fail
  go_region_held3 (fun W => Below w4.heap.size w4 W ∧ W.cell? ⟨w.heap.size, 0, none⟩ = some (.bool b0) ∧ W.cell? ⟨w.heap.size, 1, none⟩ = some (.bool b1) ∧ W.cell? ⟨w.heap.size, 2, none⟩ = some (.int .i64 n2) ∧ W.cell? ⟨w.heap.size, 3, none⟩ = some (.int .i64 n3) ∧ W.cell? ⟨w.heap.size, 4, none⟩ = some (.int .i64 n4)) (first | exact polS P4.out b0drew | exact polS P4.out (balloc (And.left (by assumption))) | exact polS P4.out (bstep (And.left (by assumption)) (by assumption)) | exact polS P4.out (bstep (And.left (by assumption)) (Drawn0.below (by assumption)))) (first | (go_at_call 14; refine (permafrostref01_Ints.calls 9 A1 c1 r A2 c2 r true _ (Kd.C_below HC1_.out (And.left (by assumption))) hl1 (Kd.C_below HC2.out (And.left (by assumption))) hl2 hev5.out).mono ?_; rintro e w5 ⟨rfl, hD5⟩) | (go_at_call 15; refine (class_Check.calls b0 b1 n2 n3 n4 ck _ hev6.out).mono ?_; rintro e w6 ⟨rfl, hB6⟩) | (go_at_call 16; refine (permafrostref08_Check.calls b0 b1 n2 n3 n4 ck _ hev7.out).mono ?_; rintro e w7 ⟨rfl, hB7⟩) | (go_at_call 9; refine (live_calls _).mono ?_; rintro e w8 ⟨rfl, hB8⟩))
  rename_i hHeld
  have HH := Lib.hid hHeld.1
  clear hHeld hD5 hB6 hB7 hB8
  go_wp2_with fail
  go_ret
  exact ⟨rfl, bstep P4.out.1 HH.out⟩

theorem chooses_walk (b0 b1 : Bool) (n2 n3 n4 kind size : Int) (A : Option Addr) (c : Nat) (l : List Int) (m d : Int) (w : World) (hr : Kd.C (Kd.int .i64) w A l.length l) (hc : l.length ≤ c) :
    Calls Try.prog 3 #[.agg #[.bool b0, .bool b1, .int .i64 n2, .int .i64 n3, .int .i64 n4, .int .i64 kind, .int .i64 size, .slice A l.length c], .int .i64 m, .int .i64 d] w fun e w' => e = .returned (.bool true) ∧ Below w.heap.size w w' := by
  by_cases hn : 20 < (l.length : Int)
  · exact chooses_long b0 b1 n2 n3 n4 kind size A l.length c m d w hn
  · exact chooses_main b0 b1 n2 n3 n4 kind size A c l m d _ _ _ _ w hn (Lib.hid hr) hc (chooseS_told _ _ _ _ _ _ _ _) rfl rfl
end Go.Proofs.Ytacplkanjhjbpaa
