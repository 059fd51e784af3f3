import Derived.Test.YtacplkanjhjbpaaPClassChoosesx2
import Derived.Test.YtacplkanjhjbpaaPClassChoosesx3
import Derived.Lib.Hide
import Derived.Deep.DeepFit
namespace Go.Proofs.Ytacplkanjhjbpaa
open Go.RowKit Go.Proofs.YtacplkanjhjbpaaW.PrintWords Go.Proofs.YtacplkanjhjbpaaW.PrintLast Go.Proofs.YtacplkanjhjbpaaW.PrintMore
open PClassChooses
set_option linter.unusedVariables false
set_option linter.unusedSimpArgs false

/-- A block of whole numbers, read as a slice. -/
theorem ints_of_block {W : World} {b : Nat} {xs : List Int} {t : TypeId} {fr : Nat × Nat} (h : W.heap[b]? = some (.cells (xs.map (Value.int .i64)).toArray t fr)) (hl : xs.length ≤ 9223372036854775807) :
    Kd.C (Kd.int .i64) W (some ⟨b, 0, none⟩) xs.length xs := by
  refine ⟨rfl, hl, fun _ => ⟨_, rfl, fun j p hj => ⟨[.int .i64 p], rfl, rfl, fun i u hu => ?_⟩⟩⟩
  have hi : i = 0 := by
    rcases Nat.eq_zero_or_pos i with h0 | h0
    · exact h0
    · rw [List.getElem?_eq_none (by simp; omega)] at hu
      cases hu
  subst hi
  have hu' : u = .int .i64 p := by simpa using hu.symm
  subst hu'
  have ha : (⟨b, 0, none⟩ : Addr).add (j * (Kd.int .i64).sz + 0) = ⟨b, j, none⟩ := by
    have : (Kd.int .i64).sz = 1 := rfl
    rw [this, add_plain]
    simp
  rw [ha]
  simp [World.cell?, h, hj]

theorem ints_new {W : World} (xs : List Int) (hl : xs.length ≤ 9223372036854775807) :
    Kd.C (Kd.int .i64) (W.alloc (.cells (xs.map (Value.int .i64)).toArray 3)) (some ⟨W.heap.size, 0, none⟩) xs.length xs :=
  ints_of_block (t := 3) (fr := (0, 0)) (heap_alloc_new W _) hl

theorem choose_any (k : Nat) (b0 b1 : Bool) (n2 n3 n4 kind size : Int) (A : Option Addr) (c : Nat) (l r1 : List Int) (r2 : Int) (W : World) (hr : Kd.C (Kd.int .i64) W A l.length l) (hc : l.length ≤ c)
    (h : class_Choose.f k b0 b1 n2 n3 n4 kind size l = some (r1, r2)) :
    Calls Try.prog 10 #[.agg #[.bool b0, .bool b1, .int .i64 n2, .int .i64 n3, .int .i64 n4], .int .i64 kind, .int .i64 size, .slice A l.length c] W fun e w' =>
      ∃ A1 c1, e = .returned (.tuple #[.slice A1 r1.length c1, .int .i64 r2]) ∧ r1.length ≤ c1 ∧ Kd.C (Kd.int .i64) w' A1 r1.length r1 ∧ Below W.heap.size W w' := by
  refine (class_Choose.calls k b0 b1 n2 n3 n4 kind size A c l r1 r2 W hr hc h).mono ?_
  rintro e w' ⟨v, rfl, hR, hB⟩
  obtain ⟨A1, c1, rfl, hl, hC⟩ := Kd.R_reads hR
  exact ⟨A1, c1, rfl, hl, hC, hB⟩

theorem pol_cells {w W : World} {b : Nat} {cs : Array Value} (hb : Below (b + 1) w W) (h : w.heap[b]? = some (.cells cs 23 (0, 0))) (i : Nat) : W.cell? ⟨b, i, none⟩ = cs[i]? := by
  have : W.heap[b]? = some (.cells cs 23 (0, 0)) := (hb.block b (by omega)).trans h
  simp [World.cell?, this]

theorem ev1 : class_Choose.f 9 true true 10 0 0 0 900 [5, 5] = some ([1, 0], 0) := by kernel_rfl
theorem ev2 : class_Choose.f 9 true true 10 0 0 1 11 [5, 5] = some ([0], 0) := by kernel_rfl
theorem ev3 : class_Choose.f 9 true true 10 0 0 1 10 [5, 5] = some ([1], 0) := by kernel_rfl
theorem ev4 : class_Choose.f 9 true true 10 0 0 1 10 [0, 0] = some ([], 6) := by kernel_rfl
theorem ev5 : class_Choose.f 9 true true 10 0 0 2 10 [5, 5] = some ([], 1) := by kernel_rfl
theorem ev6 : class_Need.f 9 true true 10 0 0 3 4 = some (7, 7) := by kernel_rfl
theorem ev7 : permafrostref01_Ints.f 9 [1, 0] [1, 0] = some true := by kernel_rfl
theorem ev8 : permafrostref01_Ints.f 9 [0] [0] = some true := by kernel_rfl
theorem ev9 : permafrostref01_Ints.f 9 [1] [1] = some true := by kernel_rfl
theorem ev10 : class_Check.f false false 0 65 0 = some 1 := by kernel_rfl
theorem le2 (x y : Int) : [x, y].length ≤ 2 := Nat.le_refl _
theorem new2 {W : World} {b : Nat} (hb : b = W.heap.size) (x y : Int) :
    Kd.C (Kd.int .i64) (W.alloc (.cells #[.int .i64 x, .int .i64 y] 3)) (some ⟨b, 0, none⟩) [x, y].length [x, y] := by subst hb; exact ints_new [x, y] (by simp)
theorem new1 {W : World} {b : Nat} (hb : b = W.heap.size) (x : Int) :
    Kd.C (Kd.int .i64) (W.alloc (.cells #[.int .i64 x] 3)) (some ⟨b, 0, none⟩) [x].length [x] := by subst hb; exact ints_new [x] (by simp)

/-- What the walk keeps of the policy's block. -/
def Pol (w W : World) : Prop := Below w.heap.size w W ∧ w.heap.size < W.heap.size ∧ W.heap[w.heap.size]? = some (.cells #[.bool true, .bool true, .int .i64 10, .int .i64 0, .int .i64 0] 23 (0, 0))
theorem Pol.start (w : World) : Pol w (w.alloc (.cells #[.bool true, .bool true, .int .i64 10, .int .i64 0, .int .i64 0] 23)) :=
  ⟨(Below.refl _ _).alloc (Nat.le_refl _) _, by simp, heap_alloc_new _ _⟩
theorem Pol.alloc {w W : World} (h : Pol w W) (o : Obj) : Pol w (W.alloc o) :=
  ⟨h.1.alloc h.1.size _, by have := h.2.1; simp; omega, by rw [Below.heap_alloc _ _ _ h.2.1]; exact h.2.2⟩
theorem Pol.step {w W W' : World} (h : Pol w W) (hb : Below W.heap.size W W') : Pol w W' :=
  ⟨h.1.trans (hb.mono h.1.size), Nat.lt_of_lt_of_le h.2.1 hb.size, by rw [hb.block _ h.2.1]; exact h.2.2⟩
theorem Pol.cells {w W : World} (h : Pol w W) : W.cell? ⟨w.heap.size, 0, none⟩ = some (.bool true) ∧ W.cell? ⟨w.heap.size, 1, none⟩ = some (.bool true) ∧ W.cell? ⟨w.heap.size, 2, none⟩ = some (.int .i64 10) ∧ W.cell? ⟨w.heap.size, 3, none⟩ = some (.int .i64 0) ∧ W.cell? ⟨w.heap.size, 4, none⟩ = some (.int .i64 0) := by
  refine ⟨?_, ?_, ?_, ?_, ?_⟩ <;> simp [World.cell?, h.2.2]

theorem held_step {w w' : World} {A : Option Addr} {n : Nat} {xs : List Int} (h : Kd.C (Kd.int .i64) w A n xs) (o : Obj) (hb : Below (w.alloc o).heap.size (w.alloc o) w') : Kd.C (Kd.int .i64) w' A n xs :=
  Kd.C_below (Kd.C_below h ((Below.refl _ _).alloc (Nat.le_refl _) o)) hb

set_option maxHeartbeats 1000000 in
set_option maxRecDepth 100000 in
theorem live_calls (w : World) : Calls Try.prog 9 #[] w fun e w' => e = .returned (.bool true) ∧ Below w.heap.size w w' := by
  have P0 := Lib.hid (Pol.start w)
  go_enter Try.func9, Try.ntmps9
  go_wp2_with fail
  have P1 := Lib.hid (P0.out.alloc (.cells #[.int .i64 5, .int .i64 5] 3)); clear P0
  refine (choose_any 9 true true 10 0 0 0 900 _ 2 [5, 5] [1, 0] 0 _ (new2 (by simp) 5 5) (le2 5 5) ev1).mono ?_
  rintro e w1 ⟨A1, c1, rfl, hl1, hC1, hB1⟩
  have P2 := Lib.hid (P1.out.step hB1); clear P1 hB1
  have HC1 := Lib.hid hC1; clear hC1
  obtain ⟨q0, q1, q2, q3, q4⟩ := P2.out.cells
  go_wp2_with fail
  have P3 := Lib.hid (P2.out.alloc (.cells #[.int .i64 5, .int .i64 5] 3)); clear P2 q0 q1 q2 q3 q4
  refine (choose_any 9 true true 10 0 0 1 11 _ 2 [5, 5] [0] 0 _ (new2 (by simp) 5 5) (le2 5 5) ev2).mono ?_
  rintro e w2 ⟨A2, c2, rfl, hl2, hC, hB⟩
  have P4 := Lib.hid (P3.out.step hB); clear P3
  have HC1_ := Lib.hid (held_step HC1.out _ hB); clear HC1; have HC1 := HC1_; clear HC1_
  have HC2 := Lib.hid hC; clear hC hB
  obtain ⟨q0, q1, q2, q3, q4⟩ := P4.out.cells
  go_wp2_with fail
  have P5 := Lib.hid (P4.out.alloc (.cells #[.int .i64 5, .int .i64 5] 3)); clear P4 q0 q1 q2 q3 q4
  refine (choose_any 9 true true 10 0 0 1 10 _ 2 [5, 5] [1] 0 _ (new2 (by simp) 5 5) (le2 5 5) ev3).mono ?_
  rintro e w3 ⟨A3, c3, rfl, hl3, hC, hB⟩
  have P6 := Lib.hid (P5.out.step hB); clear P5
  have HC1_ := Lib.hid (held_step HC1.out _ hB); clear HC1; have HC1 := HC1_; clear HC1_
  have HC2_ := Lib.hid (held_step HC2.out _ hB); clear HC2; have HC2 := HC2_; clear HC2_
  have HC3 := Lib.hid hC; clear hC hB
  obtain ⟨q0, q1, q2, q3, q4⟩ := P6.out.cells
  go_wp2_with fail
  have P7 := Lib.hid (P6.out.alloc (.cells #[.int .i64 0, .int .i64 0] 3)); clear P6 q0 q1 q2 q3 q4
  refine (choose_any 9 true true 10 0 0 1 10 _ 2 [0, 0] [] 6 _ (new2 (by simp) 0 0) (le2 0 0) ev4).mono ?_
  rintro e w4 ⟨A4, c4, rfl, hl4, hC, hB⟩
  have P8 := Lib.hid (P7.out.step hB); clear P7
  have HC1_ := Lib.hid (held_step HC1.out _ hB); clear HC1; have HC1 := HC1_; clear HC1_
  have HC2_ := Lib.hid (held_step HC2.out _ hB); clear HC2; have HC2 := HC2_; clear HC2_
  have HC3_ := Lib.hid (held_step HC3.out _ hB); clear HC3; have HC3 := HC3_; clear HC3_
  have HC4 := Lib.hid hC; clear hC hB
  obtain ⟨q0, q1, q2, q3, q4⟩ := P8.out.cells
  go_wp2_with fail
  have P9 := Lib.hid (P8.out.alloc (.cells #[.int .i64 5, .int .i64 5] 3)); clear P8 q0 q1 q2 q3 q4
  refine (choose_any 9 true true 10 0 0 2 10 _ 2 [5, 5] [] 1 _ (new2 (by simp) 5 5) (le2 5 5) ev5).mono ?_
  rintro e w5 ⟨A5, c5, rfl, hl5, hC, hB⟩
  have P10 := Lib.hid (P9.out.step hB); clear P9
  have HC1_ := Lib.hid (held_step HC1.out _ hB); clear HC1; have HC1 := HC1_; clear HC1_
  have HC2_ := Lib.hid (held_step HC2.out _ hB); clear HC2; have HC2 := HC2_; clear HC2_
  have HC3_ := Lib.hid (held_step HC3.out _ hB); clear HC3; have HC3 := HC3_; clear HC3_
  have HC4_ := Lib.hid (held_step HC4.out _ hB); clear HC4; have HC4 := HC4_; clear HC4_
  have HC5 := Lib.hid hC; clear hC hB
  obtain ⟨q0, q1, q2, q3, q4⟩ := P10.out.cells
  go_wp2_with fail
  refine (class_Need.calls 9 true true 10 0 0 3 4 7 7 _ ev6).mono ?_
  rintro e w6 ⟨rfl, hB⟩
  have P11 := Lib.hid (P10.out.step hB); clear P10 q0 q1 q2 q3 q4 HC4 HC5
  have HC1_ := Lib.hid (Kd.C_below HC1.out hB); clear HC1
  have HC2_ := Lib.hid (Kd.C_below HC2.out hB); clear HC2
  have HC3_ := Lib.hid (Kd.C_below HC3.out hB); clear HC3 hB
  go_wp2_with fail
  have P12 := Lib.hid (P11.out.alloc (.cells #[.int .i64 1, .int .i64 0] 3)); clear P11
  refine (permafrostref01_Ints.calls 9 A1 c1 [1, 0] _ 2 [1, 0] true _ (Kd.C_below HC1_.out ((Below.refl _ _).alloc (Nat.le_refl _) _)) hl1 (new2 (by simp) 1 0) (le2 1 0) ev7).mono ?_
  rintro e w7 ⟨rfl, hD⟩
  have P13 := Lib.hid (P12.out.step hD.below); clear P12 HC1_
  have HC2 := Lib.hid (held_step HC2_.out _ hD.below); clear HC2_
  have HC3 := Lib.hid (held_step HC3_.out _ hD.below); clear HC3_ hD
  go_wp2_with fail
  have P14 := Lib.hid (P13.out.alloc (.cells #[.int .i64 0] 3)); clear P13
  refine (permafrostref01_Ints.calls 9 A2 c2 [0] _ 1 [0] true _ (Kd.C_below HC2.out ((Below.refl _ _).alloc (Nat.le_refl _) _)) hl2 (new1 (by simp) 0) (Nat.le_refl _) ev8).mono ?_
  rintro e w8 ⟨rfl, hD⟩
  have P15 := Lib.hid (P14.out.step hD.below); clear P14 HC2
  have HC3_ := Lib.hid (held_step HC3.out _ hD.below); clear HC3 hD
  go_wp2_with fail
  have P16 := Lib.hid (P15.out.alloc (.cells #[.int .i64 1] 3)); clear P15
  refine (permafrostref01_Ints.calls 9 A3 c3 [1] _ 1 [1] true _ (Kd.C_below HC3_.out ((Below.refl _ _).alloc (Nat.le_refl _) _)) hl3 (new1 (by simp) 1) (Nat.le_refl _) ev9).mono ?_
  rintro e w9 ⟨rfl, hD⟩
  have P17 := Lib.hid (P16.out.step hD.below); clear P16 HC3_ hD
  go_wp2_with fail
  refine (class_Check.calls false false 0 65 0 1 _ ev10).mono ?_
  rintro e w10 ⟨rfl, hB⟩
  have P18 := Lib.hid (P17.out.step hB); clear P17 hB
  go_wp2_with fail
  go_ret
  exact ⟨rfl, P18.out.1⟩
end Go.Proofs.Ytacplkanjhjbpaa
