-- PRINTED BY print.sh 35421559b90ae4d0a3588c463048766b98c2df88dd9212a6774a882060cdf62d: not written by this session
import Derived.Test.YtacplkanjhjbpaaPClassChoosesx0
import Derived.Test.YtacplkanjhjbpaaPClassChoosesx3
namespace Go.Proofs.Ytacplkanjhjbpaa.PClassChooses
open Go.RowKit Go.Proofs.YtacplkanjhjbpaaW.PrintWords Go.Proofs.YtacplkanjhjbpaaW.PrintLast Go.Proofs.YtacplkanjhjbpaaW.PrintMore
attribute [local go_sem] max2_int min2_int max_two min_two max_three min_three max_four min_four   -- for this text's walks alone
set_option linter.unusedVariables false
set_option linter.unusedSimpArgs false

/-! ### permafrostref08_Need: function 13 -/
def permafrostref08_Need.j0 : Nat → Int → Int → Bool → Bool → Bool → Int → Int → Int → Option (Int × Int)
  | 0, _, _, _, _, _, _, _, _ => none
  | k + 1, x1, x2, x21, x224000, x224001, x224002, x224003, x224004 => if x21 = true then (some (0, 0)) else (if x224000 = true then (if x224002 = 0 then (some (wrap64 (x1 + x2), wrap64 (0 + x1))) else (some (wrap64 (x1 + x2), wrap64 ((wrap64 (0 + x1)) + x2)))) else (if x224002 = 0 then (some (wrap64 (x1 + x2), 0)) else (some (wrap64 (x1 + x2), wrap64 (0 + x2)))))
def permafrostref08_Need.f (k : Nat) (a0_0 : Bool) (a0_1 : Bool) (a0_2 : Int) (a0_3 : Int) (a0_4 : Int) (a1 : Int) (a2 : Int) : Option (Int × Int) := (permafrostref08_Check.f a0_0 a0_1 a0_2 a0_3 a0_4).bind fun t224 => (if t224 = 0 then ((permafrostref08_in.f a1 1073741824).bind fun t225 => (if t225 = true then ((permafrostref08_in.f a2 1073741824).bind fun t226 => (permafrostref08_Need.j0 k a1 a2 (!t226) a0_0 a0_1 a0_2 a0_3 a0_4)) else (permafrostref08_Need.j0 k a1 a2 true a0_0 a0_1 a0_2 a0_3 a0_4))) else (permafrostref08_Need.j0 k a1 a2 true a0_0 a0_1 a0_2 a0_3 a0_4))
theorem permafrostref08_Need.mono_l : ∀ k, (∀ y0 y1 y2 y3 y4 y5 y6 y7, LeO (permafrostref08_Need.j0 k y0 y1 y2 y3 y4 y5 y6 y7) (permafrostref08_Need.j0 (k + 1) y0 y1 y2 y3 y4 y5 y6 y7))
  | 0 => fun _ _ _ _ _ _ _ _ r h => by simp [permafrostref08_Need.j0] at h
  | k + 1 => by
    have ih0 := permafrostref08_Need.mono_l k
    · intro y0 y1 y2 y3 y4 y5 y6 y7
      unfold permafrostref08_Need.j0
      repeat' first
      | (with_reducible exact ih0 _ _ _ _ _ _ _ _)
      | (with_reducible exact LeO.refl _)
      | (with_reducible exact LeO.none _)
      | (with_reducible refine LeO.ite ?_ ?_)
      | (with_reducible refine LeO.bind ?_ (fun _ => ?_))
      | exact ih0 _ _ _ _ _ _ _ _
      | exact LeO.none _
      | refine LeO.ite ?_ ?_
      | refine LeO.bind ?_ (fun _ => ?_)
theorem permafrostref08_Need.mono : ∀ a0 a1 a2 a3 a4 a5 a6 k, LeO (permafrostref08_Need.f k a0 a1 a2 a3 a4 a5 a6) (permafrostref08_Need.f (k + 1) a0 a1 a2 a3 a4 a5 a6) := by
  intro a0 a1 a2 a3 a4 a5 a6 k
  have ih0 := permafrostref08_Need.mono_l k
  unfold permafrostref08_Need.f
  repeat' first
      | (with_reducible exact ih0 _ _ _ _ _ _ _ _)
      | (with_reducible exact LeO.refl _)
      | (with_reducible exact LeO.none _)
      | (with_reducible refine LeO.ite ?_ ?_)
      | (with_reducible refine LeO.bind ?_ (fun _ => ?_))
      | exact ih0 _ _ _ _ _ _ _ _
      | exact LeO.none _
      | refine LeO.ite ?_ ?_
      | refine LeO.bind ?_ (fun _ => ?_)
set_option maxHeartbeats 8000000 in
set_option maxRecDepth 100000 in
theorem permafrostref08_Need.calls (k : Nat) (a0_0 : Bool) (a0_1 : Bool) (a0_2 : Int) (a0_3 : Int) (a0_4 : Int) (a1 : Int) (a2 : Int) (r1 : Int) (r2 : Int) (w : World) (h : permafrostref08_Need.f k a0_0 a0_1 a0_2 a0_3 a0_4 a1 a2 = some (r1, r2)) :
    Calls Try.prog 13 #[.agg #[.bool a0_0, .bool a0_1, .int .i64 a0_2, .int .i64 a0_3, .int .i64 a0_4], .int .i64 a1, .int .i64 a2] w fun e w' => e = .returned (.tuple #[.int .i64 r1, .int .i64 r2]) ∧ Below w.heap.size w w' := by
  have hu23 := Try.underlying23
  have HB := Aside0.mk (Below.refl w.heap.size w)
  have H : ((permafrostref08_Check.f a0_0 a0_1 a0_2 a0_3 a0_4).bind fun t224 => (if t224 = 0 then ((permafrostref08_in.f a1 1073741824).bind fun t225 => (if t225 = true then ((permafrostref08_in.f a2 1073741824).bind fun t226 => (permafrostref08_Need.j0 k a1 a2 (!t226) a0_0 a0_1 a0_2 a0_3 a0_4)) else (permafrostref08_Need.j0 k a1 a2 true a0_0 a0_1 a0_2 a0_3 a0_4))) else (permafrostref08_Need.j0 k a1 a2 true a0_0 a0_1 a0_2 a0_3 a0_4))) = some (r1, r2) := h
  clear h
  have HC4 := Aside0.mk H
  clear H
  go_enter Try.func13, Try.ntmps13
  go_upto_region 1 with (first | ((with_reducible refine gate_dst (N := 3) rfl ?_); refine box_event ?hg (N := 3) ?hd (cs := #[.bool a0_0, .bool a0_1, .int .i64 a0_2, .int .i64 a0_3, .int .i64 a0_4]) (t := 23) ?hr ?_; (case hd => rfl); (case hg => rfl); (case hr => first | (go_simp; done) | (go_simp; rfl)); intro gb223 hg w5 hbox hb; have n0_ := Aside0.mk (below_step (by repeat (first | (with_reducible first | exact HB.out | apply below_alloc | apply pw_below_drewN | apply below_drew1) | exact HB.out)) hb); have n1_ := Aside0.mk (hbox); have n2_ := Aside0.mk ((by rw [hg]; exact (below_size (by repeat (first | (with_reducible first | exact HB.out | apply below_alloc | apply pw_below_drewN | apply below_drew1) | exact HB.out))) : w.heap.size ≤ gb223)); have n3_ := Aside0.mk ((by rw [hg]; exact (below_size (by repeat (first | (with_reducible first | exact HB.out | apply below_alloc | apply pw_below_drewN | apply below_drew1) | exact HB.out))) : w.heap.size ≤ gb223)); clear HB; have HB := n0_; have BK223 := n1_; have GW223 := n2_; have GE223 := n3_; clear n0_ n1_ n2_ n3_; clear hb hbox hg))
  (try simp only [Act.put, List.setIfInBounds_toArray, List.set_cons_zero, List.set_cons_succ])
  go_cut [21] (fun v21 wc => ∃ (kq : Nat) (x21_3 : Bool), v21 = .bool x21_3 ∧ Aside0 (permafrostref08_Need.j0 kq a1 a2 x21_3 a0_0 a0_1 a0_2 a0_3 a0_4 = some (r1, r2)) ∧ Aside0 (kq ≤ k) ∧ Aside0 (wc.heap[gb223]? = some (.cells #[.bool a0_0, .bool a0_1, .int .i64 a0_2, .int .i64 a0_3, .int .i64 a0_4] 23 (0, 0))) ∧ Aside0 (Below w.heap.size w wc))
  case first =>
    have H := HC4.out
    clear HC4
    replace H := Option.bind_eq_some_iff.mp H
    obtain ⟨t224, A60, H⟩ := H
    replace H : (if t224 = 0 then ((permafrostref08_in.f a1 1073741824).bind fun t225 => (if t225 = true then ((permafrostref08_in.f a2 1073741824).bind fun t226 => (permafrostref08_Need.j0 k a1 a2 (!t226) a0_0 a0_1 a0_2 a0_3 a0_4)) else (permafrostref08_Need.j0 k a1 a2 true a0_0 a0_1 a0_2 a0_3 a0_4))) else (permafrostref08_Need.j0 k a1 a2 true a0_0 a0_1 a0_2 a0_3 a0_4)) = some (r1, r2) := H
    have A6 := Aside0.mk A60
    clear A60
    by_cases c7 : t224 = 0
    · rw [if_pos c7] at H
      have c7b0 : (t224 == 0) = true := beq_iff_eq.mpr c7
      have c7b1 : (t224 != 0) = false := bne_eq_false_iff_eq.mpr c7
      clear c7
      (first | rw [c7b0] | (simp only [i64_w, i32_w]; rw [c7b0]) | skip)
      replace H := Option.bind_eq_some_iff.mp H
      obtain ⟨t225, A80, H⟩ := H
      replace H : (if t225 = true then ((permafrostref08_in.f a2 1073741824).bind fun t226 => (permafrostref08_Need.j0 k a1 a2 (!t226) a0_0 a0_1 a0_2 a0_3 a0_4)) else (permafrostref08_Need.j0 k a1 a2 true a0_0 a0_1 a0_2 a0_3 a0_4)) = some (r1, r2) := H
      have A8 := Aside0.mk A80
      clear A80
      by_cases c9 : t225 = true
      · subst c9
        have H1 : ((permafrostref08_in.f a2 1073741824).bind fun t226 => (permafrostref08_Need.j0 k a1 a2 (!t226) a0_0 a0_1 a0_2 a0_3 a0_4)) = some (r1, r2) := by rw [if_pos rfl] at H; exact H
        clear H
        have H := H1
        clear H1
        replace H := Option.bind_eq_some_iff.mp H
        obtain ⟨t226, A100, H⟩ := H
        replace H : (permafrostref08_Need.j0 k a1 a2 (!t226) a0_0 a0_1 a0_2 a0_3 a0_4) = some (r1, r2) := H
        have A10 := Aside0.mk A100
        clear A100
        have H' := Aside0.mk H
        clear H
        have hcz11_0 : w5.cell? ⟨gb223, 0, none⟩ = some (.bool a0_0) := (blk_cell BK223.out 0).trans rfl
        have hcz11_1 : w5.cell? ⟨gb223, 1, none⟩ = some (.bool a0_1) := (blk_cell BK223.out 1).trans rfl
        have hcz11_2 : w5.cell? ⟨gb223, 2, none⟩ = some (.int .i64 a0_2) := (blk_cell BK223.out 2).trans rfl
        have hcz11_3 : w5.cell? ⟨gb223, 3, none⟩ = some (.int .i64 a0_3) := (blk_cell BK223.out 3).trans rfl
        have hcz11_4 : w5.cell? ⟨gb223, 4, none⟩ = some (.int .i64 a0_4) := (blk_cell BK223.out 4).trans rfl
        have hfz11_0 := blk_frozen BK223.out 0
        have hfz11_1 := blk_frozen BK223.out 1
        have hfz11_2 := blk_frozen BK223.out 2
        have hfz11_3 := blk_frozen BK223.out 3
        have hfz11_4 := blk_frozen BK223.out 4
        go_wp2_with (first | ((with_reducible refine gate_callee (f := 16) rfl ?_); refine goesL_ (some 10) rfl rfl Try.func16 (by kernel_rfl) rfl #[.agg #[.bool a0_0, .bool a0_1, .int .i64 a0_2, .int .i64 a0_3, .int .i64 a0_4]] rfl (by (try simp only [List.map_toArray, List.map_cons, List.map_nil]); first | done | rfl | (simp only [List.length_drop, List.length_take]; rfl)) ?_; (with_reducible refine (permafrostref08_Check.calls a0_0 a0_1 a0_2 a0_3 a0_4 t224 _ A6.out).mono ?_); rintro e w12 ⟨rfl, hb⟩; refine ⟨_, rfl, ?_⟩; have n0_ := Aside0.mk (blk_below (g := gb223) (o := .cells #[.bool a0_0, .bool a0_1, .int .i64 a0_2, .int .i64 a0_3, .int .i64 a0_4] 23 (0, 0)) (by (with_reducible repeat (first | refine blk_drewN ?_ _ | refine blk_drew ?_ | refine blk_alloc ?_ _)); exact BK223.out) hb); have n1_ := Aside0.mk (below_step (by repeat (first | (with_reducible first | exact HB.out | apply below_alloc | apply pw_below_drewN | apply below_drew1 | refine below_set ?_ GE223.out) | exact HB.out)) hb); clear BK223; clear HB; have BK223 := n0_; have HB := n1_; clear n0_ n1_; (try clear hb); (try clear hb2); (try clear hk); (try clear hi)) | (go_at_call 19; (with_reducible refine (permafrostref08_in.calls a1 1073741824 true _ A8.out).mono ?_); rintro e w' ⟨rfl, ⟨nd, rfl⟩⟩) | (go_at_call 19; (with_reducible refine (permafrostref08_in.calls a2 1073741824 t226 _ A10.out).mono ?_); rintro e w' ⟨rfl, ⟨nd, rfl⟩⟩))
        go_meet
        case rel => exact ⟨_, (!t226), (by first | rfl | (simp; done) | (simp [*]; done)), H', ⟨by first | omega | exact Nat.le_refl _⟩, ⟨by (with_reducible repeat (first | refine blk_drewN ?_ _ | refine blk_drew ?_ | refine blk_alloc ?_ _)); exact BK223.out⟩, ⟨by repeat (first | (with_reducible first | exact HB.out | apply below_alloc | apply pw_below_drewN | apply below_drew1 | refine below_set ?_ GE223.out) | exact HB.out)⟩⟩
      · replace c9 := Bool.eq_false_iff.mpr c9
        subst c9
        have H1 : (permafrostref08_Need.j0 k a1 a2 true a0_0 a0_1 a0_2 a0_3 a0_4) = some (r1, r2) := by rw [if_neg (show ¬ (false = true) by decide)] at H; exact H
        clear H
        have H := H1
        clear H1
        have H' := Aside0.mk H
        clear H
        have hcz13_0 : w5.cell? ⟨gb223, 0, none⟩ = some (.bool a0_0) := (blk_cell BK223.out 0).trans rfl
        have hcz13_1 : w5.cell? ⟨gb223, 1, none⟩ = some (.bool a0_1) := (blk_cell BK223.out 1).trans rfl
        have hcz13_2 : w5.cell? ⟨gb223, 2, none⟩ = some (.int .i64 a0_2) := (blk_cell BK223.out 2).trans rfl
        have hcz13_3 : w5.cell? ⟨gb223, 3, none⟩ = some (.int .i64 a0_3) := (blk_cell BK223.out 3).trans rfl
        have hcz13_4 : w5.cell? ⟨gb223, 4, none⟩ = some (.int .i64 a0_4) := (blk_cell BK223.out 4).trans rfl
        have hfz13_0 := blk_frozen BK223.out 0
        have hfz13_1 := blk_frozen BK223.out 1
        have hfz13_2 := blk_frozen BK223.out 2
        have hfz13_3 := blk_frozen BK223.out 3
        have hfz13_4 := blk_frozen BK223.out 4
        go_wp2_with (first | ((with_reducible refine gate_callee (f := 16) rfl ?_); refine goesL_ (some 10) rfl rfl Try.func16 (by kernel_rfl) rfl #[.agg #[.bool a0_0, .bool a0_1, .int .i64 a0_2, .int .i64 a0_3, .int .i64 a0_4]] rfl (by (try simp only [List.map_toArray, List.map_cons, List.map_nil]); first | done | rfl | (simp only [List.length_drop, List.length_take]; rfl)) ?_; (with_reducible refine (permafrostref08_Check.calls a0_0 a0_1 a0_2 a0_3 a0_4 t224 _ A6.out).mono ?_); rintro e w14 ⟨rfl, hb⟩; refine ⟨_, rfl, ?_⟩; have n0_ := Aside0.mk (blk_below (g := gb223) (o := .cells #[.bool a0_0, .bool a0_1, .int .i64 a0_2, .int .i64 a0_3, .int .i64 a0_4] 23 (0, 0)) (by (with_reducible repeat (first | refine blk_drewN ?_ _ | refine blk_drew ?_ | refine blk_alloc ?_ _)); exact BK223.out) hb); have n1_ := Aside0.mk (below_step (by repeat (first | (with_reducible first | exact HB.out | apply below_alloc | apply pw_below_drewN | apply below_drew1 | refine below_set ?_ GE223.out) | exact HB.out)) hb); clear BK223; clear HB; have BK223 := n0_; have HB := n1_; clear n0_ n1_; (try clear hb); (try clear hb2); (try clear hk); (try clear hi)) | (go_at_call 19; (with_reducible refine (permafrostref08_in.calls a1 1073741824 false _ A8.out).mono ?_); rintro e w' ⟨rfl, ⟨nd, rfl⟩⟩))
        go_meet
        case rel => exact ⟨_, (true), (by first | rfl | (simp; done) | (simp [*]; done)), H', ⟨by first | omega | exact Nat.le_refl _⟩, ⟨by (with_reducible repeat (first | refine blk_drewN ?_ _ | refine blk_drew ?_ | refine blk_alloc ?_ _)); exact BK223.out⟩, ⟨by repeat (first | (with_reducible first | exact HB.out | apply below_alloc | apply pw_below_drewN | apply below_drew1 | refine below_set ?_ GE223.out) | exact HB.out)⟩⟩
    · rw [if_neg c7] at H
      have c7b0 : (t224 == 0) = false := beq_eq_false_iff_ne.mpr c7
      have c7b1 : (t224 != 0) = true := bne_iff_ne.mpr c7
      (first | rw [c7b0] | (simp only [i64_w, i32_w]; rw [c7b0]) | skip)
      have H' := Aside0.mk H
      clear H
      have hcz15_0 : w5.cell? ⟨gb223, 0, none⟩ = some (.bool a0_0) := (blk_cell BK223.out 0).trans rfl
      have hcz15_1 : w5.cell? ⟨gb223, 1, none⟩ = some (.bool a0_1) := (blk_cell BK223.out 1).trans rfl
      have hcz15_2 : w5.cell? ⟨gb223, 2, none⟩ = some (.int .i64 a0_2) := (blk_cell BK223.out 2).trans rfl
      have hcz15_3 : w5.cell? ⟨gb223, 3, none⟩ = some (.int .i64 a0_3) := (blk_cell BK223.out 3).trans rfl
      have hcz15_4 : w5.cell? ⟨gb223, 4, none⟩ = some (.int .i64 a0_4) := (blk_cell BK223.out 4).trans rfl
      have hfz15_0 := blk_frozen BK223.out 0
      have hfz15_1 := blk_frozen BK223.out 1
      have hfz15_2 := blk_frozen BK223.out 2
      have hfz15_3 := blk_frozen BK223.out 3
      have hfz15_4 := blk_frozen BK223.out 4
      go_wp2_with (first | ((with_reducible refine gate_callee (f := 16) rfl ?_); refine goesL_ (some 10) rfl rfl Try.func16 (by kernel_rfl) rfl #[.agg #[.bool a0_0, .bool a0_1, .int .i64 a0_2, .int .i64 a0_3, .int .i64 a0_4]] rfl (by (try simp only [List.map_toArray, List.map_cons, List.map_nil]); first | done | rfl | (simp only [List.length_drop, List.length_take]; rfl)) ?_; (with_reducible refine (permafrostref08_Check.calls a0_0 a0_1 a0_2 a0_3 a0_4 t224 _ A6.out).mono ?_); rintro e w16 ⟨rfl, hb⟩; refine ⟨_, rfl, ?_⟩; have n0_ := Aside0.mk (blk_below (g := gb223) (o := .cells #[.bool a0_0, .bool a0_1, .int .i64 a0_2, .int .i64 a0_3, .int .i64 a0_4] 23 (0, 0)) (by (with_reducible repeat (first | refine blk_drewN ?_ _ | refine blk_drew ?_ | refine blk_alloc ?_ _)); exact BK223.out) hb); have n1_ := Aside0.mk (below_step (by repeat (first | (with_reducible first | exact HB.out | apply below_alloc | apply pw_below_drewN | apply below_drew1 | refine below_set ?_ GE223.out) | exact HB.out)) hb); clear BK223; clear HB; have BK223 := n0_; have HB := n1_; clear n0_ n1_; (try clear hb); (try clear hb2); (try clear hk); (try clear hi)))
      go_meet
      case rel => exact ⟨_, (true), (by first | rfl | (simp; done) | (simp [*]; done)), H', ⟨by first | omega | exact Nat.le_refl _⟩, ⟨by (with_reducible repeat (first | refine blk_drewN ?_ _ | refine blk_drew ?_ | refine blk_alloc ?_ _)); exact BK223.out⟩, ⟨by repeat (first | (with_reducible first | exact HB.out | apply below_alloc | apply pw_below_drewN | apply below_drew1 | refine below_set ?_ GE223.out) | exact HB.out)⟩⟩
  case rest =>
    clear HC4
    try clear c1
    try clear p2
    try clear c7
    try clear c7b0
    try clear c7b1
    try clear c9
    try clear c13
    try clear c16
    try clear hcz11_0
    try clear hcz11_1
    try clear hcz11_2
    try clear hcz11_3
    try clear hcz11_4
    try clear hcz13_0
    try clear hcz13_1
    try clear hcz13_2
    try clear hcz13_3
    try clear hcz13_4
    try clear hcz15_0
    try clear hcz15_1
    try clear hcz15_2
    try clear hcz15_3
    try clear hcz15_4
    try clear hfz11_0
    try clear hfz11_1
    try clear hfz11_2
    try clear hfz11_3
    try clear hfz11_4
    try clear hfz13_0
    try clear hfz13_1
    try clear hfz13_2
    try clear hfz13_3
    try clear hfz13_4
    try clear hfz15_0
    try clear hfz15_1
    try clear hfz15_2
    try clear hfz15_3
    try clear hfz15_4
    obtain ⟨kq, x21_3, rfl, HA, HJ3, BK223, HB⟩ := hcut
    cases kq with
    | zero => exact absurd HA.out (by simp [permafrostref08_Need.j0])
    | succ kj3 =>
      have H := HA.out
      clear HA
      simp only [permafrostref08_Need.j0] at H
      by_cases c17 : x21_3 = true
      · subst c17
        have H1 : (some (0, 0)) = some (r1, r2) := by rw [if_pos rfl] at H; exact H
        clear H
        have H := H1
        clear H1
        simp only [Option.some.injEq, Prod.mk.injEq] at H
        obtain ⟨rfl, rfl⟩ := H
        go_wp2
        go_ret2
        exact ⟨by first | rfl | (simp [errW_none, errW_some] <;> rfl) | (simp [*, errW_none, errW_some] <;> rfl), by repeat (first | (with_reducible first | exact HB.out | apply below_alloc | apply pw_below_drewN | apply below_drew1 | refine below_set ?_ GE223.out) | exact HB.out)⟩
      · replace c17 := Bool.eq_false_iff.mpr c17
        subst c17
        have H1 : (if a0_0 = true then (if a0_2 = 0 then (some (wrap64 (a1 + a2), wrap64 (0 + a1))) else (some (wrap64 (a1 + a2), wrap64 ((wrap64 (0 + a1)) + a2)))) else (if a0_2 = 0 then (some (wrap64 (a1 + a2), 0)) else (some (wrap64 (a1 + a2), wrap64 (0 + a2))))) = some (r1, r2) := by rw [if_neg (show ¬ (false = true) by decide)] at H; exact H
        clear H
        have H := H1
        clear H1
        by_cases c18 : a0_0 = true
        · subst c18
          have H1 : (if a0_2 = 0 then (some (wrap64 (a1 + a2), wrap64 (0 + a1))) else (some (wrap64 (a1 + a2), wrap64 ((wrap64 (0 + a1)) + a2)))) = some (r1, r2) := by rw [if_pos rfl] at H; exact H
          clear H
          have H := H1
          clear H1
          by_cases c19 : a0_2 = 0
          · rw [if_pos c19] at H
            have c19b0 : (a0_2 == 0) = true := beq_iff_eq.mpr c19
            have c19b1 : (a0_2 != 0) = false := bne_eq_false_iff_eq.mpr c19
            clear c19
            simp only [Option.some.injEq, Prod.mk.injEq] at H
            obtain ⟨rfl, rfl⟩ := H
            have hcz20_0 : wc.cell? ⟨gb223, 0, none⟩ = some (.bool true) := (blk_cell BK223.out 0).trans rfl
            have hcz20_1 : wc.cell? ⟨gb223, 1, none⟩ = some (.bool a0_1) := (blk_cell BK223.out 1).trans rfl
            have hcz20_2 : wc.cell? ⟨gb223, 2, none⟩ = some (.int .i64 a0_2) := (blk_cell BK223.out 2).trans rfl
            have hcz20_3 : wc.cell? ⟨gb223, 3, none⟩ = some (.int .i64 a0_3) := (blk_cell BK223.out 3).trans rfl
            have hcz20_4 : wc.cell? ⟨gb223, 4, none⟩ = some (.int .i64 a0_4) := (blk_cell BK223.out 4).trans rfl
            have hfz20_0 := blk_frozen BK223.out 0
            have hfz20_1 := blk_frozen BK223.out 1
            have hfz20_2 := blk_frozen BK223.out 2
            have hfz20_3 := blk_frozen BK223.out 3
            have hfz20_4 := blk_frozen BK223.out 4
            go_wp2
            go_ret2
            exact ⟨by first | rfl | (simp [errW_none, errW_some] <;> rfl) | (simp [*, errW_none, errW_some] <;> rfl), by repeat (first | (with_reducible first | exact HB.out | apply below_alloc | apply pw_below_drewN | apply below_drew1 | refine below_set ?_ GE223.out) | exact HB.out)⟩
          · rw [if_neg c19] at H
            have c19b0 : (a0_2 == 0) = false := beq_eq_false_iff_ne.mpr c19
            have c19b1 : (a0_2 != 0) = true := bne_iff_ne.mpr c19
            simp only [Option.some.injEq, Prod.mk.injEq] at H
            obtain ⟨rfl, rfl⟩ := H
            have hcz21_0 : wc.cell? ⟨gb223, 0, none⟩ = some (.bool true) := (blk_cell BK223.out 0).trans rfl
            have hcz21_1 : wc.cell? ⟨gb223, 1, none⟩ = some (.bool a0_1) := (blk_cell BK223.out 1).trans rfl
            have hcz21_2 : wc.cell? ⟨gb223, 2, none⟩ = some (.int .i64 a0_2) := (blk_cell BK223.out 2).trans rfl
            have hcz21_3 : wc.cell? ⟨gb223, 3, none⟩ = some (.int .i64 a0_3) := (blk_cell BK223.out 3).trans rfl
            have hcz21_4 : wc.cell? ⟨gb223, 4, none⟩ = some (.int .i64 a0_4) := (blk_cell BK223.out 4).trans rfl
            have hfz21_0 := blk_frozen BK223.out 0
            have hfz21_1 := blk_frozen BK223.out 1
            have hfz21_2 := blk_frozen BK223.out 2
            have hfz21_3 := blk_frozen BK223.out 3
            have hfz21_4 := blk_frozen BK223.out 4
            go_wp2
            go_ret2
            exact ⟨by first | rfl | (simp [errW_none, errW_some] <;> rfl) | (simp [*, errW_none, errW_some] <;> rfl), by repeat (first | (with_reducible first | exact HB.out | apply below_alloc | apply pw_below_drewN | apply below_drew1 | refine below_set ?_ GE223.out) | exact HB.out)⟩
        · replace c18 := Bool.eq_false_iff.mpr c18
          subst c18
          have H1 : (if a0_2 = 0 then (some (wrap64 (a1 + a2), 0)) else (some (wrap64 (a1 + a2), wrap64 (0 + a2)))) = some (r1, r2) := by rw [if_neg (show ¬ (false = true) by decide)] at H; exact H
          clear H
          have H := H1
          clear H1
          by_cases c22 : a0_2 = 0
          · rw [if_pos c22] at H
            have c22b0 : (a0_2 == 0) = true := beq_iff_eq.mpr c22
            have c22b1 : (a0_2 != 0) = false := bne_eq_false_iff_eq.mpr c22
            clear c22
            simp only [Option.some.injEq, Prod.mk.injEq] at H
            obtain ⟨rfl, rfl⟩ := H
            have hcz23_0 : wc.cell? ⟨gb223, 0, none⟩ = some (.bool false) := (blk_cell BK223.out 0).trans rfl
            have hcz23_1 : wc.cell? ⟨gb223, 1, none⟩ = some (.bool a0_1) := (blk_cell BK223.out 1).trans rfl
            have hcz23_2 : wc.cell? ⟨gb223, 2, none⟩ = some (.int .i64 a0_2) := (blk_cell BK223.out 2).trans rfl
            have hcz23_3 : wc.cell? ⟨gb223, 3, none⟩ = some (.int .i64 a0_3) := (blk_cell BK223.out 3).trans rfl
            have hcz23_4 : wc.cell? ⟨gb223, 4, none⟩ = some (.int .i64 a0_4) := (blk_cell BK223.out 4).trans rfl
            have hfz23_0 := blk_frozen BK223.out 0
            have hfz23_1 := blk_frozen BK223.out 1
            have hfz23_2 := blk_frozen BK223.out 2
            have hfz23_3 := blk_frozen BK223.out 3
            have hfz23_4 := blk_frozen BK223.out 4
            go_wp2
            go_ret2
            exact ⟨by first | rfl | (simp [errW_none, errW_some] <;> rfl) | (simp [*, errW_none, errW_some] <;> rfl), by repeat (first | (with_reducible first | exact HB.out | apply below_alloc | apply pw_below_drewN | apply below_drew1 | refine below_set ?_ GE223.out) | exact HB.out)⟩
          · rw [if_neg c22] at H
            have c22b0 : (a0_2 == 0) = false := beq_eq_false_iff_ne.mpr c22
            have c22b1 : (a0_2 != 0) = true := bne_iff_ne.mpr c22
            simp only [Option.some.injEq, Prod.mk.injEq] at H
            obtain ⟨rfl, rfl⟩ := H
            have hcz24_0 : wc.cell? ⟨gb223, 0, none⟩ = some (.bool false) := (blk_cell BK223.out 0).trans rfl
            have hcz24_1 : wc.cell? ⟨gb223, 1, none⟩ = some (.bool a0_1) := (blk_cell BK223.out 1).trans rfl
            have hcz24_2 : wc.cell? ⟨gb223, 2, none⟩ = some (.int .i64 a0_2) := (blk_cell BK223.out 2).trans rfl
            have hcz24_3 : wc.cell? ⟨gb223, 3, none⟩ = some (.int .i64 a0_3) := (blk_cell BK223.out 3).trans rfl
            have hcz24_4 : wc.cell? ⟨gb223, 4, none⟩ = some (.int .i64 a0_4) := (blk_cell BK223.out 4).trans rfl
            have hfz24_0 := blk_frozen BK223.out 0
            have hfz24_1 := blk_frozen BK223.out 1
            have hfz24_2 := blk_frozen BK223.out 2
            have hfz24_3 := blk_frozen BK223.out 3
            have hfz24_4 := blk_frozen BK223.out 4
            go_wp2
            go_ret2
            exact ⟨by first | rfl | (simp [errW_none, errW_some] <;> rfl) | (simp [*, errW_none, errW_some] <;> rfl), by repeat (first | (with_reducible first | exact HB.out | apply below_alloc | apply pw_below_drewN | apply below_drew1 | refine below_set ?_ GE223.out) | exact HB.out)⟩

-- NOT PRINTED: function 3 (permafrostlaw08_ClassChooses)

end Go.Proofs.Ytacplkanjhjbpaa.PClassChooses
