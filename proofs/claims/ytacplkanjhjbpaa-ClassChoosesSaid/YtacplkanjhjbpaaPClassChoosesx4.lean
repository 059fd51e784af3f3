-- PRINTED BY print.sh 35421559b90ae4d0a3588c463048766b98c2df88dd9212a6774a882060cdf62d: not written by this session
import Derived.Test.YtacplkanjhjbpaaPClassChoosesx0
import Derived.Test.YtacplkanjhjbpaaPClassChoosesx3
namespace Go.Proofs.Ytacplkanjhjbpaa.PClassChooses
open Go.RowKit Go.Proofs.YtacplkanjhjbpaaW.PrintWords Go.Proofs.YtacplkanjhjbpaaW.PrintLast Go.Proofs.YtacplkanjhjbpaaW.PrintMore
attribute [local go_sem] max2_int min2_int max_two min_two max_three min_three max_four min_four   -- for this text's walks alone
set_option linter.unusedVariables false
set_option linter.unusedSimpArgs false

/-! ### permafrostref08_Choose: function 11 -/
mutual
def permafrostref08_Choose.j0 : Nat → Int → Int → List Int → Bool → Bool → Bool → Int → Int → Int → Option (List Int × Int)
  | 0, _, _, _, _, _, _, _, _, _ => none
  | k + 1, x1, x2, x3, x27, x205000, x205001, x205002, x205003, x205004 => if x27 = true then (some (([] : List Int), 1)) else (if 0 < (x3.length : Int) then (if (rd x3 0) < 0 then (permafrostref08_Choose.j1 k x1 x2 x3 true x205000 x205001 x205002 x205003 x205004) else (if 1 < (x3.length : Int) then (permafrostref08_Choose.j1 k x1 x2 x3 (decide ((rd x3 1) < 0)) x205000 x205001 x205002 x205003 x205004) else (none))) else (none))
def permafrostref08_Choose.j1 : Nat → Int → Int → List Int → Bool → Bool → Bool → Int → Int → Int → Option (List Int × Int)
  | 0, _, _, _, _, _, _, _, _, _ => none
  | k + 1, x1, x2, x3, x37, x205000, x205001, x205002, x205003, x205004 => if x37 = true then (some (([] : List Int), 1)) else ((permafrostref08_wants.f x205000 x205001 x205002 x205003 x205004 x1 x2).bind fun t210 => (if t210 = true then (if 1 < (x3.length : Int) then (permafrostref08_Choose.j2 k x1 x3 (decide ((rd x3 1) > 0)) x205000 x205001 x205002 x205003 x205004) else (none)) else (permafrostref08_Choose.j2 k x1 x3 false x205000 x205001 x205002 x205003 x205004)))
def permafrostref08_Choose.j2 : Nat → Int → List Int → Bool → Bool → Bool → Int → Int → Int → Option (List Int × Int)
  | 0, _, _, _, _, _, _, _, _ => none
  | k + 1, x1, x3, x47, x205000, x205001, x205002, x205003, x205004 => if x47 = true then (if x1 = 0 then (if x205001 = true then (if 0 < (x3.length : Int) then (permafrostref08_Choose.j3 k (decide ((rd x3 0) > 0))) else (none)) else (permafrostref08_Choose.j3 k false)) else (permafrostref08_Choose.j3 k false)) else (if 0 < (x3.length : Int) then (if (rd x3 0) > 0 then (some ((([0] : List Int)), 0)) else (some (([] : List Int), 6))) else (none))
def permafrostref08_Choose.j3 : Nat → Bool → Option (List Int × Int)
  | 0, _ => none
  | k + 1, x59 => if x59 = true then (some ((([1, 0] : List Int)), 0)) else (some ((([1] : List Int)), 0))
end
def permafrostref08_Choose.f (k : Nat) (a0_0 : Bool) (a0_1 : Bool) (a0_2 : Int) (a0_3 : Int) (a0_4 : Int) (a1 : Int) (a2 : Int) (l3 : List Int) : Option (List Int × Int) := (permafrostref08_Check.f a0_0 a0_1 a0_2 a0_3 a0_4).bind fun t205 => (if t205 = 0 then ((permafrostref08_in.f a1 1).bind fun t206 => (if t206 = true then ((permafrostref08_in.f a2 960).bind fun t207 => (if t207 = true then (permafrostref08_Choose.j0 k a1 a2 l3 ((l3.length : Int) != 2) a0_0 a0_1 a0_2 a0_3 a0_4) else (permafrostref08_Choose.j0 k a1 a2 l3 true a0_0 a0_1 a0_2 a0_3 a0_4))) else (permafrostref08_Choose.j0 k a1 a2 l3 true a0_0 a0_1 a0_2 a0_3 a0_4))) else (permafrostref08_Choose.j0 k a1 a2 l3 true a0_0 a0_1 a0_2 a0_3 a0_4))
theorem permafrostref08_Choose.mono_l : ∀ k, (∀ y0 y1 y2 y3 y4 y5 y6 y7 y8, LeO (permafrostref08_Choose.j0 k y0 y1 y2 y3 y4 y5 y6 y7 y8) (permafrostref08_Choose.j0 (k + 1) y0 y1 y2 y3 y4 y5 y6 y7 y8)) ∧ (∀ y0 y1 y2 y3 y4 y5 y6 y7 y8, LeO (permafrostref08_Choose.j1 k y0 y1 y2 y3 y4 y5 y6 y7 y8) (permafrostref08_Choose.j1 (k + 1) y0 y1 y2 y3 y4 y5 y6 y7 y8)) ∧ (∀ y0 y1 y2 y3 y4 y5 y6 y7, LeO (permafrostref08_Choose.j2 k y0 y1 y2 y3 y4 y5 y6 y7) (permafrostref08_Choose.j2 (k + 1) y0 y1 y2 y3 y4 y5 y6 y7)) ∧ (∀ y0, LeO (permafrostref08_Choose.j3 k y0) (permafrostref08_Choose.j3 (k + 1) y0))
  | 0 => ⟨fun _ _ _ _ _ _ _ _ _ r h => by simp [permafrostref08_Choose.j0] at h, fun _ _ _ _ _ _ _ _ _ r h => by simp [permafrostref08_Choose.j1] at h, fun _ _ _ _ _ _ _ _ r h => by simp [permafrostref08_Choose.j2] at h, fun _ r h => by simp [permafrostref08_Choose.j3] at h⟩
  | k + 1 => by
    obtain ⟨ih0, ih1, ih2, ih3⟩ := permafrostref08_Choose.mono_l k
    refine ⟨?_, ?_, ?_, ?_⟩
    · intro y0 y1 y2 y3 y4 y5 y6 y7 y8
      unfold permafrostref08_Choose.j0
      repeat' first
      | (with_reducible exact ih0 _ _ _ _ _ _ _ _ _)
      | (with_reducible exact ih1 _ _ _ _ _ _ _ _ _)
      | (with_reducible exact ih2 _ _ _ _ _ _ _ _)
      | (with_reducible exact ih3 _)
      | (with_reducible exact LeO.refl _)
      | (with_reducible exact LeO.none _)
      | (with_reducible refine LeO.ite ?_ ?_)
      | (with_reducible refine LeO.bind ?_ (fun _ => ?_))
      | exact ih0 _ _ _ _ _ _ _ _ _
      | exact ih1 _ _ _ _ _ _ _ _ _
      | exact ih2 _ _ _ _ _ _ _ _
      | exact ih3 _
      | exact LeO.none _
      | refine LeO.ite ?_ ?_
      | refine LeO.bind ?_ (fun _ => ?_)
    · intro y0 y1 y2 y3 y4 y5 y6 y7 y8
      unfold permafrostref08_Choose.j1
      repeat' first
      | (with_reducible exact ih0 _ _ _ _ _ _ _ _ _)
      | (with_reducible exact ih1 _ _ _ _ _ _ _ _ _)
      | (with_reducible exact ih2 _ _ _ _ _ _ _ _)
      | (with_reducible exact ih3 _)
      | (with_reducible exact LeO.refl _)
      | (with_reducible exact LeO.none _)
      | (with_reducible refine LeO.ite ?_ ?_)
      | (with_reducible refine LeO.bind ?_ (fun _ => ?_))
      | exact ih0 _ _ _ _ _ _ _ _ _
      | exact ih1 _ _ _ _ _ _ _ _ _
      | exact ih2 _ _ _ _ _ _ _ _
      | exact ih3 _
      | exact LeO.none _
      | refine LeO.ite ?_ ?_
      | refine LeO.bind ?_ (fun _ => ?_)
    · intro y0 y1 y2 y3 y4 y5 y6 y7
      unfold permafrostref08_Choose.j2
      repeat' first
      | (with_reducible exact ih0 _ _ _ _ _ _ _ _ _)
      | (with_reducible exact ih1 _ _ _ _ _ _ _ _ _)
      | (with_reducible exact ih2 _ _ _ _ _ _ _ _)
      | (with_reducible exact ih3 _)
      | (with_reducible exact LeO.refl _)
      | (with_reducible exact LeO.none _)
      | (with_reducible refine LeO.ite ?_ ?_)
      | (with_reducible refine LeO.bind ?_ (fun _ => ?_))
      | exact ih0 _ _ _ _ _ _ _ _ _
      | exact ih1 _ _ _ _ _ _ _ _ _
      | exact ih2 _ _ _ _ _ _ _ _
      | exact ih3 _
      | exact LeO.none _
      | refine LeO.ite ?_ ?_
      | refine LeO.bind ?_ (fun _ => ?_)
    · intro y0
      unfold permafrostref08_Choose.j3
      repeat' first
      | (with_reducible exact ih0 _ _ _ _ _ _ _ _ _)
      | (with_reducible exact ih1 _ _ _ _ _ _ _ _ _)
      | (with_reducible exact ih2 _ _ _ _ _ _ _ _)
      | (with_reducible exact ih3 _)
      | (with_reducible exact LeO.refl _)
      | (with_reducible exact LeO.none _)
      | (with_reducible refine LeO.ite ?_ ?_)
      | (with_reducible refine LeO.bind ?_ (fun _ => ?_))
      | exact ih0 _ _ _ _ _ _ _ _ _
      | exact ih1 _ _ _ _ _ _ _ _ _
      | exact ih2 _ _ _ _ _ _ _ _
      | exact ih3 _
      | exact LeO.none _
      | refine LeO.ite ?_ ?_
      | refine LeO.bind ?_ (fun _ => ?_)
theorem permafrostref08_Choose.mono : ∀ a0 a1 a2 a3 a4 a5 a6 a7 k, LeO (permafrostref08_Choose.f k a0 a1 a2 a3 a4 a5 a6 a7) (permafrostref08_Choose.f (k + 1) a0 a1 a2 a3 a4 a5 a6 a7) := by
  intro a0 a1 a2 a3 a4 a5 a6 a7 k
  obtain ⟨ih0, ih1, ih2, ih3⟩ := permafrostref08_Choose.mono_l k
  unfold permafrostref08_Choose.f
  repeat' first
      | (with_reducible exact ih0 _ _ _ _ _ _ _ _ _)
      | (with_reducible exact ih1 _ _ _ _ _ _ _ _ _)
      | (with_reducible exact ih2 _ _ _ _ _ _ _ _)
      | (with_reducible exact ih3 _)
      | (with_reducible exact LeO.refl _)
      | (with_reducible exact LeO.none _)
      | (with_reducible refine LeO.ite ?_ ?_)
      | (with_reducible refine LeO.bind ?_ (fun _ => ?_))
      | exact ih0 _ _ _ _ _ _ _ _ _
      | exact ih1 _ _ _ _ _ _ _ _ _
      | exact ih2 _ _ _ _ _ _ _ _
      | exact ih3 _
      | exact LeO.none _
      | refine LeO.ite ?_ ?_
      | refine LeO.bind ?_ (fun _ => ?_)
set_option maxHeartbeats 8000000 in
set_option maxRecDepth 100000 in
theorem permafrostref08_Choose.calls (k : Nat) (a0_0 : Bool) (a0_1 : Bool) (a0_2 : Int) (a0_3 : Int) (a0_4 : Int) (a1 : Int) (a2 : Int) (A3 : Option Addr) (c3 : Nat) (l3 : List Int) (r1 : List Int) (r2 : Int) (w : World) (hr3 : Kd.C (Kd.int .i64) w A3 l3.length l3) (hc3 : l3.length ≤ c3) (h : permafrostref08_Choose.f k a0_0 a0_1 a0_2 a0_3 a0_4 a1 a2 l3 = some (r1, r2)) :
    Calls Try.prog 11 #[.agg #[.bool a0_0, .bool a0_1, .int .i64 a0_2, .int .i64 a0_3, .int .i64 a0_4], .int .i64 a1, .int .i64 a2, .slice A3 l3.length c3] w fun e w' => ∃ v0_ : Value, e = .returned (.tuple #[v0_, .int .i64 r2]) ∧ Kd.R (Kd.int .i64) 3 w' w.heap.size (fun _ => True) v0_ r1 ∧ Below w.heap.size w w' := by
  have hu23 := Try.underlying23
  have HR3 := Aside0.mk hr3
  have HC3 := Aside0.mk hc3
  clear hr3 hc3
  have HB := Aside0.mk (Below.refl w.heap.size w)
  have H : ((permafrostref08_Check.f a0_0 a0_1 a0_2 a0_3 a0_4).bind fun t205 => (if t205 = 0 then ((permafrostref08_in.f a1 1).bind fun t206 => (if t206 = true then ((permafrostref08_in.f a2 960).bind fun t207 => (if t207 = true then (permafrostref08_Choose.j0 k a1 a2 l3 ((l3.length : Int) != 2) a0_0 a0_1 a0_2 a0_3 a0_4) else (permafrostref08_Choose.j0 k a1 a2 l3 true a0_0 a0_1 a0_2 a0_3 a0_4))) else (permafrostref08_Choose.j0 k a1 a2 l3 true a0_0 a0_1 a0_2 a0_3 a0_4))) else (permafrostref08_Choose.j0 k a1 a2 l3 true a0_0 a0_1 a0_2 a0_3 a0_4))) = some (r1, r2) := h
  clear h
  have HC5 := Aside0.mk H
  clear H
  go_enter Try.func11, Try.ntmps11
  go_upto_region 1 with (first | ((with_reducible refine gate_dst (N := 4) rfl ?_); (try (refine gate_guard (by rfl) ?_; dsimp only)); refine box_event ?hg (N := 4) ?hd (cs := #[.bool a0_0, .bool a0_1, .int .i64 a0_2, .int .i64 a0_3, .int .i64 a0_4]) (t := 23) ?hr ?_; (case hd => rfl); (case hg => rfl); (case hr => first | (go_simp; done) | (go_simp; rfl)); intro gb204 hg w6 hbox hb; have n0_ := Aside0.mk (below_step (by repeat (first | (with_reducible first | exact HB.out | apply below_alloc | apply pw_below_drewN | apply below_drew1) | exact HB.out)) hb); have n1_ := Aside0.mk (hbox); have n2_ := Aside0.mk ((by rw [hg]; exact (below_size (by repeat (first | (with_reducible first | exact HB.out | apply below_alloc | apply pw_below_drewN | apply below_drew1) | exact HB.out))) : w.heap.size ≤ gb204)); have n3_ := Aside0.mk ((by rw [hg]; exact (below_size (by repeat (first | (with_reducible first | exact HB.out | apply below_alloc | apply pw_below_drewN | apply below_drew1) | exact HB.out))) : w.heap.size ≤ gb204)); clear HB; have HB := n0_; have BK204 := n1_; have GW204 := n2_; have GE204 := n3_; clear n0_ n1_ n2_ n3_; clear hb hbox hg))
  (try simp only [Act.put, List.setIfInBounds_toArray, List.set_cons_zero, List.set_cons_succ])
  go_cut [27] (fun v27 wc => ∃ (kq : Nat) (x27_4 : Bool), v27 = .bool x27_4 ∧ Aside0 (permafrostref08_Choose.j0 kq a1 a2 l3 x27_4 a0_0 a0_1 a0_2 a0_3 a0_4 = some (r1, r2)) ∧ Aside0 (kq ≤ k) ∧ Aside0 (wc.heap[gb204]? = some (.cells #[.bool a0_0, .bool a0_1, .int .i64 a0_2, .int .i64 a0_3, .int .i64 a0_4] 23 (0, 0))) ∧ Aside0 (Below w.heap.size w wc))
  case first =>
    have H := HC5.out
    clear HC5
    replace H := Option.bind_eq_some_iff.mp H
    obtain ⟨t205, A70, H⟩ := H
    replace H : (if t205 = 0 then ((permafrostref08_in.f a1 1).bind fun t206 => (if t206 = true then ((permafrostref08_in.f a2 960).bind fun t207 => (if t207 = true then (permafrostref08_Choose.j0 k a1 a2 l3 ((l3.length : Int) != 2) a0_0 a0_1 a0_2 a0_3 a0_4) else (permafrostref08_Choose.j0 k a1 a2 l3 true a0_0 a0_1 a0_2 a0_3 a0_4))) else (permafrostref08_Choose.j0 k a1 a2 l3 true a0_0 a0_1 a0_2 a0_3 a0_4))) else (permafrostref08_Choose.j0 k a1 a2 l3 true a0_0 a0_1 a0_2 a0_3 a0_4)) = some (r1, r2) := H
    have A7 := Aside0.mk A70
    clear A70
    by_cases c8 : t205 = 0
    · rw [if_pos c8] at H
      have c8b0 : (t205 == 0) = true := beq_iff_eq.mpr c8
      have c8b1 : (t205 != 0) = false := bne_eq_false_iff_eq.mpr c8
      clear c8
      (first | rw [c8b0] | (simp only [i64_w, i32_w]; rw [c8b0]) | skip)
      replace H := Option.bind_eq_some_iff.mp H
      obtain ⟨t206, A90, H⟩ := H
      replace H : (if t206 = true then ((permafrostref08_in.f a2 960).bind fun t207 => (if t207 = true then (permafrostref08_Choose.j0 k a1 a2 l3 ((l3.length : Int) != 2) a0_0 a0_1 a0_2 a0_3 a0_4) else (permafrostref08_Choose.j0 k a1 a2 l3 true a0_0 a0_1 a0_2 a0_3 a0_4))) else (permafrostref08_Choose.j0 k a1 a2 l3 true a0_0 a0_1 a0_2 a0_3 a0_4)) = some (r1, r2) := H
      have A9 := Aside0.mk A90
      clear A90
      by_cases c10 : t206 = true
      · subst c10
        have H1 : ((permafrostref08_in.f a2 960).bind fun t207 => (if t207 = true then (permafrostref08_Choose.j0 k a1 a2 l3 ((l3.length : Int) != 2) a0_0 a0_1 a0_2 a0_3 a0_4) else (permafrostref08_Choose.j0 k a1 a2 l3 true a0_0 a0_1 a0_2 a0_3 a0_4))) = some (r1, r2) := by rw [if_pos rfl] at H; exact H
        clear H
        have H := H1
        clear H1
        replace H := Option.bind_eq_some_iff.mp H
        obtain ⟨t207, A110, H⟩ := H
        replace H : (if t207 = true then (permafrostref08_Choose.j0 k a1 a2 l3 ((l3.length : Int) != 2) a0_0 a0_1 a0_2 a0_3 a0_4) else (permafrostref08_Choose.j0 k a1 a2 l3 true a0_0 a0_1 a0_2 a0_3 a0_4)) = some (r1, r2) := H
        have A11 := Aside0.mk A110
        clear A110
        by_cases c12 : t207 = true
        · subst c12
          have H1 : (permafrostref08_Choose.j0 k a1 a2 l3 ((l3.length : Int) != 2) a0_0 a0_1 a0_2 a0_3 a0_4) = some (r1, r2) := by rw [if_pos rfl] at H; exact H
          clear H
          have H := H1
          clear H1
          have H' := Aside0.mk H
          clear H
          have hcz13_0 : w6.cell? ⟨gb204, 0, none⟩ = some (.bool a0_0) := (blk_cell BK204.out 0).trans rfl
          have hcz13_1 : w6.cell? ⟨gb204, 1, none⟩ = some (.bool a0_1) := (blk_cell BK204.out 1).trans rfl
          have hcz13_2 : w6.cell? ⟨gb204, 2, none⟩ = some (.int .i64 a0_2) := (blk_cell BK204.out 2).trans rfl
          have hcz13_3 : w6.cell? ⟨gb204, 3, none⟩ = some (.int .i64 a0_3) := (blk_cell BK204.out 3).trans rfl
          have hcz13_4 : w6.cell? ⟨gb204, 4, none⟩ = some (.int .i64 a0_4) := (blk_cell BK204.out 4).trans rfl
          have hfz13_0 := blk_frozen BK204.out 0
          have hfz13_1 := blk_frozen BK204.out 1
          have hfz13_2 := blk_frozen BK204.out 2
          have hfz13_3 := blk_frozen BK204.out 3
          have hfz13_4 := blk_frozen BK204.out 4
          go_wp2_with (first | ((with_reducible refine gate_callee (f := 16) rfl ?_); refine goesL_ (some 11) rfl rfl Try.func16 (by kernel_rfl) rfl #[.agg #[.bool a0_0, .bool a0_1, .int .i64 a0_2, .int .i64 a0_3, .int .i64 a0_4]] rfl (by (try simp only [List.map_toArray, List.map_cons, List.map_nil]); first | done | rfl | (simp only [List.length_drop, List.length_take]; rfl)) ?_; (with_reducible refine (permafrostref08_Check.calls a0_0 a0_1 a0_2 a0_3 a0_4 t205 _ A7.out).mono ?_); rintro e w14 ⟨rfl, hb⟩; refine ⟨_, rfl, ?_⟩; have n0_ := Aside0.mk (blk_below (g := gb204) (o := .cells #[.bool a0_0, .bool a0_1, .int .i64 a0_2, .int .i64 a0_3, .int .i64 a0_4] 23 (0, 0)) (by (with_reducible repeat (first | refine blk_drewN ?_ _ | refine blk_drew ?_ | refine blk_alloc ?_ _)); exact BK204.out) hb); have n1_ := Aside0.mk (below_step (by repeat (first | (with_reducible first | exact HB.out | apply below_alloc | apply pw_below_drewN | apply below_drew1 | refine below_set ?_ GE204.out) | exact HB.out)) hb); clear BK204; clear HB; have BK204 := n0_; have HB := n1_; clear n0_ n1_; (try clear hb); (try clear hb2); (try clear hk); (try clear hi)) | (go_at_call 19; (with_reducible refine (permafrostref08_in.calls a1 1 true _ A9.out).mono ?_); rintro e w' ⟨rfl, ⟨nd, rfl⟩⟩) | (go_at_call 19; (with_reducible refine (permafrostref08_in.calls a2 960 true _ A11.out).mono ?_); rintro e w' ⟨rfl, ⟨nd, rfl⟩⟩))
          go_meet
          case rel => exact ⟨_, (((l3.length : Int) != 2)), (by first | rfl | (simp; done) | (simp [*]; done)), H', ⟨by first | omega | exact Nat.le_refl _⟩, ⟨by (with_reducible repeat (first | refine blk_drewN ?_ _ | refine blk_drew ?_ | refine blk_alloc ?_ _)); exact BK204.out⟩, ⟨by repeat (first | (with_reducible first | exact HB.out | apply below_alloc | apply pw_below_drewN | apply below_drew1 | refine below_set ?_ GE204.out) | exact HB.out)⟩⟩
        · replace c12 := Bool.eq_false_iff.mpr c12
          subst c12
          have H1 : (permafrostref08_Choose.j0 k a1 a2 l3 true a0_0 a0_1 a0_2 a0_3 a0_4) = some (r1, r2) := by rw [if_neg (show ¬ (false = true) by decide)] at H; exact H
          clear H
          have H := H1
          clear H1
          have H' := Aside0.mk H
          clear H
          have hcz15_0 : w6.cell? ⟨gb204, 0, none⟩ = some (.bool a0_0) := (blk_cell BK204.out 0).trans rfl
          have hcz15_1 : w6.cell? ⟨gb204, 1, none⟩ = some (.bool a0_1) := (blk_cell BK204.out 1).trans rfl
          have hcz15_2 : w6.cell? ⟨gb204, 2, none⟩ = some (.int .i64 a0_2) := (blk_cell BK204.out 2).trans rfl
          have hcz15_3 : w6.cell? ⟨gb204, 3, none⟩ = some (.int .i64 a0_3) := (blk_cell BK204.out 3).trans rfl
          have hcz15_4 : w6.cell? ⟨gb204, 4, none⟩ = some (.int .i64 a0_4) := (blk_cell BK204.out 4).trans rfl
          have hfz15_0 := blk_frozen BK204.out 0
          have hfz15_1 := blk_frozen BK204.out 1
          have hfz15_2 := blk_frozen BK204.out 2
          have hfz15_3 := blk_frozen BK204.out 3
          have hfz15_4 := blk_frozen BK204.out 4
          go_wp2_with (first | ((with_reducible refine gate_callee (f := 16) rfl ?_); refine goesL_ (some 11) rfl rfl Try.func16 (by kernel_rfl) rfl #[.agg #[.bool a0_0, .bool a0_1, .int .i64 a0_2, .int .i64 a0_3, .int .i64 a0_4]] rfl (by (try simp only [List.map_toArray, List.map_cons, List.map_nil]); first | done | rfl | (simp only [List.length_drop, List.length_take]; rfl)) ?_; (with_reducible refine (permafrostref08_Check.calls a0_0 a0_1 a0_2 a0_3 a0_4 t205 _ A7.out).mono ?_); rintro e w16 ⟨rfl, hb⟩; refine ⟨_, rfl, ?_⟩; have n0_ := Aside0.mk (blk_below (g := gb204) (o := .cells #[.bool a0_0, .bool a0_1, .int .i64 a0_2, .int .i64 a0_3, .int .i64 a0_4] 23 (0, 0)) (by (with_reducible repeat (first | refine blk_drewN ?_ _ | refine blk_drew ?_ | refine blk_alloc ?_ _)); exact BK204.out) hb); have n1_ := Aside0.mk (below_step (by repeat (first | (with_reducible first | exact HB.out | apply below_alloc | apply pw_below_drewN | apply below_drew1 | refine below_set ?_ GE204.out) | exact HB.out)) hb); clear BK204; clear HB; have BK204 := n0_; have HB := n1_; clear n0_ n1_; (try clear hb); (try clear hb2); (try clear hk); (try clear hi)) | (go_at_call 19; (with_reducible refine (permafrostref08_in.calls a1 1 true _ A9.out).mono ?_); rintro e w' ⟨rfl, ⟨nd, rfl⟩⟩) | (go_at_call 19; (with_reducible refine (permafrostref08_in.calls a2 960 false _ A11.out).mono ?_); rintro e w' ⟨rfl, ⟨nd, rfl⟩⟩))
          go_meet
          case rel => exact ⟨_, (true), (by first | rfl | (simp; done) | (simp [*]; done)), H', ⟨by first | omega | exact Nat.le_refl _⟩, ⟨by (with_reducible repeat (first | refine blk_drewN ?_ _ | refine blk_drew ?_ | refine blk_alloc ?_ _)); exact BK204.out⟩, ⟨by repeat (first | (with_reducible first | exact HB.out | apply below_alloc | apply pw_below_drewN | apply below_drew1 | refine below_set ?_ GE204.out) | exact HB.out)⟩⟩
      · replace c10 := Bool.eq_false_iff.mpr c10
        subst c10
        have H1 : (permafrostref08_Choose.j0 k a1 a2 l3 true a0_0 a0_1 a0_2 a0_3 a0_4) = some (r1, r2) := by rw [if_neg (show ¬ (false = true) by decide)] at H; exact H
        clear H
        have H := H1
        clear H1
        have H' := Aside0.mk H
        clear H
        have hcz17_0 : w6.cell? ⟨gb204, 0, none⟩ = some (.bool a0_0) := (blk_cell BK204.out 0).trans rfl
        have hcz17_1 : w6.cell? ⟨gb204, 1, none⟩ = some (.bool a0_1) := (blk_cell BK204.out 1).trans rfl
        have hcz17_2 : w6.cell? ⟨gb204, 2, none⟩ = some (.int .i64 a0_2) := (blk_cell BK204.out 2).trans rfl
        have hcz17_3 : w6.cell? ⟨gb204, 3, none⟩ = some (.int .i64 a0_3) := (blk_cell BK204.out 3).trans rfl
        have hcz17_4 : w6.cell? ⟨gb204, 4, none⟩ = some (.int .i64 a0_4) := (blk_cell BK204.out 4).trans rfl
        have hfz17_0 := blk_frozen BK204.out 0
        have hfz17_1 := blk_frozen BK204.out 1
        have hfz17_2 := blk_frozen BK204.out 2
        have hfz17_3 := blk_frozen BK204.out 3
        have hfz17_4 := blk_frozen BK204.out 4
        go_wp2_with (first | ((with_reducible refine gate_callee (f := 16) rfl ?_); refine goesL_ (some 11) rfl rfl Try.func16 (by kernel_rfl) rfl #[.agg #[.bool a0_0, .bool a0_1, .int .i64 a0_2, .int .i64 a0_3, .int .i64 a0_4]] rfl (by (try simp only [List.map_toArray, List.map_cons, List.map_nil]); first | done | rfl | (simp only [List.length_drop, List.length_take]; rfl)) ?_; (with_reducible refine (permafrostref08_Check.calls a0_0 a0_1 a0_2 a0_3 a0_4 t205 _ A7.out).mono ?_); rintro e w18 ⟨rfl, hb⟩; refine ⟨_, rfl, ?_⟩; have n0_ := Aside0.mk (blk_below (g := gb204) (o := .cells #[.bool a0_0, .bool a0_1, .int .i64 a0_2, .int .i64 a0_3, .int .i64 a0_4] 23 (0, 0)) (by (with_reducible repeat (first | refine blk_drewN ?_ _ | refine blk_drew ?_ | refine blk_alloc ?_ _)); exact BK204.out) hb); have n1_ := Aside0.mk (below_step (by repeat (first | (with_reducible first | exact HB.out | apply below_alloc | apply pw_below_drewN | apply below_drew1 | refine below_set ?_ GE204.out) | exact HB.out)) hb); clear BK204; clear HB; have BK204 := n0_; have HB := n1_; clear n0_ n1_; (try clear hb); (try clear hb2); (try clear hk); (try clear hi)) | (go_at_call 19; (with_reducible refine (permafrostref08_in.calls a1 1 false _ A9.out).mono ?_); rintro e w' ⟨rfl, ⟨nd, rfl⟩⟩))
        go_meet
        case rel => exact ⟨_, (true), (by first | rfl | (simp; done) | (simp [*]; done)), H', ⟨by first | omega | exact Nat.le_refl _⟩, ⟨by (with_reducible repeat (first | refine blk_drewN ?_ _ | refine blk_drew ?_ | refine blk_alloc ?_ _)); exact BK204.out⟩, ⟨by repeat (first | (with_reducible first | exact HB.out | apply below_alloc | apply pw_below_drewN | apply below_drew1 | refine below_set ?_ GE204.out) | exact HB.out)⟩⟩
    · rw [if_neg c8] at H
      have c8b0 : (t205 == 0) = false := beq_eq_false_iff_ne.mpr c8
      have c8b1 : (t205 != 0) = true := bne_iff_ne.mpr c8
      (first | rw [c8b0] | (simp only [i64_w, i32_w]; rw [c8b0]) | skip)
      have H' := Aside0.mk H
      clear H
      have hcz19_0 : w6.cell? ⟨gb204, 0, none⟩ = some (.bool a0_0) := (blk_cell BK204.out 0).trans rfl
      have hcz19_1 : w6.cell? ⟨gb204, 1, none⟩ = some (.bool a0_1) := (blk_cell BK204.out 1).trans rfl
      have hcz19_2 : w6.cell? ⟨gb204, 2, none⟩ = some (.int .i64 a0_2) := (blk_cell BK204.out 2).trans rfl
      have hcz19_3 : w6.cell? ⟨gb204, 3, none⟩ = some (.int .i64 a0_3) := (blk_cell BK204.out 3).trans rfl
      have hcz19_4 : w6.cell? ⟨gb204, 4, none⟩ = some (.int .i64 a0_4) := (blk_cell BK204.out 4).trans rfl
      have hfz19_0 := blk_frozen BK204.out 0
      have hfz19_1 := blk_frozen BK204.out 1
      have hfz19_2 := blk_frozen BK204.out 2
      have hfz19_3 := blk_frozen BK204.out 3
      have hfz19_4 := blk_frozen BK204.out 4
      go_wp2_with (first | ((with_reducible refine gate_callee (f := 16) rfl ?_); refine goesL_ (some 11) rfl rfl Try.func16 (by kernel_rfl) rfl #[.agg #[.bool a0_0, .bool a0_1, .int .i64 a0_2, .int .i64 a0_3, .int .i64 a0_4]] rfl (by (try simp only [List.map_toArray, List.map_cons, List.map_nil]); first | done | rfl | (simp only [List.length_drop, List.length_take]; rfl)) ?_; (with_reducible refine (permafrostref08_Check.calls a0_0 a0_1 a0_2 a0_3 a0_4 t205 _ A7.out).mono ?_); rintro e w20 ⟨rfl, hb⟩; refine ⟨_, rfl, ?_⟩; have n0_ := Aside0.mk (blk_below (g := gb204) (o := .cells #[.bool a0_0, .bool a0_1, .int .i64 a0_2, .int .i64 a0_3, .int .i64 a0_4] 23 (0, 0)) (by (with_reducible repeat (first | refine blk_drewN ?_ _ | refine blk_drew ?_ | refine blk_alloc ?_ _)); exact BK204.out) hb); have n1_ := Aside0.mk (below_step (by repeat (first | (with_reducible first | exact HB.out | apply below_alloc | apply pw_below_drewN | apply below_drew1 | refine below_set ?_ GE204.out) | exact HB.out)) hb); clear BK204; clear HB; have BK204 := n0_; have HB := n1_; clear n0_ n1_; (try clear hb); (try clear hb2); (try clear hk); (try clear hi)))
      go_meet
      case rel => exact ⟨_, (true), (by first | rfl | (simp; done) | (simp [*]; done)), H', ⟨by first | omega | exact Nat.le_refl _⟩, ⟨by (with_reducible repeat (first | refine blk_drewN ?_ _ | refine blk_drew ?_ | refine blk_alloc ?_ _)); exact BK204.out⟩, ⟨by repeat (first | (with_reducible first | exact HB.out | apply below_alloc | apply pw_below_drewN | apply below_drew1 | refine below_set ?_ GE204.out) | exact HB.out)⟩⟩
  case rest =>
    clear HC5
    try clear c1
    try clear p2
    try clear c3
    try clear c8
    try clear c8b0
    try clear c8b1
    try clear c10
    try clear c11
    try clear c12
    try clear c16
    try clear hcz13_0
    try clear hcz13_1
    try clear hcz13_2
    try clear hcz13_3
    try clear hcz13_4
    try clear hcz15_0
    try clear hcz15_1
    try clear hcz15_2
    try clear hcz15_3
    try clear hcz15_4
    try clear hcz17_0
    try clear hcz17_1
    try clear hcz17_2
    try clear hcz17_3
    try clear hcz17_4
    try clear hcz19_0
    try clear hcz19_1
    try clear hcz19_2
    try clear hcz19_3
    try clear hcz19_4
    try clear hfz13_0
    try clear hfz13_1
    try clear hfz13_2
    try clear hfz13_3
    try clear hfz13_4
    try clear hfz15_0
    try clear hfz15_1
    try clear hfz15_2
    try clear hfz15_3
    try clear hfz15_4
    try clear hfz17_0
    try clear hfz17_1
    try clear hfz17_2
    try clear hfz17_3
    try clear hfz17_4
    try clear hfz19_0
    try clear hfz19_1
    try clear hfz19_2
    try clear hfz19_3
    try clear hfz19_4
    obtain ⟨kq, x27_4, rfl, HA, HJ4, BK204, HB⟩ := hcut
    cases kq with
    | zero => exact absurd HA.out (by simp [permafrostref08_Choose.j0])
    | succ kj4 =>
      have H := HA.out
      clear HA
      simp only [permafrostref08_Choose.j0] at H
      by_cases c21 : x27_4 = true
      · subst c21
        have H1 : (some (([] : List Int), 1)) = some (r1, r2) := by rw [if_pos rfl] at H; exact H
        clear H
        have H := H1
        clear H1
        simp only [Option.some.injEq, Prod.mk.injEq] at H
        obtain ⟨rfl, rfl⟩ := H
        go_wp2
        go_ret2
        exact ⟨_, by first | rfl | (simp [errW_none, errW_some] <;> rfl) | (simp [*, errW_none, errW_some] <;> rfl), by first | exact Kd.R_nil _ _ _ _ _ | exact Kd.N_nil _ _ _ _ _ | exact Kd.V_nil _ _ _ _ _ | exact Kd.Q_nil _ _ _ _ _ | exact Kd.S_nil _ _ _ _ _, by repeat (first | (with_reducible first | exact HB.out | apply below_alloc | apply pw_below_drewN | apply below_drew1 | refine below_set ?_ GE204.out) | exact HB.out)⟩
      · replace c21 := Bool.eq_false_iff.mpr c21
        subst c21
        have H1 : (if 0 < (l3.length : Int) then (if (rd l3 0) < 0 then (permafrostref08_Choose.j1 kj4 a1 a2 l3 true a0_0 a0_1 a0_2 a0_3 a0_4) else (if 1 < (l3.length : Int) then (permafrostref08_Choose.j1 kj4 a1 a2 l3 (decide ((rd l3 1) < 0)) a0_0 a0_1 a0_2 a0_3 a0_4) else (none))) else (none)) = some (r1, r2) := by rw [if_neg (show ¬ (false = true) by decide)] at H; exact H
        clear H
        have H := H1
        clear H1
        have HC22 := Aside0.mk H
        clear H
        go_upto_region 3 with (fail)
        go_cut [37] (fun v37 wc => ∃ (kq : Nat) (x37_21 : Bool), v37 = .bool x37_21 ∧ Aside0 (permafrostref08_Choose.j1 kq a1 a2 l3 x37_21 a0_0 a0_1 a0_2 a0_3 a0_4 = some (r1, r2)) ∧ Aside0 (kq ≤ kj4) ∧ Aside0 (wc.heap[gb204]? = some (.cells #[.bool a0_0, .bool a0_1, .int .i64 a0_2, .int .i64 a0_3, .int .i64 a0_4] 23 (0, 0))) ∧ Aside0 (Below w.heap.size w wc))
        case first =>
          have H := HC22.out
          clear HC22
          by_cases c23 : 0 < (l3.length : Int)
          · rw [if_pos c23] at H
            have c23b0 : decide (0 < (l3.length : Int)) = true := decide_eq_true c23
            have c23b1 : decide (0 < l3.length) = true := decide_eq_true (by omega)
            clear c23
            (first | rw [c23b0] | (simp only [i64_w, i32_w]; rw [c23b0]) | skip)
            by_cases c24 : (rd l3 0) < 0
            · rw [if_pos c24] at H
              have c24b0 : decide ((rd l3 0) < 0) = true := decide_eq_true c24
              clear c24
              have H' := Aside0.mk H
              clear H
              have p208 : 0 ≤ (0 : Int) := (by omega)
              have q208 : 0 < (l3.length : Int) := of_decide_eq_true (by first | (with_reducible assumption) | assumption)
              obtain ⟨ad208, e208, hx208_0⟩ := Kd.at_int HR3.out 0 p208 q208
              cases e208
              have qi208 : (0 < l3.length) = True := eq_true (by omega)
              (try rw [show ((0 : Int)).toNat = 0 from rfl] at hx208_0)
              (try rw [Addr.add_zero'] at hx208_0)
              replace hx208_0 := (HB.out.cell (World.block_lt_of_cell? w _ hx208_0)).trans hx208_0
              replace p208 := eq_true p208
              replace q208 := eq_true q208
              go_wp2
              go_meet
              case rel => exact ⟨_, (true), (by first | rfl | (simp; done) | (simp [*]; done)), H', ⟨by have := HJ4.out; first | omega | exact Nat.le_refl _⟩, ⟨by (with_reducible repeat (first | refine blk_drewN ?_ _ | refine blk_drew ?_ | refine blk_alloc ?_ _)); exact BK204.out⟩, ⟨by repeat (first | (with_reducible first | exact HB.out | apply below_alloc | apply pw_below_drewN | apply below_drew1 | refine below_set ?_ GE204.out) | exact HB.out)⟩⟩
            · rw [if_neg c24] at H
              have c24b0 : decide ((rd l3 0) < 0) = false := decide_eq_false c24
              clear c24
              by_cases c25 : 1 < (l3.length : Int)
              · rw [if_pos c25] at H
                have c25b0 : decide (1 < (l3.length : Int)) = true := decide_eq_true c25
                have c25b1 : decide (1 < l3.length) = true := decide_eq_true (by omega)
                clear c25
                have H' := Aside0.mk H
                clear H
                have p208 : 0 ≤ (0 : Int) := (by omega)
                have q208 : 0 < (l3.length : Int) := of_decide_eq_true (by first | (with_reducible assumption) | assumption)
                obtain ⟨ad208, e208, hx208_0⟩ := Kd.at_int HR3.out 0 p208 q208
                cases e208
                have qi208 : (0 < l3.length) = True := eq_true (by omega)
                (try rw [show ((0 : Int)).toNat = 0 from rfl] at hx208_0)
                (try rw [Addr.add_zero'] at hx208_0)
                replace hx208_0 := (HB.out.cell (World.block_lt_of_cell? w _ hx208_0)).trans hx208_0
                replace p208 := eq_true p208
                replace q208 := eq_true q208
                have p209 : 0 ≤ (1 : Int) := (by omega)
                have q209 : 1 < (l3.length : Int) := of_decide_eq_true (by first | (with_reducible assumption) | assumption)
                obtain ⟨ad209, e209, hx209_0⟩ := Kd.at_int HR3.out 1 p209 q209
                obtain rfl : ad208 = ad209 := (by injection e209)
                (try simp only [show (1 : Int).toNat = 1 from rfl, Nat.reduceMul, Nat.reduceEqDiff, Go.Addr.add, ↓reduceIte] at hx209_0)
                have qi209 : (1 < l3.length) = True := eq_true (by omega)
                (try rw [show ((1 : Int)).toNat = 1 from rfl] at hx209_0)
                replace hx209_0 := (HB.out.cell (World.block_lt_of_cell? w _ hx209_0)).trans hx209_0
                replace p209 := eq_true p209
                replace q209 := eq_true q209
                go_wp2
                go_meet
                case rel => exact ⟨_, (decide ((rd l3 1) < 0)), (by first | rfl | (simp; done) | (simp [*]; done)), H', ⟨by have := HJ4.out; first | omega | exact Nat.le_refl _⟩, ⟨by (with_reducible repeat (first | refine blk_drewN ?_ _ | refine blk_drew ?_ | refine blk_alloc ?_ _)); exact BK204.out⟩, ⟨by repeat (first | (with_reducible first | exact HB.out | apply below_alloc | apply pw_below_drewN | apply below_drew1 | refine below_set ?_ GE204.out) | exact HB.out)⟩⟩
              · rw [if_neg c25] at H
                exact absurd H (by simp)
          · rw [if_neg c23] at H
            exact absurd H (by simp)
        case rest =>
          clear HC22
          try clear c1
          try clear c2
          try clear p2
          try clear q2
          try clear hx2
          try clear qi2
          try clear c3
          try clear c8
          try clear c8b0
          try clear c8b1
          try clear c10
          try clear c11
          try clear c12
          try clear c16
          try clear p20
          try clear q20
          try clear hx20
          try clear qi20
          try clear c21
          try clear c23
          try clear c23b0
          try clear c23b1
          try clear c24
          try clear c24b0
          try clear c25
          try clear c25b0
          try clear c25b1
          try clear hcz13_0
          try clear hcz13_1
          try clear hcz13_2
          try clear hcz13_3
          try clear hcz13_4
          try clear hcz15_0
          try clear hcz15_1
          try clear hcz15_2
          try clear hcz15_3
          try clear hcz15_4
          try clear hcz17_0
          try clear hcz17_1
          try clear hcz17_2
          try clear hcz17_3
          try clear hcz17_4
          try clear hcz19_0
          try clear hcz19_1
          try clear hcz19_2
          try clear hcz19_3
          try clear hcz19_4
          try clear hfz13_0
          try clear hfz13_1
          try clear hfz13_2
          try clear hfz13_3
          try clear hfz13_4
          try clear hfz15_0
          try clear hfz15_1
          try clear hfz15_2
          try clear hfz15_3
          try clear hfz15_4
          try clear hfz17_0
          try clear hfz17_1
          try clear hfz17_2
          try clear hfz17_3
          try clear hfz17_4
          try clear hfz19_0
          try clear hfz19_1
          try clear hfz19_2
          try clear hfz19_3
          try clear hfz19_4
          try clear hx208_0
          try clear hx209_0
          try clear p2
          try clear p208
          try clear p209
          try clear q208
          try clear q209
          obtain ⟨kq, x37_21, rfl, HA, HJ21, BK204, HB⟩ := hcut
          cases kq with
          | zero => exact absurd HA.out (by simp [permafrostref08_Choose.j1])
          | succ kj21 =>
            have H := HA.out
            clear HA
            simp only [permafrostref08_Choose.j1] at H
            by_cases c26 : x37_21 = true
            · subst c26
              have H1 : (some (([] : List Int), 1)) = some (r1, r2) := by rw [if_pos rfl] at H; exact H
              clear H
              have H := H1
              clear H1
              simp only [Option.some.injEq, Prod.mk.injEq] at H
              obtain ⟨rfl, rfl⟩ := H
              go_wp2
              go_ret2
              exact ⟨_, by first | rfl | (simp [errW_none, errW_some] <;> rfl) | (simp [*, errW_none, errW_some] <;> rfl), by first | exact Kd.R_nil _ _ _ _ _ | exact Kd.N_nil _ _ _ _ _ | exact Kd.V_nil _ _ _ _ _ | exact Kd.Q_nil _ _ _ _ _ | exact Kd.S_nil _ _ _ _ _, by repeat (first | (with_reducible first | exact HB.out | apply below_alloc | apply pw_below_drewN | apply below_drew1 | refine below_set ?_ GE204.out) | exact HB.out)⟩
            · replace c26 := Bool.eq_false_iff.mpr c26
              subst c26
              have H1 : ((permafrostref08_wants.f a0_0 a0_1 a0_2 a0_3 a0_4 a1 a2).bind fun t210 => (if t210 = true then (if 1 < (l3.length : Int) then (permafrostref08_Choose.j2 kj21 a1 l3 (decide ((rd l3 1) > 0)) a0_0 a0_1 a0_2 a0_3 a0_4) else (none)) else (permafrostref08_Choose.j2 kj21 a1 l3 false a0_0 a0_1 a0_2 a0_3 a0_4))) = some (r1, r2) := by rw [if_neg (show ¬ (false = true) by decide)] at H; exact H
              clear H
              have H := H1
              clear H1
              have HC27 := Aside0.mk H
              clear H
              go_upto_region 5 with (fail)
              go_cut [47] (fun v47 wc => ∃ (kq : Nat) (x47_26 : Bool), v47 = .bool x47_26 ∧ Aside0 (permafrostref08_Choose.j2 kq a1 l3 x47_26 a0_0 a0_1 a0_2 a0_3 a0_4 = some (r1, r2)) ∧ Aside0 (kq ≤ kj21) ∧ Aside0 (wc.heap[gb204]? = some (.cells #[.bool a0_0, .bool a0_1, .int .i64 a0_2, .int .i64 a0_3, .int .i64 a0_4] 23 (0, 0))) ∧ Aside0 (Below w.heap.size w wc))
              case first =>
                have H := HC27.out
                clear HC27
                replace H := Option.bind_eq_some_iff.mp H
                obtain ⟨t210, A280, H⟩ := H
                replace H : (if t210 = true then (if 1 < (l3.length : Int) then (permafrostref08_Choose.j2 kj21 a1 l3 (decide ((rd l3 1) > 0)) a0_0 a0_1 a0_2 a0_3 a0_4) else (none)) else (permafrostref08_Choose.j2 kj21 a1 l3 false a0_0 a0_1 a0_2 a0_3 a0_4)) = some (r1, r2) := H
                have A28 := Aside0.mk A280
                clear A280
                by_cases c29 : t210 = true
                · subst c29
                  have H1 : (if 1 < (l3.length : Int) then (permafrostref08_Choose.j2 kj21 a1 l3 (decide ((rd l3 1) > 0)) a0_0 a0_1 a0_2 a0_3 a0_4) else (none)) = some (r1, r2) := by rw [if_pos rfl] at H; exact H
                  clear H
                  have H := H1
                  clear H1
                  by_cases c30 : 1 < (l3.length : Int)
                  · rw [if_pos c30] at H
                    have c30b0 : decide (1 < (l3.length : Int)) = true := decide_eq_true c30
                    have c30b1 : decide (1 < l3.length) = true := decide_eq_true (by omega)
                    clear c30
                    (first | rw [c30b0] | (simp only [i64_w, i32_w]; rw [c30b0]) | skip)
                    have H' := Aside0.mk H
                    clear H
                    have hcz31_0 : wc.cell? ⟨gb204, 0, none⟩ = some (.bool a0_0) := (blk_cell BK204.out 0).trans rfl
                    have hcz31_1 : wc.cell? ⟨gb204, 1, none⟩ = some (.bool a0_1) := (blk_cell BK204.out 1).trans rfl
                    have hcz31_2 : wc.cell? ⟨gb204, 2, none⟩ = some (.int .i64 a0_2) := (blk_cell BK204.out 2).trans rfl
                    have hcz31_3 : wc.cell? ⟨gb204, 3, none⟩ = some (.int .i64 a0_3) := (blk_cell BK204.out 3).trans rfl
                    have hcz31_4 : wc.cell? ⟨gb204, 4, none⟩ = some (.int .i64 a0_4) := (blk_cell BK204.out 4).trans rfl
                    have hfz31_0 := blk_frozen BK204.out 0
                    have hfz31_1 := blk_frozen BK204.out 1
                    have hfz31_2 := blk_frozen BK204.out 2
                    have hfz31_3 := blk_frozen BK204.out 3
                    have hfz31_4 := blk_frozen BK204.out 4
                    go_wp2_with (first | ((with_reducible refine gate_callee (f := 20) rfl ?_); refine goesL_ (some 41) rfl rfl Try.func20 (by kernel_rfl) rfl #[.agg #[.bool a0_0, .bool a0_1, .int .i64 a0_2, .int .i64 a0_3, .int .i64 a0_4], .int .i64 a1, .int .i64 a2] rfl (by (try simp only [List.map_toArray, List.map_cons, List.map_nil]); first | done | rfl | (simp only [List.length_drop, List.length_take]; rfl)) ?_; (with_reducible refine (permafrostref08_wants.calls a0_0 a0_1 a0_2 a0_3 a0_4 a1 a2 true _ A28.out).mono ?_); rintro e w32 ⟨rfl, hb⟩; refine ⟨_, rfl, ?_⟩; have n0_ := Aside0.mk (blk_below (g := gb204) (o := .cells #[.bool a0_0, .bool a0_1, .int .i64 a0_2, .int .i64 a0_3, .int .i64 a0_4] 23 (0, 0)) (by (with_reducible repeat (first | refine blk_drewN ?_ _ | refine blk_drew ?_ | refine blk_alloc ?_ _)); exact BK204.out) hb); have n1_ := Aside0.mk (below_step (by repeat (first | (with_reducible first | exact HB.out | apply below_alloc | apply pw_below_drewN | apply below_drew1 | refine below_set ?_ GE204.out) | exact HB.out)) hb); clear BK204; clear HB; have BK204 := n0_; have HB := n1_; clear n0_ n1_; (try clear hb); (try clear hb2); (try clear hk); (try clear hi); have p211 : 0 ≤ (1 : Int) := (by omega); have q211 : 1 < (l3.length : Int) := of_decide_eq_true (by first | (with_reducible assumption) | assumption); obtain ⟨ad211, e211, hx211_0⟩ := Kd.at_int HR3.out 1 p211 q211; cases e211; (try simp only [show (1 : Int).toNat = 1 from rfl, Nat.reduceMul, Nat.reduceEqDiff, Go.Addr.add, ↓reduceIte] at hx211_0); have qi211 : (1 < l3.length) = True := eq_true (by omega); (try rw [show ((1 : Int)).toNat = 1 from rfl] at hx211_0); replace hx211_0 := (HB.out.cell (World.block_lt_of_cell? w _ hx211_0)).trans hx211_0; replace p211 := eq_true p211; replace q211 := eq_true q211))
                    go_meet
                    case rel => exact ⟨_, (decide ((rd l3 1) > 0)), (by first | rfl | (simp; done) | (simp [*]; done)), H', ⟨by have := HJ4.out; have := HJ21.out; first | omega | exact Nat.le_refl _⟩, ⟨by (with_reducible repeat (first | refine blk_drewN ?_ _ | refine blk_drew ?_ | refine blk_alloc ?_ _)); exact BK204.out⟩, ⟨by repeat (first | (with_reducible first | exact HB.out | apply below_alloc | apply pw_below_drewN | apply below_drew1 | refine below_set ?_ GE204.out) | exact HB.out)⟩⟩
                  · rw [if_neg c30] at H
                    exact absurd H (by simp)
                · replace c29 := Bool.eq_false_iff.mpr c29
                  subst c29
                  have H1 : (permafrostref08_Choose.j2 kj21 a1 l3 false a0_0 a0_1 a0_2 a0_3 a0_4) = some (r1, r2) := by rw [if_neg (show ¬ (false = true) by decide)] at H; exact H
                  clear H
                  have H := H1
                  clear H1
                  have H' := Aside0.mk H
                  clear H
                  have hcz33_0 : wc.cell? ⟨gb204, 0, none⟩ = some (.bool a0_0) := (blk_cell BK204.out 0).trans rfl
                  have hcz33_1 : wc.cell? ⟨gb204, 1, none⟩ = some (.bool a0_1) := (blk_cell BK204.out 1).trans rfl
                  have hcz33_2 : wc.cell? ⟨gb204, 2, none⟩ = some (.int .i64 a0_2) := (blk_cell BK204.out 2).trans rfl
                  have hcz33_3 : wc.cell? ⟨gb204, 3, none⟩ = some (.int .i64 a0_3) := (blk_cell BK204.out 3).trans rfl
                  have hcz33_4 : wc.cell? ⟨gb204, 4, none⟩ = some (.int .i64 a0_4) := (blk_cell BK204.out 4).trans rfl
                  have hfz33_0 := blk_frozen BK204.out 0
                  have hfz33_1 := blk_frozen BK204.out 1
                  have hfz33_2 := blk_frozen BK204.out 2
                  have hfz33_3 := blk_frozen BK204.out 3
                  have hfz33_4 := blk_frozen BK204.out 4
                  go_wp2_with (first | ((with_reducible refine gate_callee (f := 20) rfl ?_); refine goesL_ (some 41) rfl rfl Try.func20 (by kernel_rfl) rfl #[.agg #[.bool a0_0, .bool a0_1, .int .i64 a0_2, .int .i64 a0_3, .int .i64 a0_4], .int .i64 a1, .int .i64 a2] rfl (by (try simp only [List.map_toArray, List.map_cons, List.map_nil]); first | done | rfl | (simp only [List.length_drop, List.length_take]; rfl)) ?_; (with_reducible refine (permafrostref08_wants.calls a0_0 a0_1 a0_2 a0_3 a0_4 a1 a2 false _ A28.out).mono ?_); rintro e w34 ⟨rfl, hb⟩; refine ⟨_, rfl, ?_⟩; have n0_ := Aside0.mk (blk_below (g := gb204) (o := .cells #[.bool a0_0, .bool a0_1, .int .i64 a0_2, .int .i64 a0_3, .int .i64 a0_4] 23 (0, 0)) (by (with_reducible repeat (first | refine blk_drewN ?_ _ | refine blk_drew ?_ | refine blk_alloc ?_ _)); exact BK204.out) hb); have n1_ := Aside0.mk (below_step (by repeat (first | (with_reducible first | exact HB.out | apply below_alloc | apply pw_below_drewN | apply below_drew1 | refine below_set ?_ GE204.out) | exact HB.out)) hb); clear BK204; clear HB; have BK204 := n0_; have HB := n1_; clear n0_ n1_; (try clear hb); (try clear hb2); (try clear hk); (try clear hi)))
                  go_meet
                  case rel => exact ⟨_, (false), (by first | rfl | (simp; done) | (simp [*]; done)), H', ⟨by have := HJ4.out; have := HJ21.out; first | omega | exact Nat.le_refl _⟩, ⟨by (with_reducible repeat (first | refine blk_drewN ?_ _ | refine blk_drew ?_ | refine blk_alloc ?_ _)); exact BK204.out⟩, ⟨by repeat (first | (with_reducible first | exact HB.out | apply below_alloc | apply pw_below_drewN | apply below_drew1 | refine below_set ?_ GE204.out) | exact HB.out)⟩⟩
              case rest =>
                clear HC27
                try clear c1
                try clear c2
                try clear p2
                try clear q2
                try clear hx2
                try clear qi2
                try clear c3
                try clear c8
                try clear c8b0
                try clear c8b1
                try clear c10
                try clear c11
                try clear c12
                try clear c16
                try clear c20
                try clear p20
                try clear q20
                try clear hx20
                try clear qi20
                try clear c21
                try clear p21
                try clear q21
                try clear hx21
                try clear qi21
                try clear c23
                try clear c23b0
                try clear c23b1
                try clear c24
                try clear c24b0
                try clear c25
                try clear c25b0
                try clear c25b1
                try clear c26
                try clear c29
                try clear c30
                try clear c30b0
                try clear c30b1
                try clear hcz13_0
                try clear hcz13_1
                try clear hcz13_2
                try clear hcz13_3
                try clear hcz13_4
                try clear hcz15_0
                try clear hcz15_1
                try clear hcz15_2
                try clear hcz15_3
                try clear hcz15_4
                try clear hcz17_0
                try clear hcz17_1
                try clear hcz17_2
                try clear hcz17_3
                try clear hcz17_4
                try clear hcz19_0
                try clear hcz19_1
                try clear hcz19_2
                try clear hcz19_3
                try clear hcz19_4
                try clear hcz31_0
                try clear hcz31_1
                try clear hcz31_2
                try clear hcz31_3
                try clear hcz31_4
                try clear hcz33_0
                try clear hcz33_1
                try clear hcz33_2
                try clear hcz33_3
                try clear hcz33_4
                try clear hfz13_0
                try clear hfz13_1
                try clear hfz13_2
                try clear hfz13_3
                try clear hfz13_4
                try clear hfz15_0
                try clear hfz15_1
                try clear hfz15_2
                try clear hfz15_3
                try clear hfz15_4
                try clear hfz17_0
                try clear hfz17_1
                try clear hfz17_2
                try clear hfz17_3
                try clear hfz17_4
                try clear hfz19_0
                try clear hfz19_1
                try clear hfz19_2
                try clear hfz19_3
                try clear hfz19_4
                try clear hfz31_0
                try clear hfz31_1
                try clear hfz31_2
                try clear hfz31_3
                try clear hfz31_4
                try clear hfz33_0
                try clear hfz33_1
                try clear hfz33_2
                try clear hfz33_3
                try clear hfz33_4
                try clear hx208_0
                try clear hx209_0
                try clear hx211_0
                try clear p2
                try clear p20
                try clear p208
                try clear p209
                try clear p211
                try clear q2
                try clear q20
                try clear q208
                try clear q209
                try clear q211
                obtain ⟨kq, x47_26, rfl, HA, HJ26, BK204, HB⟩ := hcut
                cases kq with
                | zero => exact absurd HA.out (by simp [permafrostref08_Choose.j2])
                | succ kj26 =>
                  have H := HA.out
                  clear HA
                  simp only [permafrostref08_Choose.j2] at H
                  by_cases c35 : x47_26 = true
                  · subst c35
                    have H1 : (if a1 = 0 then (if a0_1 = true then (if 0 < (l3.length : Int) then (permafrostref08_Choose.j3 kj26 (decide ((rd l3 0) > 0))) else (none)) else (permafrostref08_Choose.j3 kj26 false)) else (permafrostref08_Choose.j3 kj26 false)) = some (r1, r2) := by rw [if_pos rfl] at H; exact H
                    clear H
                    have H := H1
                    clear H1
                    have HC36 := Aside0.mk H
                    clear H
                    go_upto_region 6 with (fail)
                    go_cut [59] (fun v59 wc => ∃ (kq : Nat) (x59_35 : Bool), v59 = .bool x59_35 ∧ Aside0 (permafrostref08_Choose.j3 kq x59_35 = some (r1, r2)) ∧ Aside0 (kq ≤ kj26) ∧ Aside0 (wc.heap[gb204]? = some (.cells #[.bool a0_0, .bool a0_1, .int .i64 a0_2, .int .i64 a0_3, .int .i64 a0_4] 23 (0, 0))) ∧ Aside0 (Below w.heap.size w wc))
                    case first =>
                      have H := HC36.out
                      clear HC36
                      by_cases c37 : a1 = 0
                      · rw [if_pos c37] at H
                        have c37b0 : (a1 == 0) = true := beq_iff_eq.mpr c37
                        have c37b1 : (a1 != 0) = false := bne_eq_false_iff_eq.mpr c37
                        clear c37
                        (first | rw [c37b0] | (simp only [i64_w, i32_w]; rw [c37b0]) | skip)
                        by_cases c38 : a0_1 = true
                        · subst c38
                          have H1 : (if 0 < (l3.length : Int) then (permafrostref08_Choose.j3 kj26 (decide ((rd l3 0) > 0))) else (none)) = some (r1, r2) := by rw [if_pos rfl] at H; exact H
                          clear H
                          have H := H1
                          clear H1
                          by_cases c39 : 0 < (l3.length : Int)
                          · rw [if_pos c39] at H
                            have c39b0 : decide (0 < (l3.length : Int)) = true := decide_eq_true c39
                            have c39b1 : decide (0 < l3.length) = true := decide_eq_true (by omega)
                            clear c39
                            have H' := Aside0.mk H
                            clear H
                            have hcz40_0 : wc.cell? ⟨gb204, 0, none⟩ = some (.bool a0_0) := (blk_cell BK204.out 0).trans rfl
                            have hcz40_1 : wc.cell? ⟨gb204, 1, none⟩ = some (.bool true) := (blk_cell BK204.out 1).trans rfl
                            have hcz40_2 : wc.cell? ⟨gb204, 2, none⟩ = some (.int .i64 a0_2) := (blk_cell BK204.out 2).trans rfl
                            have hcz40_3 : wc.cell? ⟨gb204, 3, none⟩ = some (.int .i64 a0_3) := (blk_cell BK204.out 3).trans rfl
                            have hcz40_4 : wc.cell? ⟨gb204, 4, none⟩ = some (.int .i64 a0_4) := (blk_cell BK204.out 4).trans rfl
                            have hfz40_0 := blk_frozen BK204.out 0
                            have hfz40_1 := blk_frozen BK204.out 1
                            have hfz40_2 := blk_frozen BK204.out 2
                            have hfz40_3 := blk_frozen BK204.out 3
                            have hfz40_4 := blk_frozen BK204.out 4
                            have p212 : 0 ≤ (0 : Int) := (by omega)
                            have q212 : 0 < (l3.length : Int) := of_decide_eq_true (by first | (with_reducible assumption) | assumption)
                            obtain ⟨ad212, e212, hx212_0⟩ := Kd.at_int HR3.out 0 p212 q212
                            cases e212
                            have qi212 : (0 < l3.length) = True := eq_true (by omega)
                            (try rw [show ((0 : Int)).toNat = 0 from rfl] at hx212_0)
                            (try rw [Addr.add_zero'] at hx212_0)
                            replace hx212_0 := (HB.out.cell (World.block_lt_of_cell? w _ hx212_0)).trans hx212_0
                            replace p212 := eq_true p212
                            replace q212 := eq_true q212
                            go_wp2
                            go_meet
                            case rel => exact ⟨_, (decide ((rd l3 0) > 0)), (by first | rfl | (simp; done) | (simp [*]; done)), H', ⟨by have := HJ4.out; have := HJ21.out; have := HJ26.out; first | omega | exact Nat.le_refl _⟩, ⟨by (with_reducible repeat (first | refine blk_drewN ?_ _ | refine blk_drew ?_ | refine blk_alloc ?_ _)); exact BK204.out⟩, ⟨by repeat (first | (with_reducible first | exact HB.out | apply below_alloc | apply pw_below_drewN | apply below_drew1 | refine below_set ?_ GE204.out) | exact HB.out)⟩⟩
                          · rw [if_neg c39] at H
                            exact absurd H (by simp)
                        · replace c38 := Bool.eq_false_iff.mpr c38
                          subst c38
                          have H1 : (permafrostref08_Choose.j3 kj26 false) = some (r1, r2) := by rw [if_neg (show ¬ (false = true) by decide)] at H; exact H
                          clear H
                          have H := H1
                          clear H1
                          have H' := Aside0.mk H
                          clear H
                          have hcz41_0 : wc.cell? ⟨gb204, 0, none⟩ = some (.bool a0_0) := (blk_cell BK204.out 0).trans rfl
                          have hcz41_1 : wc.cell? ⟨gb204, 1, none⟩ = some (.bool false) := (blk_cell BK204.out 1).trans rfl
                          have hcz41_2 : wc.cell? ⟨gb204, 2, none⟩ = some (.int .i64 a0_2) := (blk_cell BK204.out 2).trans rfl
                          have hcz41_3 : wc.cell? ⟨gb204, 3, none⟩ = some (.int .i64 a0_3) := (blk_cell BK204.out 3).trans rfl
                          have hcz41_4 : wc.cell? ⟨gb204, 4, none⟩ = some (.int .i64 a0_4) := (blk_cell BK204.out 4).trans rfl
                          have hfz41_0 := blk_frozen BK204.out 0
                          have hfz41_1 := blk_frozen BK204.out 1
                          have hfz41_2 := blk_frozen BK204.out 2
                          have hfz41_3 := blk_frozen BK204.out 3
                          have hfz41_4 := blk_frozen BK204.out 4
                          go_wp2
                          go_meet
                          case rel => exact ⟨_, (false), (by first | rfl | (simp; done) | (simp [*]; done)), H', ⟨by have := HJ4.out; have := HJ21.out; have := HJ26.out; first | omega | exact Nat.le_refl _⟩, ⟨by (with_reducible repeat (first | refine blk_drewN ?_ _ | refine blk_drew ?_ | refine blk_alloc ?_ _)); exact BK204.out⟩, ⟨by repeat (first | (with_reducible first | exact HB.out | apply below_alloc | apply pw_below_drewN | apply below_drew1 | refine below_set ?_ GE204.out) | exact HB.out)⟩⟩
                      · rw [if_neg c37] at H
                        have c37b0 : (a1 == 0) = false := beq_eq_false_iff_ne.mpr c37
                        have c37b1 : (a1 != 0) = true := bne_iff_ne.mpr c37
                        (first | rw [c37b0] | (simp only [i64_w, i32_w]; rw [c37b0]) | skip)
                        have H' := Aside0.mk H
                        clear H
                        go_wp2
                        go_meet
                        case rel => exact ⟨_, (false), (by first | rfl | (simp; done) | (simp [*]; done)), H', ⟨by have := HJ4.out; have := HJ21.out; have := HJ26.out; first | omega | exact Nat.le_refl _⟩, ⟨by (with_reducible repeat (first | refine blk_drewN ?_ _ | refine blk_drew ?_ | refine blk_alloc ?_ _)); exact BK204.out⟩, ⟨by repeat (first | (with_reducible first | exact HB.out | apply below_alloc | apply pw_below_drewN | apply below_drew1 | refine below_set ?_ GE204.out) | exact HB.out)⟩⟩
                    case rest =>
                      clear HC36
                      try clear c1
                      try clear c2
                      try clear p2
                      try clear q2
                      try clear hx2
                      try clear qi2
                      try clear c3
                      try clear c8
                      try clear c8b0
                      try clear c8b1
                      try clear c10
                      try clear c11
                      try clear c12
                      try clear c16
                      try clear c20
                      try clear p20
                      try clear q20
                      try clear hx20
                      try clear qi20
                      try clear c21
                      try clear p21
                      try clear q21
                      try clear hx21
                      try clear qi21
                      try clear c23
                      try clear c23b0
                      try clear c23b1
                      try clear c24
                      try clear c24b0
                      try clear c25
                      try clear c25b0
                      try clear c25b1
                      try clear c26
                      try clear c29
                      try clear c30
                      try clear c30b0
                      try clear c30b1
                      try clear c35
                      try clear c37
                      try clear c37b0
                      try clear c37b1
                      try clear c38
                      try clear c39
                      try clear c39b0
                      try clear c39b1
                      try clear hcz13_0
                      try clear hcz13_1
                      try clear hcz13_2
                      try clear hcz13_3
                      try clear hcz13_4
                      try clear hcz15_0
                      try clear hcz15_1
                      try clear hcz15_2
                      try clear hcz15_3
                      try clear hcz15_4
                      try clear hcz17_0
                      try clear hcz17_1
                      try clear hcz17_2
                      try clear hcz17_3
                      try clear hcz17_4
                      try clear hcz19_0
                      try clear hcz19_1
                      try clear hcz19_2
                      try clear hcz19_3
                      try clear hcz19_4
                      try clear hcz31_0
                      try clear hcz31_1
                      try clear hcz31_2
                      try clear hcz31_3
                      try clear hcz31_4
                      try clear hcz33_0
                      try clear hcz33_1
                      try clear hcz33_2
                      try clear hcz33_3
                      try clear hcz33_4
                      try clear hcz40_0
                      try clear hcz40_1
                      try clear hcz40_2
                      try clear hcz40_3
                      try clear hcz40_4
                      try clear hcz41_0
                      try clear hcz41_1
                      try clear hcz41_2
                      try clear hcz41_3
                      try clear hcz41_4
                      try clear hfz13_0
                      try clear hfz13_1
                      try clear hfz13_2
                      try clear hfz13_3
                      try clear hfz13_4
                      try clear hfz15_0
                      try clear hfz15_1
                      try clear hfz15_2
                      try clear hfz15_3
                      try clear hfz15_4
                      try clear hfz17_0
                      try clear hfz17_1
                      try clear hfz17_2
                      try clear hfz17_3
                      try clear hfz17_4
                      try clear hfz19_0
                      try clear hfz19_1
                      try clear hfz19_2
                      try clear hfz19_3
                      try clear hfz19_4
                      try clear hfz31_0
                      try clear hfz31_1
                      try clear hfz31_2
                      try clear hfz31_3
                      try clear hfz31_4
                      try clear hfz33_0
                      try clear hfz33_1
                      try clear hfz33_2
                      try clear hfz33_3
                      try clear hfz33_4
                      try clear hfz40_0
                      try clear hfz40_1
                      try clear hfz40_2
                      try clear hfz40_3
                      try clear hfz40_4
                      try clear hfz41_0
                      try clear hfz41_1
                      try clear hfz41_2
                      try clear hfz41_3
                      try clear hfz41_4
                      try clear hx208_0
                      try clear hx209_0
                      try clear hx211_0
                      try clear hx212_0
                      try clear p2
                      try clear p20
                      try clear p208
                      try clear p209
                      try clear p21
                      try clear p211
                      try clear p212
                      try clear q2
                      try clear q20
                      try clear q208
                      try clear q209
                      try clear q21
                      try clear q211
                      try clear q212
                      obtain ⟨kq, x59_35, rfl, HA, HJ35, BK204, HB⟩ := hcut
                      cases kq with
                      | zero => exact absurd HA.out (by simp [permafrostref08_Choose.j3])
                      | succ kj35 =>
                        have H := HA.out
                        clear HA
                        simp only [permafrostref08_Choose.j3] at H
                        by_cases c42 : x59_35 = true
                        · subst c42
                          have H1 : (some ((([1, 0] : List Int)), 0)) = some (r1, r2) := by rw [if_pos rfl] at H; exact H
                          clear H
                          have H := H1
                          clear H1
                          obtain ⟨y213, hy213⟩ : ∃ y_ : List Int, y_ = (([1, 0] : List Int)) := ⟨_, rfl⟩
                          replace H : (some (y213, 0)) = some (r1, r2) := by first | (rw [hy213]; with_reducible exact H) | (have H2_ := (Option.bind_some _ _).symm.trans H; rw [hy213]; with_reducible exact H2_) | (have H2_ := (Option.bind_some _ _).symm.trans H; with_reducible exact H2_) | with_reducible exact H | (rw [hy213]; exact H) | exact H
                          have Ny213 := Aside0.mk hy213
                          clear hy213
                          simp only [Option.some.injEq, Prod.mk.injEq] at H
                          obtain ⟨rfl, rfl⟩ := H
                          go_wp2_with (first | ((with_reducible refine gate_dst (N := 60) rfl ?_); (try (refine gate_guard (by rfl) ?_; dsimp only)); refine Kd.R_lit (Kd.int .i64) _ 3 ?hg (N := 60) ?hd (xs := ([1, 0] : List Int)) (inner := [.int .i64 1, .int .i64 0]) (ok := fun _ => True) (okp := fun _ => True) ?hr ?hp (fun _ hk => hk) trivial (Below.refl _ _) (Nat.le_refl _) (by simp) ?_; (case hd => rfl); (case hg => rfl); (case hr => first | (go_simp; done) | (go_simp; rfl)); (case hp => exact (Reps.one (show Kd.M (Kd.int .i64) _ _ _ 1 [.int .i64 1] from rfl) (Reps.one (show Kd.M (Kd.int .i64) _ _ _ 0 [.int .i64 0] from rfl) (Reps.none _ _)))); intro v214 w43 ho44 hb hg_ hnew_; clear hg_ hnew_; (first | rw [← Ny213.out] at ho44 | (simp only [Int.reduceToNat] at ho44; rw [← Ny213.out] at ho44)); have n0_ := Aside0.mk (Kd.R_lower ho44 (below_size (by repeat (first | (with_reducible first | exact HB.out | apply below_alloc | apply pw_below_drewN | apply below_drew1 | refine below_set ?_ GE204.out) | exact HB.out)))); have n1_ := Aside0.mk (blk_below (g := gb204) (o := .cells #[.bool a0_0, .bool a0_1, .int .i64 a0_2, .int .i64 a0_3, .int .i64 a0_4] 23 (0, 0)) (by (with_reducible repeat (first | refine blk_drewN ?_ _ | refine blk_drew ?_ | refine blk_alloc ?_ _)); exact BK204.out) hb); have n2_ := Aside0.mk (below_step (by repeat (first | (with_reducible first | exact HB.out | apply below_alloc | apply pw_below_drewN | apply below_drew1 | refine below_set ?_ GE204.out) | exact HB.out)) hb); clear BK204; clear HB; have HO215 := n0_; have BK204 := n1_; have HB := n2_; clear n0_ n1_ n2_; clear hb ho44))
                          go_ret2
                          exact ⟨_, by first | rfl | (simp [errW_none, errW_some] <;> rfl) | (simp [*, errW_none, errW_some] <;> rfl), by (with_reducible repeat (first | apply Kd.R_alloc | apply Kd.R_drewN | apply Kd.R_drew)); exact HO215.out, by repeat (first | (with_reducible first | exact HB.out | apply below_alloc | apply pw_below_drewN | apply below_drew1 | refine below_set ?_ GE204.out) | exact HB.out)⟩
                        · replace c42 := Bool.eq_false_iff.mpr c42
                          subst c42
                          have H1 : (some ((([1] : List Int)), 0)) = some (r1, r2) := by rw [if_neg (show ¬ (false = true) by decide)] at H; exact H
                          clear H
                          have H := H1
                          clear H1
                          obtain ⟨y216, hy216⟩ : ∃ y_ : List Int, y_ = (([1] : List Int)) := ⟨_, rfl⟩
                          replace H : (some (y216, 0)) = some (r1, r2) := by first | (rw [hy216]; with_reducible exact H) | (have H2_ := (Option.bind_some _ _).symm.trans H; rw [hy216]; with_reducible exact H2_) | (have H2_ := (Option.bind_some _ _).symm.trans H; with_reducible exact H2_) | with_reducible exact H | (rw [hy216]; exact H) | exact H
                          have Ny216 := Aside0.mk hy216
                          clear hy216
                          simp only [Option.some.injEq, Prod.mk.injEq] at H
                          obtain ⟨rfl, rfl⟩ := H
                          go_wp2_with (first | ((with_reducible refine gate_dst (N := 61) rfl ?_); (try (refine gate_guard (by rfl) ?_; dsimp only)); refine Kd.R_lit (Kd.int .i64) _ 3 ?hg (N := 61) ?hd (xs := ([1] : List Int)) (inner := [.int .i64 1]) (ok := fun _ => True) (okp := fun _ => True) ?hr ?hp (fun _ hk => hk) trivial (Below.refl _ _) (Nat.le_refl _) (by simp) ?_; (case hd => rfl); (case hg => rfl); (case hr => first | (go_simp; done) | (go_simp; rfl)); (case hp => exact (Reps.one (show Kd.M (Kd.int .i64) _ _ _ 1 [.int .i64 1] from rfl) (Reps.none _ _))); intro v217 w45 ho46 hb hg_ hnew_; clear hg_ hnew_; (first | rw [← Ny216.out] at ho46 | (simp only [Int.reduceToNat] at ho46; rw [← Ny216.out] at ho46)); have n0_ := Aside0.mk (Kd.R_lower ho46 (below_size (by repeat (first | (with_reducible first | exact HB.out | apply below_alloc | apply pw_below_drewN | apply below_drew1 | refine below_set ?_ GE204.out) | exact HB.out)))); have n1_ := Aside0.mk (blk_below (g := gb204) (o := .cells #[.bool a0_0, .bool a0_1, .int .i64 a0_2, .int .i64 a0_3, .int .i64 a0_4] 23 (0, 0)) (by (with_reducible repeat (first | refine blk_drewN ?_ _ | refine blk_drew ?_ | refine blk_alloc ?_ _)); exact BK204.out) hb); have n2_ := Aside0.mk (below_step (by repeat (first | (with_reducible first | exact HB.out | apply below_alloc | apply pw_below_drewN | apply below_drew1 | refine below_set ?_ GE204.out) | exact HB.out)) hb); clear BK204; clear HB; have HO218 := n0_; have BK204 := n1_; have HB := n2_; clear n0_ n1_ n2_; clear hb ho46))
                          go_ret2
                          exact ⟨_, by first | rfl | (simp [errW_none, errW_some] <;> rfl) | (simp [*, errW_none, errW_some] <;> rfl), by (with_reducible repeat (first | apply Kd.R_alloc | apply Kd.R_drewN | apply Kd.R_drew)); exact HO218.out, by repeat (first | (with_reducible first | exact HB.out | apply below_alloc | apply pw_below_drewN | apply below_drew1 | refine below_set ?_ GE204.out) | exact HB.out)⟩
                  · replace c35 := Bool.eq_false_iff.mpr c35
                    subst c35
                    have H1 : (if 0 < (l3.length : Int) then (if (rd l3 0) > 0 then (some ((([0] : List Int)), 0)) else (some (([] : List Int), 6))) else (none)) = some (r1, r2) := by rw [if_neg (show ¬ (false = true) by decide)] at H; exact H
                    clear H
                    have H := H1
                    clear H1
                    by_cases c47 : 0 < (l3.length : Int)
                    · rw [if_pos c47] at H
                      have c47b0 : decide (0 < (l3.length : Int)) = true := decide_eq_true c47
                      have c47b1 : decide (0 < l3.length) = true := decide_eq_true (by omega)
                      clear c47
                      by_cases c48 : (rd l3 0) > 0
                      · rw [if_pos c48] at H
                        have c48b0 : decide (0 < (rd l3 0)) = true := decide_eq_true c48
                        clear c48
                        obtain ⟨y220, hy220⟩ : ∃ y_ : List Int, y_ = (([0] : List Int)) := ⟨_, rfl⟩
                        replace H : (some (y220, 0)) = some (r1, r2) := by first | (rw [hy220]; with_reducible exact H) | (have H2_ := (Option.bind_some _ _).symm.trans H; rw [hy220]; with_reducible exact H2_) | (have H2_ := (Option.bind_some _ _).symm.trans H; with_reducible exact H2_) | with_reducible exact H | (rw [hy220]; exact H) | exact H
                        have Ny220 := Aside0.mk hy220
                        clear hy220
                        simp only [Option.some.injEq, Prod.mk.injEq] at H
                        obtain ⟨rfl, rfl⟩ := H
                        have p219 : 0 ≤ (0 : Int) := (by omega)
                        have q219 : 0 < (l3.length : Int) := of_decide_eq_true (by first | (with_reducible assumption) | assumption)
                        obtain ⟨ad219, e219, hx219_0⟩ := Kd.at_int HR3.out 0 p219 q219
                        cases e219
                        have qi219 : (0 < l3.length) = True := eq_true (by omega)
                        (try rw [show ((0 : Int)).toNat = 0 from rfl] at hx219_0)
                        (try rw [Addr.add_zero'] at hx219_0)
                        replace hx219_0 := (HB.out.cell (World.block_lt_of_cell? w _ hx219_0)).trans hx219_0
                        replace p219 := eq_true p219
                        replace q219 := eq_true q219
                        go_wp2_with (first | ((with_reducible refine gate_dst (N := 66) rfl ?_); (try (refine gate_guard (by rfl) ?_; dsimp only)); refine Kd.R_lit (Kd.int .i64) _ 3 ?hg (N := 66) ?hd (xs := ([0] : List Int)) (inner := [.int .i64 0]) (ok := fun _ => True) (okp := fun _ => True) ?hr ?hp (fun _ hk => hk) trivial (Below.refl _ _) (Nat.le_refl _) (by simp) ?_; (case hd => rfl); (case hg => rfl); (case hr => first | (go_simp; done) | (go_simp; rfl)); (case hp => exact (Reps.one (show Kd.M (Kd.int .i64) _ _ _ 0 [.int .i64 0] from rfl) (Reps.none _ _))); intro v221 w49 ho50 hb hg_ hnew_; clear hg_ hnew_; (first | rw [← Ny220.out] at ho50 | (simp only [Int.reduceToNat] at ho50; rw [← Ny220.out] at ho50)); have n0_ := Aside0.mk (Kd.R_lower ho50 (below_size (by repeat (first | (with_reducible first | exact HB.out | apply below_alloc | apply pw_below_drewN | apply below_drew1 | refine below_set ?_ GE204.out) | exact HB.out)))); have n1_ := Aside0.mk (blk_below (g := gb204) (o := .cells #[.bool a0_0, .bool a0_1, .int .i64 a0_2, .int .i64 a0_3, .int .i64 a0_4] 23 (0, 0)) (by (with_reducible repeat (first | refine blk_drewN ?_ _ | refine blk_drew ?_ | refine blk_alloc ?_ _)); exact BK204.out) hb); have n2_ := Aside0.mk (below_step (by repeat (first | (with_reducible first | exact HB.out | apply below_alloc | apply pw_below_drewN | apply below_drew1 | refine below_set ?_ GE204.out) | exact HB.out)) hb); clear BK204; clear HB; have HO222 := n0_; have BK204 := n1_; have HB := n2_; clear n0_ n1_ n2_; clear hb ho50))
                        go_ret2
                        exact ⟨_, by first | rfl | (simp [errW_none, errW_some] <;> rfl) | (simp [*, errW_none, errW_some] <;> rfl), by (with_reducible repeat (first | apply Kd.R_alloc | apply Kd.R_drewN | apply Kd.R_drew)); exact HO222.out, by repeat (first | (with_reducible first | exact HB.out | apply below_alloc | apply pw_below_drewN | apply below_drew1 | refine below_set ?_ GE204.out) | exact HB.out)⟩
                      · rw [if_neg c48] at H
                        have c48b0 : decide (0 < (rd l3 0)) = false := decide_eq_false c48
                        clear c48
                        simp only [Option.some.injEq, Prod.mk.injEq] at H
                        obtain ⟨rfl, rfl⟩ := H
                        have p219 : 0 ≤ (0 : Int) := (by omega)
                        have q219 : 0 < (l3.length : Int) := of_decide_eq_true (by first | (with_reducible assumption) | assumption)
                        obtain ⟨ad219, e219, hx219_0⟩ := Kd.at_int HR3.out 0 p219 q219
                        cases e219
                        have qi219 : (0 < l3.length) = True := eq_true (by omega)
                        (try rw [show ((0 : Int)).toNat = 0 from rfl] at hx219_0)
                        (try rw [Addr.add_zero'] at hx219_0)
                        replace hx219_0 := (HB.out.cell (World.block_lt_of_cell? w _ hx219_0)).trans hx219_0
                        replace p219 := eq_true p219
                        replace q219 := eq_true q219
                        go_wp2
                        go_ret2
                        exact ⟨_, by first | rfl | (simp [errW_none, errW_some] <;> rfl) | (simp [*, errW_none, errW_some] <;> rfl), by first | exact Kd.R_nil _ _ _ _ _ | exact Kd.N_nil _ _ _ _ _ | exact Kd.V_nil _ _ _ _ _ | exact Kd.Q_nil _ _ _ _ _ | exact Kd.S_nil _ _ _ _ _, by repeat (first | (with_reducible first | exact HB.out | apply below_alloc | apply pw_below_drewN | apply below_drew1 | refine below_set ?_ GE204.out) | exact HB.out)⟩
                    · rw [if_neg c47] at H
                      exact absurd H (by simp)

end Go.Proofs.Ytacplkanjhjbpaa.PClassChooses
