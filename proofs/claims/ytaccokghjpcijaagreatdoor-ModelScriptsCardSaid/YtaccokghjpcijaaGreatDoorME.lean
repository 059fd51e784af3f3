import Derived.Test.YtaccokghjpcijaaGreatDoorMC
import Derived.Deep.QuietTactic
import Derived.BigQuiet
import Derived.StillTailTactics
import Derived.Test.YtaccokghjpcijaaGreatDoorMD
import Derived.Deep.RegionWith
import Derived.BigRegion
import Derived.RegionTactic
set_option linter.unusedVariables false
set_option linter.unusedSimpArgs false
namespace Go.Proofs.YtaccokghjpcijaaGreatDoor
open Go Go.RowKit Pp Go.Proofs.YtaccokghjpcijaaGreatDoorW.PrintWords Go.Proofs.YtaccokghjpcijaaGreatDoorW.PrintLast Go.Proofs.YtaccokghjpcijaaGreatDoorW.PrintMore
attribute [local go_sem] max2_int min2_int max_two min_two

theorem OpAt.drewN {W0 W : World} {F : Nat → Prop} {o : Ask} (h : OpAt W0 F o W) (n : Nat) : OpAt W0 F o (W.drewN n) := ⟨h.box, h.ans, h.size, h.fr.drewN n⟩
theorem ans_data {F : Nat → Prop} {W : World} {n m : Int} {d : ByteArray} {data : Str} (hd : d = mk data) (hn : n = m) : AnsAt F W (.returned (.agg #[.int .i64 0, .int .i64 n, .string d, .slice none 0 0])) ⟨0, m, data, []⟩ := by
  subst hd hn
  exact ⟨_, rfl, Strs.nil W 0 none, fun bk o n c h => by cases h⟩
theorem rd_in (s : Str) (a c : Nat) : ((mk s).extract a s.length).extract 0 c = mk ((s.drop a).take c) := by
  rw [mk_extract, mk_extract, Nat.sub_zero, List.drop_zero, List.take_of_length_le (by simp : (s.drop a).length ≤ s.length - a)]
theorem rd_all {s : Str} {a b : Nat} (h : s.length - a ≤ b) : ((mk s).extract a s.length).extract 0 (s.length - a) = mk ((s.drop a).take b) := by
  rw [rd_in, List.take_of_length_le (by simp : (s.drop a).length ≤ s.length - a), List.take_of_length_le (by simpa using h : (s.drop a).length ≤ b)]
theorem rd_out {s : Str} {a : Nat} (h : s.length ≤ a) (b : Nat) : ByteArray.empty = mk ((s.drop a).take b) := by
  rw [List.drop_of_length_le h, List.take_nil]; rfl
theorem rd_out2 {s : Str} {a : Nat} (h : s.length ≤ a) (b c : Nat) : ByteArray.empty.extract 0 c = mk ((s.drop a).take b) := by
  rw [show ByteArray.empty = mk [] from rfl, mk_extract, List.drop_of_length_le h, List.take_nil, List.drop_zero, List.take_nil]

set_option maxRecDepth 100000 in
set_option maxHeartbeats 2000000 in
theorem read_calls {W : World} {F : Nat → Prop} {tb : Nat} {g : St} (h : Tree W F tb g) (o : Ask) (hp : o.path.length ≤ 4398046511104) :
    Calls Tryz.prog 32 #[ptr tb, opV o] W (OpPost W F tb g (readS g o)) := by
  obtain ⟨⟨S, loc, mloc, hr⟩, hF⟩ := h
  obtain ⟨B, hB⟩ : ∃ B, W.heap.size = B := ⟨_, rfl⟩
  have hs0 := OpAt.start W F o
  have hb0 : Below W.heap.size W ((W.alloc (.cells #[.int .i64 o.do_, .string (mk o.path), .string (mk o.dst), .int .i64 o.off, .int .i64 o.len, .string (mk o.data)] 35)).alloc (.cells #[.int .i64 0, .int .i64 0, .string ⟨#[]⟩, .slice none 0 0] 32)) := balloc (balloc (Below.refl _ _))
  obtain ⟨W0, hW0⟩ : ∃ W0, (W.alloc (.cells #[.int .i64 o.do_, .string (mk o.path), .string (mk o.dst), .int .i64 o.off, .int .i64 o.len, .string (mk o.data)] 35)).alloc (.cells #[.int .i64 0, .int .i64 0, .string ⟨#[]⟩, .slice none 0 0] 32) = W0 := ⟨_, rfl⟩
  rw [hW0] at hs0 hb0
  have HO := Lib.hid hs0
  have HR := Lib.hid (hr.below hb0)
  have HW := Lib.hid hW0
  have hep : (mk o.path).toList = o.path := mk_list _
  clear hs0 hb0 hr hW0
  unfold opV ptr
  go_enter Tryz.func32, Tryz.ntmps32
  go_wp2_with fail
  rw [HW.out]
  have HC := Lib.hid (kind_calls HR.out o.path hp false)
  unfold ptr at HC
  cases hk : kind g o.path false with
  | error c =>
    rw [hk] at HC
    have hc0 : ¬ c = 0 := by have := kind_err hk; omega
    refine HC.out.mono ?_
    rintro e w1 ⟨rfl, hBw⟩
    replace HO := Lib.hid (HO.out.below hBw)
    replace HR := Lib.hid (HR.out.below hBw)
    clear hBw
    unfold resP resE
    obtain ⟨q1, q2, q3, q4, q5⟩ := HO.out.cells
    rw [hB] at q1 q2 q3 q4 q5
    obtain ⟨c0, c1, c2, c3, f0, f1, f2, f3⟩ := HO.out.acells
    rw [hB] at c0 c1 c2 c3 f0 f1 f2 f3
    go_wp2_with fail
    clear q1 q2 q3 q4 q5 c0 c1 c2 c3 f0 f1 f2 f3
    refine (told_calls _ _).mono ?_
    rintro e w2 ⟨rfl, hBw⟩
    replace HO := Lib.hid (HO.out.below hBw)
    replace HR := Lib.hid (HR.out.below hBw)
    clear hBw
    obtain ⟨q1, q2, q3, q4, q5⟩ := HO.out.cells
    rw [hB] at q1 q2 q3 q4 q5
    obtain ⟨c0, c1, c2, c3, f0, f1, f2, f3⟩ := HO.out.acells
    rw [hB] at c0 c1 c2 c3 f0 f1 f2 f3
    go_wp2_with fail
    skip
    refine bodyPost_ret (results_cell_row rfl _ _ (B + 1) 32 #[.int .i64 c, .int .i64 0, .string ⟨#[]⟩, .slice none 0 0] (0, 0) _ rfl (put4_at (hB ▸ HO.out.ans)) Tryz.underlying32 rfl (by kernel_rfl)) rfl ?_
    rw [show readS g o = (g, told c) by unfold readS; rw [hk]]
    have hd := OpAt.done (g := g) (x0 := .int .i64 c) (x1 := .int .i64 0) (x2 := .string ⟨#[]⟩) (x3 := .slice none 0 0) HO.out hF HR.out (AnsAt.told _ _ c)
    rw [hB] at hd
    exact hd
  | ok x =>
    rw [hk] at HC
    refine HC.out.mono ?_
    rintro e w3 ⟨rfl, hBw⟩
    replace HO := Lib.hid (HO.out.below hBw)
    replace HR := Lib.hid (HR.out.below hBw)
    clear hBw
    unfold resP resE
    have hx := leads_in HR.out (kind_ok hk).1
    have HN := Lib.hid (HR.out.node x hx)
    obtain ⟨s, hs⟩ : ∃ s, (g.node x).bytes = s := ⟨_, rfl⟩
    have hsl := HR.out.small x hx
    rw [hs] at hsl
    have hxh := HN.out.heap
    rw [hs] at hxh
    have hxc : w3.cell? ⟨loc x, 1, none⟩ = some (Value.string (mk s)) := heap_cell hxh 1 _ rfl
    have hxf := frozen_of_row _ _ 1 _ _ hxh
    have hss : (mk s).size = s.length := mk_size s
    have HQ := Lib.hid (show readS g o = if o.off < 0 ∨ o.len < 0 then (g, told 1) else (g, ⟨0, ((s.drop o.off.toNat).take o.len.toNat).length, (s.drop o.off.toNat).take o.len.toNat, []⟩) by subst hs; unfold readS; rw [hk])
    clear hxh hk
    by_cases h1 : o.off < 0
    · have HNE := Lib.hid (show o.off < 0 ∨ o.len < 0 from .inl h1)
      obtain ⟨q1, q2, q3, q4, q5⟩ := HO.out.cells
      rw [hB] at q1 q2 q3 q4 q5
      obtain ⟨c0, c1, c2, c3, f0, f1, f2, f3⟩ := HO.out.acells
      rw [hB] at c0 c1 c2 c3 f0 f1 f2 f3
      unfold ptr
      go_wp2_with fail
      clear q1 q2 q3 q4 q5 c0 c1 c2 c3 f0 f1 f2 f3
      refine (told_calls _ _).mono ?_
      rintro e w4 ⟨rfl, hBw⟩
      replace HO := Lib.hid (HO.out.below hBw)
      replace HR := Lib.hid (HR.out.below hBw)
      clear hBw
      obtain ⟨q1, q2, q3, q4, q5⟩ := HO.out.cells
      rw [hB] at q1 q2 q3 q4 q5
      obtain ⟨c0, c1, c2, c3, f0, f1, f2, f3⟩ := HO.out.acells
      rw [hB] at c0 c1 c2 c3 f0 f1 f2 f3
      go_wp2_with fail
      skip
      refine bodyPost_ret (results_cell_row rfl _ _ (B + 1) 32 #[.int .i64 1, .int .i64 0, .string ⟨#[]⟩, .slice none 0 0] (0, 0) _ rfl (put4_at (hB ▸ HO.out.ans)) Tryz.underlying32 rfl (by kernel_rfl)) rfl ?_
      rw [show readS g o = (g, told 1) by rw [HQ.out, if_pos HNE.out]]
      have hd := OpAt.done (g := g) (x0 := .int .i64 1) (x1 := .int .i64 0) (x2 := .string ⟨#[]⟩) (x3 := .slice none 0 0) HO.out hF HR.out (AnsAt.told _ _ 1)
      rw [hB] at hd
      exact hd
    replace h1 := Int.not_lt.1 h1
    by_cases h2 : o.len < 0
    · have HNE := Lib.hid (show o.off < 0 ∨ o.len < 0 from .inr h2)
      obtain ⟨q1, q2, q3, q4, q5⟩ := HO.out.cells
      rw [hB] at q1 q2 q3 q4 q5
      obtain ⟨c0, c1, c2, c3, f0, f1, f2, f3⟩ := HO.out.acells
      rw [hB] at c0 c1 c2 c3 f0 f1 f2 f3
      unfold ptr
      go_wp2_with fail
      clear q1 q2 q3 q4 q5 c0 c1 c2 c3 f0 f1 f2 f3
      refine (told_calls _ _).mono ?_
      rintro e w5 ⟨rfl, hBw⟩
      replace HO := Lib.hid (HO.out.below hBw)
      replace HR := Lib.hid (HR.out.below hBw)
      clear hBw
      obtain ⟨q1, q2, q3, q4, q5⟩ := HO.out.cells
      rw [hB] at q1 q2 q3 q4 q5
      obtain ⟨c0, c1, c2, c3, f0, f1, f2, f3⟩ := HO.out.acells
      rw [hB] at c0 c1 c2 c3 f0 f1 f2 f3
      go_wp2_with fail
      skip
      refine bodyPost_ret (results_cell_row rfl _ _ (B + 1) 32 #[.int .i64 1, .int .i64 0, .string ⟨#[]⟩, .slice none 0 0] (0, 0) _ rfl (put4_at (hB ▸ HO.out.ans)) Tryz.underlying32 rfl (by kernel_rfl)) rfl ?_
      rw [show readS g o = (g, told 1) by rw [HQ.out, if_pos HNE.out]]
      have hd := OpAt.done (g := g) (x0 := .int .i64 1) (x1 := .int .i64 0) (x2 := .string ⟨#[]⟩) (x3 := .slice none 0 0) HO.out hF HR.out (AnsAt.told _ _ 1)
      rw [hB] at hd
      exact hd
    replace h2 := Int.not_lt.1 h2
    obtain ⟨a, ha⟩ : ∃ a : Nat, o.off = a := ⟨o.off.toNat, by omega⟩
    obtain ⟨b, hb⟩ : ∃ b : Nat, o.len = b := ⟨o.len.toNat, by omega⟩
    have HQ2 := Lib.hid (show readS g o = (g, ⟨0, ((s.drop a).take b).length, (s.drop a).take b, []⟩) by rw [HQ.out, if_neg (by omega), ha, hb, Int.toNat_natCast, Int.toNat_natCast])
    clear h1 h2
    by_cases h1 : a ≤ s.length
    · skip
      by_cases h2 : b ≤ s.length - a
      · skip
        have z1 : ¬ ((s.length : Int) < (a : Int)) := by omega
        have z2 : ((a : Int) ≤ (s.length : Int)) := by omega
        have z3 : ¬ ((s.length : Int) - (a : Int) < (b : Int)) := by omega
        have z4 : (b : Int) ≤ ((s.length - a : Nat) : Int) := by omega
        have z5 : ((mk s).extract a s.length).size = s.length - a := by rw [mk_extract, mk_size]; simp
        obtain ⟨q1, q2, q3, q4, q5⟩ := HO.out.cells
        rw [hB] at q1 q2 q3 q4 q5
        obtain ⟨c0, c1, c2, c3, f0, f1, f2, f3⟩ := HO.out.acells
        rw [hB] at c0 c1 c2 c3 f0 f1 f2 f3
        rw [ha] at q3
        rw [hb] at q4
        clear ha hb
        unfold ptr
        go_wp2_with fail
        go_quiet (fail)
        go_wp2_with fail
        all_goals
          refine bodyPost_ret (results_cell_row rfl _ _ (B + 1) 32 #[_, _, _, _] (0, 0) _ rfl (put4_at (hB ▸ (HO.out.drewN nq).ans)) Tryz.underlying32 rfl (by kernel_rfl)) rfl ?_
          rw [HQ2.out, ← hB]
          refine OpAt.done (HO.out.drewN nq) hF (HR.out.drewN nq) ?_
          have hnn : ((s.drop a).take b).length = min b (s.length - a) := by rw [List.length_take, List.length_drop]
          exact ans_data (by first | exact rd_in s a b | exact rd_all (by omega) | exact rd_out (by omega) b | exact rd_out2 (by omega) b _) (by rw [hnn]; omega)
      · skip
        have z1 : ¬ ((s.length : Int) < (a : Int)) := by omega
        have z2 : ((a : Int) ≤ (s.length : Int)) := by omega
        have z3 : ((s.length - a : Nat) : Int) < (b : Int) := by omega
        have z5 : ((mk s).extract a s.length).size = s.length - a := by rw [mk_extract, mk_size]; simp
        obtain ⟨q1, q2, q3, q4, q5⟩ := HO.out.cells
        rw [hB] at q1 q2 q3 q4 q5
        obtain ⟨c0, c1, c2, c3, f0, f1, f2, f3⟩ := HO.out.acells
        rw [hB] at c0 c1 c2 c3 f0 f1 f2 f3
        rw [ha] at q3
        rw [hb] at q4
        clear ha hb
        unfold ptr
        go_wp2_with fail
        go_quiet (fail)
        go_wp2_with fail
        all_goals
          refine bodyPost_ret (results_cell_row rfl _ _ (B + 1) 32 #[_, _, _, _] (0, 0) _ rfl (put4_at (hB ▸ (HO.out.drewN nq).ans)) Tryz.underlying32 rfl (by kernel_rfl)) rfl ?_
          rw [HQ2.out, ← hB]
          refine OpAt.done (HO.out.drewN nq) hF (HR.out.drewN nq) ?_
          have hnn : ((s.drop a).take b).length = min b (s.length - a) := by rw [List.length_take, List.length_drop]
          exact ans_data (by first | exact rd_in s a b | exact rd_all (by omega) | exact rd_out (by omega) b | exact rd_out2 (by omega) b _) (by rw [hnn]; omega)
    · skip
      have z1 : ((s.length : Int) < (a : Int)) := by omega
      obtain ⟨q1, q2, q3, q4, q5⟩ := HO.out.cells
      rw [hB] at q1 q2 q3 q4 q5
      obtain ⟨c0, c1, c2, c3, f0, f1, f2, f3⟩ := HO.out.acells
      rw [hB] at c0 c1 c2 c3 f0 f1 f2 f3
      rw [ha] at q3
      rw [hb] at q4
      clear ha hb
      unfold ptr
      go_wp2_with fail
      go_quiet (fail)
      go_wp2_with fail
      all_goals
        refine bodyPost_ret (results_cell_row rfl _ _ (B + 1) 32 #[_, _, _, _] (0, 0) _ rfl (put4_at (hB ▸ (HO.out.drewN nq).ans)) Tryz.underlying32 rfl (by kernel_rfl)) rfl ?_
        rw [HQ2.out, ← hB]
        refine OpAt.done (HO.out.drewN nq) hF (HR.out.drewN nq) ?_
        have hnn : ((s.drop a).take b).length = min b (s.length - a) := by rw [List.length_take, List.length_drop]
        exact ans_data (by first | exact rd_in s a b | exact rd_all (by omega) | exact rd_out (by omega) b | exact rd_out2 (by omega) b _) (by rw [hnn]; omega)

end Go.Proofs.YtaccokghjpcijaaGreatDoor
set_option linter.unusedVariables false
set_option linter.unusedSimpArgs false
namespace Go.Proofs.YtaccokghjpcijaaGreatDoor
open Go Go.RowKit Pp Go.Proofs.YtaccokghjpcijaaGreatDoorW.PrintWords

theorem ret_str {a b : ByteArray} (h : a = b) : Ending.returned (.string a) = .returned (.string b) := by rw [h]
theorem repeat_zero (c : Nat) : Lib.repeatL [0] c = List.replicate c 0 := by
  induction c with
  | zero => rfl
  | succ c ih => rw [Lib.repeatL, ih]; rfl
theorem repeat_calls (c : Nat) (hc : c ≤ 140737488355328) (w : World) : Calls Tryz.prog 78 #[.string ⟨#[0]⟩, .int .i64 c] w fun e w' => e = .returned (.string (mk (List.replicate c 0))) ∧ Below w.heap.size w w' := by
  refine (Tryz.strings_Repeat ⟨#[0]⟩ c w (by omega) (by show 1 * c ≤ _; omega)).mono ?_
  rintro e w' ⟨rfl, hB⟩
  refine ⟨?_, hB⟩
  rw [show (⟨#[0]⟩ : ByteArray).data.toList = [0] from rfl, repeat_zero]
  rfl
set_option maxRecDepth 100000 in
set_option maxHeartbeats 2000000 in
theorem sized_calls (s : Str) (n : Nat) (hs : s.length ≤ 65536) (hn : n ≤ 65536) (w : World) : Calls Tryz.prog 58 #[.string (mk s), .int .i64 n] w fun e w' => e = .returned (.string (mk (sizedS s n))) ∧ Below w.heap.size w w' := by
  have hss : (mk s).size = s.length := mk_size s
  by_cases h : n ≤ s.length
  · have h1 : (n : Int) ≤ (s.length : Int) := by omega
    have HS := Lib.hid (show sizedS s n = s.take n from if_pos h)
    go_enter Tryz.func58, Tryz.ntmps58
    go_wp2_with fail
    go_ret
    exact ⟨ret_str (show (mk s).extract 0 n = _ by rw [HS.out, mk_extract, List.drop_zero, Nat.sub_zero]), Below.refl _ _⟩
  · have h1 : ¬ (n : Int) ≤ (s.length : Int) := by omega
    have HS := Lib.hid (show sizedS s n = s ++ List.replicate (n - s.length) 0 from if_neg h)
    have hsub : (n : Int) - (s.length : Int) = ((n - s.length : Nat) : Int) := by omega
    have HC := Lib.hid (fun w => repeat_calls (n - s.length) (by omega) w)
    have z1 : (0 : Int) ≤ (n : Int) - (s.length : Int) := by omega
    have z2 : (n : Int) - (s.length : Int) ≤ 65536 := by omega
    have hrs : (mk (List.replicate (n - s.length) 0)).size = n - s.length := by rw [mk_size, List.length_replicate]
    have HU := Lib.hid hsub
    clear hsub
    go_enter Tryz.func58, Tryz.ntmps58
    go_wp2_with fail
    rw [HU.out]
    refine (HC.out _).mono ?_
    rintro e w1 ⟨rfl, hB⟩
    have HB := Lib.hid hB
    clear hB
    go_wp2_with fail
    go_ret
    exact ⟨ret_str (show mk s ++ mk (List.replicate (n - s.length) 0) = _ by rw [HS.out, mk_append]), HB.out⟩
end Go.Proofs.YtaccokghjpcijaaGreatDoor
set_option linter.unusedVariables false
set_option linter.unusedSimpArgs false
namespace Go.Proofs.YtaccokghjpcijaaGreatDoor
open Go Go.RowKit Pp Go.Proofs.YtaccokghjpcijaaGreatDoorW.PrintWords Go.Proofs.YtaccokghjpcijaaGreatDoorW.PrintLast Go.Proofs.YtaccokghjpcijaaGreatDoorW.PrintMore
attribute [local go_sem] max2_int min2_int max_two min_two

theorem bkeep {W w : World} {p : Addr} {v : Value} (hb : Below W.heap.size W w) (h1 : W.cell? p = some v) (h2 : W.frozen? p = false) : w.cell? p = some v ∧ w.frozen? p = false :=
  ⟨pw_cell_below hb h1, (hb.frozen (World.block_lt_of_cell? _ _ h1)).trans h2⟩
theorem OpAt.drew {W0 W : World} {F : Nat → Prop} {o : Ask} (h : OpAt W0 F o W) : OpAt W0 F o W.drew := ⟨h.box, h.ans, h.size, h.fr.drew⟩
theorem Rep.setBytes {W : World} {F S : Nat → Prop} {tb : Nat} {loc mloc : Nat → Nat} {g : St} (h : Rep W F tb S loc mloc g) {x : Nat} (hx : S x) {s : Str} (hs : s.length ≤ 16384) : Rep (W.setCell ⟨loc x, 1, none⟩ (.string (Go.Proofs.YtaccokghjpcijaaGreatDoor.mk s))) F tb S loc mloc (setB g x s) := by
  refine h.setNode (n' := { g.node x with bytes := s }) hx rfl hs ?_ (fun k hk => Below.heap_setCell _ _ _ _ hk)
  rw [heap_setCell_same _ _ _ _ _ _ (h.node x hx).heap]
  rfl
set_option maxRecDepth 100000 in
set_option maxHeartbeats 2000000 in
theorem truncate_calls {W : World} {F : Nat → Prop} {tb : Nat} {g : St} (h : Tree W F tb g) (o : Ask) (hp : o.path.length ≤ 4398046511104) :
    Calls Tryz.prog 34 #[ptr tb, opV o] W (OpPost W F tb g (truncS g o)) := by
  obtain ⟨⟨S, loc, mloc, hr⟩, hF⟩ := h
  obtain ⟨B, hB⟩ : ∃ B, W.heap.size = B := ⟨_, rfl⟩
  have hs0 := OpAt.start W F o
  have hb0 : Below W.heap.size W ((W.alloc (.cells #[.int .i64 o.do_, .string (mk o.path), .string (mk o.dst), .int .i64 o.off, .int .i64 o.len, .string (mk o.data)] 35)).alloc (.cells #[.int .i64 0, .int .i64 0, .string ⟨#[]⟩, .slice none 0 0] 32)) := balloc (balloc (Below.refl _ _))
  obtain ⟨W0, hW0⟩ : ∃ W0, (W.alloc (.cells #[.int .i64 o.do_, .string (mk o.path), .string (mk o.dst), .int .i64 o.off, .int .i64 o.len, .string (mk o.data)] 35)).alloc (.cells #[.int .i64 0, .int .i64 0, .string ⟨#[]⟩, .slice none 0 0] 32) = W0 := ⟨_, rfl⟩
  rw [hW0] at hs0 hb0
  have HO := Lib.hid hs0
  have HR := Lib.hid (hr.below hb0)
  have HW := Lib.hid hW0
  have hep : (mk o.path).toList = o.path := mk_list _
  clear hs0 hb0 hr hW0
  unfold opV ptr
  go_enter Tryz.func34, Tryz.ntmps34
  go_wp2_with fail
  rw [HW.out]
  have HC := Lib.hid (kind_calls HR.out o.path hp false)
  unfold ptr at HC
  cases hk : kind g o.path false with
  | error c =>
    rw [hk] at HC
    have hc0 : ¬ c = 0 := by have := kind_err hk; omega
    refine HC.out.mono ?_
    rintro e w1 ⟨rfl, hBw⟩
    replace HO := Lib.hid (HO.out.below hBw)
    replace HR := Lib.hid (HR.out.below hBw)
    clear hBw
    unfold resP resE
    obtain ⟨q1, q2, q3, q4, q5⟩ := HO.out.cells
    rw [hB] at q1 q2 q3 q4 q5
    obtain ⟨c0, c1, c2, c3, f0, f1, f2, f3⟩ := HO.out.acells
    rw [hB] at c0 c1 c2 c3 f0 f1 f2 f3
    go_wp2_with fail
    clear q1 q2 q3 q4 q5 c0 c1 c2 c3 f0 f1 f2 f3
    refine (told_calls _ _).mono ?_
    rintro e w2 ⟨rfl, hBw⟩
    replace HO := Lib.hid (HO.out.below hBw)
    replace HR := Lib.hid (HR.out.below hBw)
    clear hBw
    obtain ⟨q1, q2, q3, q4, q5⟩ := HO.out.cells
    rw [hB] at q1 q2 q3 q4 q5
    obtain ⟨c0, c1, c2, c3, f0, f1, f2, f3⟩ := HO.out.acells
    rw [hB] at c0 c1 c2 c3 f0 f1 f2 f3
    go_wp2_with fail
    skip
    refine bodyPost_ret (results_cell_row rfl _ _ (B + 1) 32 #[.int .i64 c, .int .i64 0, .string ⟨#[]⟩, .slice none 0 0] (0, 0) _ rfl (put4_at (hB ▸ HO.out.ans)) Tryz.underlying32 rfl (by kernel_rfl)) rfl ?_
    rw [show truncS g o = (g, told c) by unfold truncS; rw [hk]]
    have hd := OpAt.done (g := g) (x0 := .int .i64 c) (x1 := .int .i64 0) (x2 := .string ⟨#[]⟩) (x3 := .slice none 0 0) HO.out hF HR.out (AnsAt.told _ _ c)
    rw [hB] at hd
    exact hd
  | ok x =>
    rw [hk] at HC
    refine HC.out.mono ?_
    rintro e w3 ⟨rfl, hBw⟩
    replace HO := Lib.hid (HO.out.below hBw)
    replace HR := Lib.hid (HR.out.below hBw)
    clear hBw
    unfold resP resE
    have hx := leads_in HR.out (kind_ok hk).1
    have HX := Lib.hid hx
    have HN := Lib.hid (HR.out.node x hx)
    obtain ⟨s, hs⟩ : ∃ s, (g.node x).bytes = s := ⟨_, rfl⟩
    have hsl := HR.out.small x hx
    rw [hs] at hsl
    have hxh := HN.out.heap
    rw [hs] at hxh
    have hxc : w3.cell? ⟨loc x, 1, none⟩ = some (Value.string (mk s)) := heap_cell hxh 1 _ rfl
    have hxf := frozen_of_row _ _ 1 _ _ hxh
    have hss : (mk s).size = s.length := mk_size s
    have HQ := Lib.hid (show truncS g o = if o.len < 0 then (g, told 1) else if 16384 < o.len then (g, told 13) else (setB g x (sizedS s o.len.toNat), told 0) by subst hs; unfold truncS; rw [hk]; rfl)
    have HS := Lib.hid hs
    clear hxh hk hx hs
    by_cases h1 : o.len < 0
    · have HNE := Lib.hid (show o.len < 0 from h1)
      obtain ⟨q1, q2, q3, q4, q5⟩ := HO.out.cells
      rw [hB] at q1 q2 q3 q4 q5
      obtain ⟨c0, c1, c2, c3, f0, f1, f2, f3⟩ := HO.out.acells
      rw [hB] at c0 c1 c2 c3 f0 f1 f2 f3
      unfold ptr
      go_wp2_with fail
      clear q1 q2 q3 q4 q5 c0 c1 c2 c3 f0 f1 f2 f3
      refine (told_calls _ _).mono ?_
      rintro e w4 ⟨rfl, hBw⟩
      replace HO := Lib.hid (HO.out.below hBw)
      replace HR := Lib.hid (HR.out.below hBw)
      clear hBw
      obtain ⟨q1, q2, q3, q4, q5⟩ := HO.out.cells
      rw [hB] at q1 q2 q3 q4 q5
      obtain ⟨c0, c1, c2, c3, f0, f1, f2, f3⟩ := HO.out.acells
      rw [hB] at c0 c1 c2 c3 f0 f1 f2 f3
      go_wp2_with fail
      skip
      refine bodyPost_ret (results_cell_row rfl _ _ (B + 1) 32 #[.int .i64 1, .int .i64 0, .string ⟨#[]⟩, .slice none 0 0] (0, 0) _ rfl (put4_at (hB ▸ HO.out.ans)) Tryz.underlying32 rfl (by kernel_rfl)) rfl ?_
      rw [show truncS g o = (g, told 1) by rw [HQ.out, if_pos HNE.out]]
      have hd := OpAt.done (g := g) (x0 := .int .i64 1) (x1 := .int .i64 0) (x2 := .string ⟨#[]⟩) (x3 := .slice none 0 0) HO.out hF HR.out (AnsAt.told _ _ 1)
      rw [hB] at hd
      exact hd
    have HN1 := Lib.hid h1
    replace h1 := Int.not_lt.1 h1
    have z1 := h1
    clear h1
    by_cases h1 : 16384 < o.len
    · have HNE := Lib.hid (show 16384 < o.len from h1)
      obtain ⟨q1, q2, q3, q4, q5⟩ := HO.out.cells
      rw [hB] at q1 q2 q3 q4 q5
      obtain ⟨c0, c1, c2, c3, f0, f1, f2, f3⟩ := HO.out.acells
      rw [hB] at c0 c1 c2 c3 f0 f1 f2 f3
      unfold ptr
      go_wp2_with fail
      clear q1 q2 q3 q4 q5 c0 c1 c2 c3 f0 f1 f2 f3
      refine (told_calls _ _).mono ?_
      rintro e w5 ⟨rfl, hBw⟩
      replace HO := Lib.hid (HO.out.below hBw)
      replace HR := Lib.hid (HR.out.below hBw)
      clear hBw
      obtain ⟨q1, q2, q3, q4, q5⟩ := HO.out.cells
      rw [hB] at q1 q2 q3 q4 q5
      obtain ⟨c0, c1, c2, c3, f0, f1, f2, f3⟩ := HO.out.acells
      rw [hB] at c0 c1 c2 c3 f0 f1 f2 f3
      go_wp2_with fail
      skip
      refine bodyPost_ret (results_cell_row rfl _ _ (B + 1) 32 #[.int .i64 13, .int .i64 0, .string ⟨#[]⟩, .slice none 0 0] (0, 0) _ rfl (put4_at (hB ▸ HO.out.ans)) Tryz.underlying32 rfl (by kernel_rfl)) rfl ?_
      rw [show truncS g o = (g, told 13) by rw [HQ.out, if_neg (by have := HN1.out; omega), if_pos HNE.out]]
      have hd := OpAt.done (g := g) (x0 := .int .i64 13) (x1 := .int .i64 0) (x2 := .string ⟨#[]⟩) (x3 := .slice none 0 0) HO.out hF HR.out (AnsAt.told _ _ 13)
      rw [hB] at hd
      exact hd
    obtain ⟨b, hb⟩ : ∃ b : Nat, o.len = b := ⟨o.len.toNat, by omega⟩
    have HQ2 := Lib.hid (show truncS g o = (setB g x (sizedS s b), told 0) by rw [HQ.out, if_neg (by have := HN1.out; omega), if_neg (by omega), hb, Int.toNat_natCast])
    rw [hb] at h1 z1
    have h2 : (b : Int) ≤ 16384 := by omega
    clear h1
    have HKC := Lib.hid (show w3.drew.cell? ⟨loc x, 1, none⟩ = some (Value.string (mk s)) from hxc)
    have HKF := Lib.hid (show w3.drew.frozen? ⟨loc x, 1, none⟩ = false from hxf)
    have HZ := Lib.hid (fun w => sized_calls s b (by omega) (by omega) w)
    obtain ⟨q1, q2, q3, q4, q5⟩ := HO.out.cells
    rw [hB] at q1 q2 q3 q4 q5
    obtain ⟨c0, c1, c2, c3, f0, f1, f2, f3⟩ := HO.out.acells
    rw [hB] at c0 c1 c2 c3 f0 f1 f2 f3
    rw [hb] at q4
    clear hb
    unfold ptr
    go_wp2_with fail
    go_region_with (first | (go_at_call 58; refine (HZ.out _).mono ?_; rintro e w4 ⟨rfl, hB4⟩; obtain ⟨k1, k2⟩ := bkeep hB4 HKC.out HKF.out))
    all_goals
      have hO5 := (HO.out.drew.below hB4).turn hF (Fr.cell (p := ⟨loc x, 1, none⟩) (.string (mk (sizedS s b))) (HR.out.fl x HX.out))
      have hR5 := ((HR.out.drew).below hB4).setBytes HX.out (s := sizedS s b) (by rw [sized_length]; omega)
      replace HO := Lib.hid hO5
      replace HR := Lib.hid hR5
      clear hO5 hR5 hB4 k1 k2 hxc hxf HKC HKF HN
      clear q1 q2 q3 q4 q5 c0 c1 c2 c3 f0 f1 f2 f3
      generalize w4.setCell ⟨loc x, 1, none⟩ (.string (mk (sizedS s b))) = w5 at HO HR ⊢
      obtain ⟨q1, q2, q3, q4, q5⟩ := HO.out.cells
      rw [hB] at q1 q2 q3 q4 q5
      obtain ⟨c0, c1, c2, c3, f0, f1, f2, f3⟩ := HO.out.acells
      rw [hB] at c0 c1 c2 c3 f0 f1 f2 f3
      go_wp2_with fail
      skip
      refine bodyPost_ret (results_cell_row rfl _ _ (B + 1) 32 #[.int .i64 0, .int .i64 0, .string ⟨#[]⟩, .slice none 0 0] (0, 0) _ rfl (put4_at (hB ▸ HO.out.ans)) Tryz.underlying32 rfl (by kernel_rfl)) rfl ?_
      rw [HQ2.out]
      have hd := OpAt.done (g := g) (x0 := .int .i64 0) (x1 := .int .i64 0) (x2 := .string ⟨#[]⟩) (x3 := .slice none 0 0) HO.out hF HR.out (AnsAt.told _ _ 0)
      rw [hB] at hd
      exact hd

end Go.Proofs.YtaccokghjpcijaaGreatDoor
set_option linter.unusedVariables false
set_option linter.unusedSimpArgs false
namespace Go.Proofs.YtaccokghjpcijaaGreatDoor
open Go Go.RowKit Pp Go.Proofs.YtaccokghjpcijaaGreatDoorW.PrintWords Go.Proofs.YtaccokghjpcijaaGreatDoorW.PrintLast Go.Proofs.YtaccokghjpcijaaGreatDoorW.PrintMore
attribute [local go_sem] max2_int min2_int max_two min_two

theorem write_ok {g : St} {o : Ask} {x : Nat} (hk : kind g o.path false = .ok x) : writeS g o = if o.off < 0 then (g, told 1) else if 16384 - (o.data.length : Int) < o.off then (g, told 13) else
    (if o.data = [] then g else setB g x (wrote (g.node x).bytes o.off.toNat o.data), ⟨0, o.data.length, [], []⟩) := by
  unfold writeS
  rw [hk]
  simp only
  split
  · rfl
  split
  · rfl
  split
  · rename_i h; rw [h]; rfl
  · rfl
theorem sized_at (s : Str) (n : Nat) (v : Int) (hv : v = n) (hs : s.length ≤ 65536) (hn : n ≤ 65536) (w : World) : Calls Tryz.prog 58 #[.string (mk s), .int .i64 v] w fun e w' => e = .returned (.string (mk (sizedS s n))) ∧ Below w.heap.size w w' := by
  subst hv
  exact sized_calls s n hs hn w
theorem wrote_val {s u d : Str} {a : Nat} (hu : sizedS s (max s.length (a + d.length)) = u) : (mk u).extract 0 a ++ mk d ++ (mk u).extract (a + d.length) u.length = mk (wrote s a d) := by
  subst hu
  unfold wrote
  rw [mk_extract, mk_extract, mk_append, mk_append, List.drop_zero, Nat.sub_zero]
  congr 2
  exact List.take_of_length_le (by rw [List.length_drop]; omega)

set_option maxRecDepth 100000 in
set_option maxHeartbeats 2000000 in
theorem write_calls {W : World} {F : Nat → Prop} {tb : Nat} {g : St} (h : Tree W F tb g) (o : Ask) (hp : o.path.length ≤ 4398046511104) (hd : o.data.length ≤ 4398046511104) :
    Calls Tryz.prog 33 #[ptr tb, opV o] W (OpPost W F tb g (writeS g o)) := by
  obtain ⟨⟨S, loc, mloc, hr⟩, hF⟩ := h
  obtain ⟨B, hB⟩ : ∃ B, W.heap.size = B := ⟨_, rfl⟩
  have hs0 := OpAt.start W F o
  have hb0 : Below W.heap.size W ((W.alloc (.cells #[.int .i64 o.do_, .string (mk o.path), .string (mk o.dst), .int .i64 o.off, .int .i64 o.len, .string (mk o.data)] 35)).alloc (.cells #[.int .i64 0, .int .i64 0, .string ⟨#[]⟩, .slice none 0 0] 32)) := balloc (balloc (Below.refl _ _))
  obtain ⟨W0, hW0⟩ : ∃ W0, (W.alloc (.cells #[.int .i64 o.do_, .string (mk o.path), .string (mk o.dst), .int .i64 o.off, .int .i64 o.len, .string (mk o.data)] 35)).alloc (.cells #[.int .i64 0, .int .i64 0, .string ⟨#[]⟩, .slice none 0 0] 32) = W0 := ⟨_, rfl⟩
  rw [hW0] at hs0 hb0
  have HO := Lib.hid hs0
  have HR := Lib.hid (hr.below hb0)
  have HW := Lib.hid hW0
  have hep : (mk o.path).toList = o.path := mk_list _
  clear hs0 hb0 hr hW0
  unfold opV ptr
  go_enter Tryz.func33, Tryz.ntmps33
  go_wp2_with fail
  rw [HW.out]
  have HC := Lib.hid (kind_calls HR.out o.path hp false)
  unfold ptr at HC
  cases hk : kind g o.path false with
  | error c =>
    rw [hk] at HC
    have hc0 : ¬ c = 0 := by have := kind_err hk; omega
    refine HC.out.mono ?_
    rintro e w1 ⟨rfl, hBw⟩
    replace HO := Lib.hid (HO.out.below hBw)
    replace HR := Lib.hid (HR.out.below hBw)
    clear hBw
    unfold resP resE
    obtain ⟨q1, q2, q3, q4, q5⟩ := HO.out.cells
    rw [hB] at q1 q2 q3 q4 q5
    obtain ⟨c0, c1, c2, c3, f0, f1, f2, f3⟩ := HO.out.acells
    rw [hB] at c0 c1 c2 c3 f0 f1 f2 f3
    go_wp2_with fail
    clear q1 q2 q3 q4 q5 c0 c1 c2 c3 f0 f1 f2 f3
    refine (told_calls _ _).mono ?_
    rintro e w2 ⟨rfl, hBw⟩
    replace HO := Lib.hid (HO.out.below hBw)
    replace HR := Lib.hid (HR.out.below hBw)
    clear hBw
    obtain ⟨q1, q2, q3, q4, q5⟩ := HO.out.cells
    rw [hB] at q1 q2 q3 q4 q5
    obtain ⟨c0, c1, c2, c3, f0, f1, f2, f3⟩ := HO.out.acells
    rw [hB] at c0 c1 c2 c3 f0 f1 f2 f3
    go_wp2_with fail
    skip
    refine bodyPost_ret (results_cell_row rfl _ _ (B + 1) 32 #[.int .i64 c, .int .i64 0, .string ⟨#[]⟩, .slice none 0 0] (0, 0) _ rfl (put4_at (hB ▸ HO.out.ans)) Tryz.underlying32 rfl (by kernel_rfl)) rfl ?_
    rw [show writeS g o = (g, told c) by unfold writeS; rw [hk]]
    have hd := OpAt.done (g := g) (x0 := .int .i64 c) (x1 := .int .i64 0) (x2 := .string ⟨#[]⟩) (x3 := .slice none 0 0) HO.out hF HR.out (AnsAt.told _ _ c)
    rw [hB] at hd
    exact hd
  | ok x =>
    rw [hk] at HC
    refine HC.out.mono ?_
    rintro e w3 ⟨rfl, hBw⟩
    replace HO := Lib.hid (HO.out.below hBw)
    replace HR := Lib.hid (HR.out.below hBw)
    clear hBw
    unfold resP resE
    have hx := leads_in HR.out (kind_ok hk).1
    have HX := Lib.hid hx
    have HN := Lib.hid (HR.out.node x hx)
    obtain ⟨s, hs⟩ : ∃ s, (g.node x).bytes = s := ⟨_, rfl⟩
    have hsl := HR.out.small x hx
    rw [hs] at hsl
    have hxh := HN.out.heap
    rw [hs] at hxh
    have hxc : w3.cell? ⟨loc x, 1, none⟩ = some (Value.string (mk s)) := heap_cell hxh 1 _ rfl
    have hxf := frozen_of_row _ _ 1 _ _ hxh
    have hss : (mk s).size = s.length := mk_size s
    have HQ := Lib.hid (show writeS g o = if o.off < 0 then (g, told 1) else if 16384 - (o.data.length : Int) < o.off then (g, told 13) else (if o.data = [] then g else setB g x (wrote s o.off.toNat o.data), ⟨0, o.data.length, [], []⟩) by subst hs; exact write_ok hk)
    have HS := Lib.hid hs
    clear hxh hk hx hs
    have hdd : (mk o.data).size = o.data.length := mk_size _
    have hed : (mk o.data).toList = o.data := mk_list _
    by_cases h1 : o.off < 0
    · have HNE := Lib.hid (show o.off < 0 from h1)
      obtain ⟨q1, q2, q3, q4, q5⟩ := HO.out.cells
      rw [hB] at q1 q2 q3 q4 q5
      obtain ⟨c0, c1, c2, c3, f0, f1, f2, f3⟩ := HO.out.acells
      rw [hB] at c0 c1 c2 c3 f0 f1 f2 f3
      unfold ptr
      go_wp2_with fail
      clear q1 q2 q3 q4 q5 c0 c1 c2 c3 f0 f1 f2 f3
      refine (told_calls _ _).mono ?_
      rintro e w4 ⟨rfl, hBw⟩
      replace HO := Lib.hid (HO.out.below hBw)
      replace HR := Lib.hid (HR.out.below hBw)
      clear hBw
      obtain ⟨q1, q2, q3, q4, q5⟩ := HO.out.cells
      rw [hB] at q1 q2 q3 q4 q5
      obtain ⟨c0, c1, c2, c3, f0, f1, f2, f3⟩ := HO.out.acells
      rw [hB] at c0 c1 c2 c3 f0 f1 f2 f3
      go_wp2_with fail
      skip
      refine bodyPost_ret (results_cell_row rfl _ _ (B + 1) 32 #[.int .i64 1, .int .i64 0, .string ⟨#[]⟩, .slice none 0 0] (0, 0) _ rfl (put4_at (hB ▸ HO.out.ans)) Tryz.underlying32 rfl (by kernel_rfl)) rfl ?_
      rw [show writeS g o = (g, told 1) by rw [HQ.out, if_pos HNE.out]]
      have hd := OpAt.done (g := g) (x0 := .int .i64 1) (x1 := .int .i64 0) (x2 := .string ⟨#[]⟩) (x3 := .slice none 0 0) HO.out hF HR.out (AnsAt.told _ _ 1)
      rw [hB] at hd
      exact hd
    have z1 := Int.not_lt.1 h1
    clear h1
    obtain ⟨a, ha⟩ : ∃ a : Nat, o.off = a := ⟨o.off.toNat, by omega⟩
    by_cases h1 : 16384 - (o.data.length : Int) < o.off
    · have HNE := Lib.hid (show 16384 - (o.data.length : Int) < o.off from h1)
      have HA := Lib.hid z1
      obtain ⟨q1, q2, q3, q4, q5⟩ := HO.out.cells
      rw [hB] at q1 q2 q3 q4 q5
      obtain ⟨c0, c1, c2, c3, f0, f1, f2, f3⟩ := HO.out.acells
      rw [hB] at c0 c1 c2 c3 f0 f1 f2 f3
      clear ha
      unfold ptr
      go_wp2_with fail
      clear q1 q2 q3 q4 q5 c0 c1 c2 c3 f0 f1 f2 f3
      refine (told_calls _ _).mono ?_
      rintro e w5 ⟨rfl, hBw⟩
      replace HO := Lib.hid (HO.out.below hBw)
      replace HR := Lib.hid (HR.out.below hBw)
      clear hBw
      obtain ⟨q1, q2, q3, q4, q5⟩ := HO.out.cells
      rw [hB] at q1 q2 q3 q4 q5
      obtain ⟨c0, c1, c2, c3, f0, f1, f2, f3⟩ := HO.out.acells
      rw [hB] at c0 c1 c2 c3 f0 f1 f2 f3
      go_wp2_with fail
      skip
      refine bodyPost_ret (results_cell_row rfl _ _ (B + 1) 32 #[.int .i64 13, .int .i64 0, .string ⟨#[]⟩, .slice none 0 0] (0, 0) _ rfl (put4_at (hB ▸ HO.out.ans)) Tryz.underlying32 rfl (by kernel_rfl)) rfl ?_
      rw [show writeS g o = (g, told 13) by rw [HQ.out, if_neg (by have := HA.out; omega), if_pos HNE.out]]
      have hd := OpAt.done (g := g) (x0 := .int .i64 13) (x1 := .int .i64 0) (x2 := .string ⟨#[]⟩) (x3 := .slice none 0 0) HO.out hF HR.out (AnsAt.told _ _ 13)
      rw [hB] at hd
      exact hd
    have z2 := Int.not_lt.1 h1
    clear h1
    have HQ2 := Lib.hid (show writeS g o = (if o.data = [] then g else setB g x (wrote s a o.data), ⟨0, o.data.length, [], []⟩) by rw [HQ.out, if_neg (by omega), if_neg (by omega), ha, Int.toNat_natCast])
    rw [ha] at z1 z2
    have z3 : (a : Int) + (o.data.length : Int) ≤ 16384 := by omega
    have z4 : (a : Int) ≤ 16384 - (o.data.length : Int) := by omega
    clear z2 hd
    by_cases hnil : o.data = []
    · have hb : (o.data == []) = true := by rw [hnil]; rfl
      have HNIL := Lib.hid hnil
      clear hnil
      obtain ⟨q1, q2, q3, q4, q5⟩ := HO.out.cells
      rw [hB] at q1 q2 q3 q4 q5
      obtain ⟨c0, c1, c2, c3, f0, f1, f2, f3⟩ := HO.out.acells
      rw [hB] at c0 c1 c2 c3 f0 f1 f2 f3
      rw [ha] at q3
      clear ha
      unfold ptr
      go_wp2_with fail
      skip
      refine bodyPost_ret (results_cell_row rfl _ _ (B + 1) 32 #[.int .i64 0, .int .i64 (o.data.length : Int), .string ⟨#[]⟩, .slice none 0 0] (0, 0) _ rfl (put4_at (hB ▸ HO.out.ans)) Tryz.underlying32 rfl (by kernel_rfl)) rfl ?_
      rw [show writeS g o = (g, ⟨0, o.data.length, [], []⟩) by rw [HQ2.out, if_pos HNIL.out]]
      have hd := OpAt.done (g := g) (x0 := .int .i64 0) (x1 := .int .i64 (o.data.length : Int)) (x2 := .string ⟨#[]⟩) (x3 := .slice none 0 0) HO.out hF HR.out (ans_data (d := ⟨#[]⟩) (data := []) (n := (o.data.length : Int)) (m := (o.data.length : Int)) rfl rfl)
      rw [hB] at hd
      exact hd
    have hb : (o.data == []) = false := beq_eq_false_iff_ne.2 hnil
    have HNIL := Lib.hid hnil
    clear hnil
    have HA := Lib.hid ha
    obtain ⟨q1, q2, q3, q4, q5⟩ := HO.out.cells
    rw [hB] at q1 q2 q3 q4 q5
    obtain ⟨c0, c1, c2, c3, f0, f1, f2, f3⟩ := HO.out.acells
    rw [hB] at c0 c1 c2 c3 f0 f1 f2 f3
    rw [ha] at q3
    clear ha
    unfold ptr
    go_wp2_with fail
    go_still_tail 11, (by kernel_rfl)
    go_wp2_with fail
    all_goals
      refine (sized_at s (max s.length (a + o.data.length)) _ (by omega) (by omega) (by omega) _).mono ?_
      rintro e w4 ⟨rfl, hB4⟩
      replace HO := Lib.hid (HO.out.drew.below hB4)
      replace HR := Lib.hid ((HR.out.drew).below hB4)
      obtain ⟨k1, k2⟩ := bkeep hB4 (show w3.drew.cell? ⟨loc x, 1, none⟩ = some (Value.string (mk s)) from hxc) (show w3.drew.frozen? ⟨loc x, 1, none⟩ = false from hxf)
      clear hB4 hxc hxf HN
      clear q1 q2 q3 q4 q5 c0 c1 c2 c3 f0 f1 f2 f3
      obtain ⟨u, hu⟩ : ∃ u, sizedS s (max s.length (a + o.data.length)) = u := ⟨_, rfl⟩
      have hul : u.length = max s.length (a + o.data.length) := by rw [← hu, sized_length]
      have hus : (mk u).size = u.length := mk_size u
      rw [hu]
      have HU := Lib.hid hu
      clear hu
      have y1 : (a : Int) ≤ (u.length : Int) := by omega
      have y2 : (a : Int) + (o.data.length : Int) ≤ (u.length : Int) := by omega
      have y3 : (u.length : Int) ≤ 16384 := by omega
      have HUL := Lib.hid hul
      clear hul
      obtain ⟨q1, q2, q3, q4, q5⟩ := HO.out.cells
      rw [hB] at q1 q2 q3 q4 q5
      obtain ⟨c0, c1, c2, c3, f0, f1, f2, f3⟩ := HO.out.acells
      rw [hB] at c0 c1 c2 c3 f0 f1 f2 f3
      rw [HA.out] at q3
      go_wp2_with fail
      go_region
      rw [wrote_val HU.out]
      have hO5 := (HO.out.turn hF (Fr.cell (p := ⟨loc x, 1, none⟩) (.string (mk (wrote s a o.data))) (HR.out.fl x HX.out))).drew
      have hR5 := (HR.out.setBytes HX.out (s := wrote s a o.data) (by rw [wrote_length]; omega)).drew
      replace HO := Lib.hid hO5
      replace HR := Lib.hid hR5
      clear hO5 hR5 k1 k2
      clear q1 q2 q3 q4 q5 c0 c1 c2 c3 f0 f1 f2 f3
      generalize (w4.setCell ⟨loc x, 1, none⟩ (.string (mk (wrote s a o.data)))).drew = w5 at HO HR ⊢
      obtain ⟨q1, q2, q3, q4, q5⟩ := HO.out.cells
      rw [hB] at q1 q2 q3 q4 q5
      obtain ⟨c0, c1, c2, c3, f0, f1, f2, f3⟩ := HO.out.acells
      rw [hB] at c0 c1 c2 c3 f0 f1 f2 f3
      go_wp2_with fail
      skip
      refine bodyPost_ret (results_cell_row rfl _ _ (B + 1) 32 #[.int .i64 0, .int .i64 (o.data.length : Int), .string ⟨#[]⟩, .slice none 0 0] (0, 0) _ rfl (put4_at (hB ▸ HO.out.ans)) Tryz.underlying32 rfl (by kernel_rfl)) rfl ?_
      rw [show writeS g o = (setB g x (wrote s a o.data), ⟨0, o.data.length, [], []⟩) by rw [HQ2.out, if_neg HNIL.out]]
      have hd := OpAt.done (g := g) (x0 := .int .i64 0) (x1 := .int .i64 (o.data.length : Int)) (x2 := .string ⟨#[]⟩) (x3 := .slice none 0 0) HO.out hF HR.out (ans_data (d := ⟨#[]⟩) (data := []) (n := (o.data.length : Int)) (m := (o.data.length : Int)) rfl rfl)
      rw [hB] at hd
      exact hd

end Go.Proofs.YtaccokghjpcijaaGreatDoor
