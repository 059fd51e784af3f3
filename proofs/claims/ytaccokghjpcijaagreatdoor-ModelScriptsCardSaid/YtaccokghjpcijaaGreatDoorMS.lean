import Derived.Test.YtaccokghjpcijaaGreatDoorMB
import Derived.Test.YtaccokghjpcijaaGreatDoorMA
import Derived.Test.YtaccokghjpcijaaGreatDoorWWords
set_option linter.unusedVariables false
set_option linter.unusedSimpArgs false
namespace Go.Proofs.YtaccokghjpcijaaGreatDoor
open Go Go.RowKit Go.Shelf Pp Go.Proofs.YtaccokghjpcijaaGreatDoorW.PrintWords
attribute [local go_sem] Oper.semAt_some

/-- Behind path.Split: the slice's block is new. -/
def SplitPostF (l : Str) (w : World) (e : Ending) (w' : World) : Prop :=
  Below w.heap.size w w' ∧ ((split l = none ∧ e = .returned (.tuple #[.slice none 0 0, .int .i64 12])) ∨ ∃ ns v, split l = some ns ∧ e = .returned (.tuple #[v, .int .i64 0]) ∧ Strs w' v ns ∧ (ns = [] → v = .slice none 0 0) ∧ ∀ bk o n c, v = .slice (some ⟨bk, o, none⟩) n c → w.heap.size ≤ bk)
set_option maxRecDepth 100000 in
set_option maxHeartbeats 2000000 in
theorem split_yesF (r : Str) (hr : r ≠ []) (hl : r.length ≤ 4398046511103) (w : World) : Calls Tryz.prog 17 #[.string (mk (47 :: r))] w (SplitPostF (47 :: r) w) := by
  obtain ⟨i0, hi, hz0, hz1, hz2⟩ := info_parts Tryz.infoStr
  refine (callsIn_wide (n := 3)).1 ?_
  refine callsIn_of_wp_marks Tryz.func17 rfl trivial ?_ rfl
  simp only [Tryz.ntmps17, List.size_toArray, List.length_cons, List.length_nil, Nat.reduceAdd, Nat.reduceSub, Array.replicate_succ, Array.replicate_zero, List.push_toArray, List.append_toArray, List.nil_append, List.cons_append]
  have ht : (mk r).toList = r := mk_list r
  have hr' : ¬ r = [] := hr
  have he : List.isEmpty r = false := by cases r <;> simp_all
  gi_wp2_with (first | (refine ⟨trivial, ?_⟩; gi_at_call 40; refine (callsIn_wide.2 (cut_yes r _)).mono ?_; rintro e w' ⟨rfl, rfl⟩) | (refine ⟨trivial, ?_⟩; gi_at_call 41; refine (callsIn_wide.2 (seq_calls r _)).mono ?_; rintro e w' ⟨rfl, rfl⟩))
  obtain ⟨h, hh⟩ : ∃ h, w.heap.size = h := ⟨_, rfl⟩
  rw [hh]
  obtain ⟨W0, hW0⟩ : ∃ W0, ((((((w.alloc (.cells #[.slice none 0 0] 30)).alloc (.cells #[.int .i64 0] 29)).alloc (.cells #[.slice none 0 0] 30)).alloc (.cells #[.string (mk r)] 9)).alloc (.cells #[.string ⟨#[47]⟩] 9)).alloc (.cells #[.int .i64 0] 3)) = W0 := ⟨_, rfl⟩
  have x0 : Boxed W0 h 30 (.slice none 0 0) := by
    rw [← hW0, ← hh]; exact ((((((Boxed.new w _ _).alloc _).alloc _).alloc _).alloc _).alloc _)
  have x1 : Boxed W0 (h + 1) 29 (.int .i64 0) := by
    have := ((((Boxed.new (w.alloc (.cells #[.slice none 0 0] 30)) 29 (.int .i64 0)).alloc (.cells #[.slice none 0 0] 30)).alloc (.cells #[.string (mk r)] 9)).alloc (.cells #[.string ⟨#[47]⟩] 9)).alloc (.cells #[.int .i64 0] 3)
    rw [World.size_alloc] at this; rw [← hW0, ← hh]; exact this
  have x2 : Boxed W0 (h + 1 + 1) 30 (.slice none 0 0) := by
    have := (((Boxed.new ((w.alloc (.cells #[.slice none 0 0] 30)).alloc (.cells #[.int .i64 0] 29)) 30 (.slice none 0 0)).alloc (.cells #[.string (mk r)] 9)).alloc (.cells #[.string ⟨#[47]⟩] 9)).alloc (.cells #[.int .i64 0] 3)
    rw [World.size_alloc, World.size_alloc] at this; rw [← hW0, ← hh]; exact this
  have hbx : Boxes (h + 1 + 1 + 1 + 1) (h + 1 + 1 + 1) (h + 1 + 1 + 1 + 2) r W0 := by
    refine ⟨?_, ?_, ?_⟩
    · have := (Boxed.new ((((w.alloc (.cells #[.slice none 0 0] 30)).alloc (.cells #[.int .i64 0] 29)).alloc (.cells #[.slice none 0 0] 30)).alloc (.cells #[.string (mk r)] 9)) 9 (.string ⟨#[47]⟩)).alloc (.cells #[.int .i64 0] 3)
      simp only [World.size_alloc, hh] at this; rw [← hW0]; exact this
    · have := ((Boxed.new (((w.alloc (.cells #[.slice none 0 0] 30)).alloc (.cells #[.int .i64 0] 29)).alloc (.cells #[.slice none 0 0] 30)) 9 (.string (mk r))).alloc (.cells #[.string ⟨#[47]⟩] 9)).alloc (.cells #[.int .i64 0] 3)
      simp only [World.size_alloc, hh] at this; rw [← hW0]; exact this
    · have := Boxed.new (((((w.alloc (.cells #[.slice none 0 0] 30)).alloc (.cells #[.int .i64 0] 29)).alloc (.cells #[.slice none 0 0] 30)).alloc (.cells #[.string (mk r)] 9)).alloc (.cells #[.string ⟨#[47]⟩] 9)) 3 (.int .i64 0)
      simp only [World.size_alloc, hh] at this; rw [← hW0]; exact this
  have hsz : W0.heap.size = h + 6 := by rw [← hW0]; simp [hh]
  have hbl : Below h w W0 := by
    rw [← hW0]
    exact ((((((Below.refl h w).alloc (by omega) _).alloc (by simp; omega) _).alloc (by simp; omega) _).alloc (by simp; omega) _).alloc (by simp; omega) _).alloc (by simp; omega) _
  rw [hW0]
  clear hW0
  refine wpIn_rangeFunc_box rfl (by omega) (gf := 84) (lb := #[.pointer (some ⟨h + 1 + 1 + 1 + 1, 0, none⟩), .pointer (some ⟨h + 1 + 1 + 1, 0, none⟩), .pointer (some ⟨h + 1 + 1 + 1 + 2, 0, none⟩)]) rfl trivial (enters_of Tryz.func84 (by kernel_rfl) rfl)
    (split_iter 2 (h + 1 + 1 + 1 + 1) (h + 1 + 1 + 1) (h + 1 + 1 + 1 + 2) (by omega) (by omega) r (by omega) W0 hbx)
    (fun a b => ⟨b.1.trans a.1, b.2.1.trans a.2.1, b.2.2.trans a.2.2⟩)
    (fun W l o' hl' => ⟨World.putObj_heap_other (by omega), World.putObj_heap_other (by omega), World.putObj_heap_other (by omega)⟩)
    (fun W o hk => ?ka) ⟨rfl, rfl, rfl⟩ (fun _ => rfl)
    (fun X Y k o hA hk hx => ?ha)
    (fun pre W => (∃ v, Boxed W (h + 1 + 1) 30 v ∧ W.ownsRow (h + 6) 9 1 v pre.length (svals pre)) ∧ Boxed W h 30 (.slice none 0 0) ∧ Boxed W (h + 1) 29 (.int .i64 0) ∧ Below h w W ∧ h + 6 ≤ W.heap.size ∧ pre.all okName = true)
    (fun c pre W => c = .ret ∧ Boxed W h 30 (.slice none 0 0) ∧ Boxed W (h + 1) 29 (.int .i64 12) ∧ Below h w W ∧ pre.all okName = false)
    ?hI ?hIx ?hIA ?hIxA ?h0
    (fun x => { tmps := #[.string (mk (47 :: r)), undef, .pointer (some ⟨h, 0, none⟩), .pointer (some ⟨h + 1, 0, none⟩), .string (mk r), .bool true, .pointer (some ⟨h + 1 + 1, 0, none⟩), .string (mk x), .tuple #[.string (mk r), .bool true], .string (mk (47 :: r)), .tuple #[.string (mk r), .bool true], .string (mk r), .bool true, .bool false, .bool true, .bool false, .bool false, .string (mk r), .bool false, .string (mk r), .func (.func 84) #[] #[.pointer (some ⟨h + 1 + 1 + 1 + 1, 0, none⟩), .pointer (some ⟨h + 1 + 1 + 1, 0, none⟩), .pointer (some ⟨h + 1 + 1 + 1 + 2, 0, none⟩)], .string (mk x), undef, undef, undef, undef, undef, undef, undef, undef], defers := [] })
    ?assign ?body ?done ?stop
  case ka =>
    have hk' := hbx.kept hk
    have l1 := (Array.getElem?_eq_some_iff.1 hk'.1).1
    have l2 := (Array.getElem?_eq_some_iff.1 hk'.2.1).1
    have l3 := (Array.getElem?_eq_some_iff.1 hk'.2.2).1
    exact ⟨(Below.heap_alloc _ _ _ l1).trans hk.1, (Below.heap_alloc _ _ _ l2).trans hk.2.1, (Below.heap_alloc _ _ _ l3).trans hk.2.2⟩
  case ha => exact (hA.kept (by omega)).trans hx
  case hI =>
    rintro pre X Y row ⟨⟨v, hv, hrow⟩, hb0, hb1, hB, hgt, hall⟩ hg hr
    have hne : ∀ B, B < h + 6 → some B ≠ row := fun B hB' e => by have := (hr B e.symm).1; omega
    exact ⟨⟨v, hv.kept hg (hne _ (by omega)), hrow.kept hg (row_ne hrow (fun q e => (hr q e).2))⟩, hb0.kept hg (hne _ (by omega)), hb1.kept hg (hne _ (by omega)), hB.grown hg (by omega) (fun k e => by have := (hr k e).1; omega), Nat.le_trans hgt hg.size, hall⟩
  case hIx =>
    rintro c pre X Y row ⟨hc, hb0, hb1, hB, hall⟩ hg hr
    have hne : ∀ B, B < h + 6 → some B ≠ row := fun B hB' e => by have := (hr B e.symm).1; omega
    have hlt := hb1.lt
    exact ⟨hc, hb0.kept hg (hne _ (by omega)), hb1.kept hg (hne _ (by omega)), hB.grown hg (by omega) (fun k e => by have := (hr k e).1; omega), hall⟩
  case hIA =>
    rintro pre X Y ⟨⟨v, hv, hrow⟩, hb0, hb1, hB, hgt, hall⟩ hs
    exact ⟨⟨v, (hs.kept (by omega)).trans hv, hs.row hrow (by omega)⟩, (hs.kept (by omega)).trans hb0, (hs.kept (by omega)).trans hb1, hs.below hB (by omega), by rw [hs.size]; exact hgt, hall⟩
  case hIxA =>
    rintro c pre X Y ⟨hc, hb0, hb1, hB, hall⟩ hs
    exact ⟨hc, (hs.kept (by omega)).trans hb0, (hs.kept (by omega)).trans hb1, hs.below hB (by omega), hall⟩
  case h0 => exact ⟨⟨_, x2, World.ownsRow_nil _ _ _ _⟩, x0, x1, hbl, by omega, rfl⟩
  case assign =>
    intro l x W K hK
    gi_wp2
    exact hK
  case body =>
    rintro l pre x W ⟨⟨v, hv, hrow⟩, hb0, hb1, hB, hgt, hall⟩ hlt hR
    have hmem : x ∈ parts r := by
      obtain ⟨t, ht'⟩ := hR
      rw [← ht']
      simp
    have hxl := parts_mem_length r x hmem
    have hpl : pre.length + 1 ≤ r.length + 1 := by
      have := hR.length_le
      have h2 := parts_length r
      simp at this
      omega
    clear hmem hR
    have HA := Lib.hid hall
    have HV := Lib.hid hv
    have HR := Lib.hid hrow
    have H0 := Lib.hid hb0
    have H1 := Lib.hid hb1
    have HB := Lib.hid hB
    clear hall hv hrow hb0 hb1 hB x0 x1 x2 hbx hbl
    have hc := HV.out.cell
    cases hok : okName x with
    | false =>
      have g0 := H0.out.cell
      have g0' := H0.out.frozen
      have g1 := H1.out.cell
      have g1' := H1.out.frozen
      have hn := Lib.hid hok
      gi_wp2_with fail
      refine ⟨trivial, ?_⟩
      refine (CallsIn.inRound l (callsIn_wide.2 (name_calls x (by omega) _))).mono ?_
      rintro e w' ⟨rfl, rfl⟩
      gi_wp2_with fail
      have k0 : Boxed (w'.setCell ⟨h, 0, none⟩ (.slice none 0 0)) h 30 (.slice none 0 0) := H0.out.set _
      have k1 : Boxed (w'.setCell ⟨h, 0, none⟩ (.slice none 0 0)) (h + 1) 29 (.int .i64 0) := (Below.heap_setCell w' ⟨h, 0, none⟩ _ (h + 1) (show h + 1 ≠ h by omega)).trans H1.out
      exact ⟨((KeepsOthers.setCell _ _ _).trans (KeepsOthers.setCell _ _ _)).from _, rfl, (Below.heap_setCell _ ⟨h + 1, 0, none⟩ _ h (show h ≠ h + 1 by omega)).trans k0, k1.set _,
        (HB.out.setCell (p := ⟨h, 0, none⟩) (Nat.le_refl _) _).setCell (p := ⟨h + 1, 0, none⟩) (show h ≤ h + 1 by omega) _, by rw [all_snoc, HA.out, hn.out]; rfl⟩
    | true =>
      have hn := Lib.hid hok
      gi_wp2_with fail
      refine ⟨trivial, ?_⟩
      refine (CallsIn.inRound l (callsIn_wide.2 (name_calls x (by omega) _))).mono ?_
      rintro e w' ⟨rfl, rfl⟩
      gi_wp2_with (gi_at_builtin; refine wpListIn_append_own _ rfl _ _ 30 rfl (h + 6) 9 i0 (.string ⟨#[]⟩) 1 16 Tryz.underlying30 hi hz0 hz1 hz2 rfl (by decide) _ _ _ rfl (HR.out.alloc _) ⟨w'.heap.size, 0, none⟩ 1 1 [.string (mk x)] rfl rfl (cell_one_new _ _ _) (by simp [Value.oneCell']) (by unfold maxLen; omega) (by omega) (by simp; omega) ?_; intro v' w1 hown' hgrow _; obtain ⟨g', cap', rfl⟩ := ownsRow_succ hown'; obtain ⟨hv1, hv2, hr2, hk2, hj2, hb2⟩ := append_step h (by omega) (by omega) HV.out HR.out hgt (by omega) hown' hgrow; have hc1 := hv1.cell; have hf1 := hv1.frozen)
      exact ⟨hk2 _, ⟨hj2 _ (by omega) (by omega), hj2 _ (by omega) (by omega), hj2 _ (by omega) (by omega)⟩, ⟨_, hv2, by rw [svals_snoc, List.length_append, List.length_singleton]; exact hr2⟩, (hj2 h (by omega) (by omega)).trans H0.out, (hj2 (h + 1) (by omega) (by omega)).trans H1.out, HB.out.trans hb2, Nat.le_trans hgt hb2.size, by rw [all_snoc, HA.out, hn.out]; rfl⟩
  case done =>
    rintro D ys W hD rfl ⟨⟨v, hv, hrow⟩, hb0, hb1, hB, hgt, hall⟩ hK
    obtain ⟨A, c, rfl⟩ := own_slice hrow
    have HA := Lib.hid hall
    have HV := Lib.hid hv
    have HR := Lib.hid hrow
    have H0 := Lib.hid hb0
    have H1 := Lib.hid hb1
    have HB := Lib.hid hB
    have HK := Lib.hid hK
    have HT := Lib.hid ht
    clear hall hv hrow hb0 hb1 hB x0 x1 x2 hbx hbl hK ht
    have hc := HV.out.cell
    have g0 := H0.out.cell
    have g0' := H0.out.frozen
    have g1 := H1.out.cell
    have g1' := H1.out.frozen
    gi_wp2_with fail
    obtain ⟨W2, hW2⟩ : ∃ W2, (W.setCell ⟨h, 0, none⟩ (.slice A (parts r).length c)).setCell ⟨h + 1, 0, none⟩ (.int .i64 0) = W2 := ⟨_, rfl⟩
    rw [hW2]
    have e0 : W2.heap[h]? = some (.cells #[.slice A (parts r).length c] 30 (0, 0)) := by
      rw [← hW2]
      exact (Below.heap_setCell _ ⟨h + 1, 0, none⟩ _ h (show h ≠ h + 1 by omega)).trans (H0.out.set _)
    have e1 : W2.heap[h + 1]? = some (.cells #[.int .i64 0] 29 (0, 0)) := by
      rw [← hW2]
      exact Boxed.set _ ((Below.heap_setCell W ⟨h, 0, none⟩ _ (h + 1) (show h + 1 ≠ h by omega)).trans H1.out)
    have e2 : W2.heap[D]? = some (.deferred (some [])) := by
      rw [← hW2]
      exact ((KeepsOthers.setCell _ _ _).trans (KeepsOthers.setCell _ _ _)).same D _ HK.out rfl
    have e3 : Below h w W2 := by
      rw [← hW2]
      exact (HB.out.setCell (p := ⟨h, 0, none⟩) (Nat.le_refl _) _).setCell (p := ⟨h + 1, 0, none⟩) (show h ≤ h + 1 by omega) _
    have e4 : W2.ownsRow (h + 6) 9 1 (.slice A (parts r).length c) (parts r).length (svals (parts r)) := by
      rw [← hW2]
      refine StB.row (b2 := h + 1) ⟨_, rfl⟩ (StB.row (b2 := h) ⟨_, rfl⟩ HR.out (by omega)) (by omega)
    clear hW2
    refine ⟨by simp, .inl ⟨_, _, rfl, run_takeDeferred e2, ?_⟩⟩
    refine ⟨_, split_results _ h (h + 1) A (parts r).length c 0 _ rfl rfl ?_ ?_, ?_, .inr ⟨parts r, _, split_ok hr HA.out, rfl, ?_⟩⟩
    · have : (W2.putObj D (.deferred none)).heap[h]? = _ := (World.putObj_heap_other (by omega)).trans e0
      exact Boxed.cell this
    · have : (W2.putObj D (.deferred none)).heap[h + 1]? = _ := (World.putObj_heap_other (by omega)).trans e1
      exact Boxed.cell this
    · rw [hh]
      exact e3.grown (grownBy_putObj' W2 D _) (by have := (Array.getElem?_eq_some_iff.1 e1).1; omega) (fun k e => by cases e; omega)
    · exact ⟨Strs.of_row (ownsRow_putObj e4 _ e2 rfl) (by have := parts_length r; omega), fun e => absurd e (parts_ne r), fun bk o n c' e => by have := own_base e4 bk (by injection e with e; rw [e]; rfl); omega⟩
  case stop =>
    rintro D c pre W hD hpre ⟨rfl, hb0, hb1, hB, hall⟩ hK
    gi_wp2_with fail
    have hno : (parts r).all okName = false := by
      obtain ⟨t, ht'⟩ := hpre
      rw [← ht', List.all_append, hall]
      rfl
    refine ⟨by simp, .inl ⟨_, _, rfl, run_takeDeferred hK, ?_⟩⟩
    refine ⟨_, split_results _ h (h + 1) none 0 0 12 _ rfl rfl ?_ ?_, ?_, .inl ⟨split_bad hr hno, rfl⟩⟩
    · have : (W.putObj D (.deferred none)).heap[h]? = _ := (World.putObj_heap_other (by omega)).trans hb0
      exact Boxed.cell this
    · have : (W.putObj D (.deferred none)).heap[h + 1]? = _ := (World.putObj_heap_other (by omega)).trans hb1
      exact Boxed.cell this
    · rw [hh]
      exact hB.grown (grownBy_putObj' W D _) (by have := hb1.lt; omega) (fun k e => by cases e; omega)

theorem split_fresh (l : Str) (hl : l.length ≤ 4398046511104) (w : World) : Calls Tryz.prog 17 #[.string (mk l)] w (SplitPostF l w) := by
  by_cases h : ∃ r, l = 47 :: r
  · obtain ⟨r, rfl⟩ := h
    by_cases hr : r = []
    · subst hr
      refine (split_root_nil w).mono ?_
      rintro e w' ⟨rfl, hB⟩
      exact ⟨hB, .inr ⟨[], _, rfl, rfl, Strs.nil w' 0 none, fun _ => rfl, fun bk o n c e => by cases e⟩⟩
    · exact split_yesF r hr (by simp at hl; omega) w
  · have hs : split l = none := by
      cases l with
      | nil => rfl
      | cons a r => exact split_other (fun e => h ⟨r, by rw [e]⟩)
    refine (split_none l hs hl w).mono ?_
    rintro e w' ⟨rfl, hB⟩
    exact ⟨hB, .inl ⟨hs, rfl⟩⟩
end Go.Proofs.YtaccokghjpcijaaGreatDoor
