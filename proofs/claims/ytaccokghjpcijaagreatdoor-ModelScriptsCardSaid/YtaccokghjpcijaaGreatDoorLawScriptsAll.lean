/-
  Whatever is asked, a tree answers what the document says; a copy goes its own way: whatever the script and the number (of more than 60 ops, or of longer ones, nothing is asked but the document's examples). The listed tables stand as the library's text lays them (tied).
-/
import Derived.Test.YtaccokghjpcijaaGreatDoorMH
import Derived.Test.YtaccokghjpcijaaGreatDoorMK
import Derived.Deep.QuietTactic
import Derived.BigQuiet
import Derived.BigRegion
import Derived.RegionTactic
import Derived.Deep.RegionWith
import Derived.Deep.RegionHeld3
import Derived.LaidSub
set_option linter.unusedVariables false
set_option linter.unusedSimpArgs false
namespace Go.Proofs.YtaccokghjpcijaaGreatDoor
open Go Go.RowKit Go.Shelf Pp Go.Proofs.YtaccokghjpcijaaGreatDoorW.PrintWords Go.Proofs.YtaccokghjpcijaaGreatDoorW.PrintLast Go.Proofs.YtaccokghjpcijaaGreatDoorW.PrintMore
attribute [local go_sem] max2_int min2_int max_two min_two

theorem op_at {w : World} {ad : Addr} {l : List OpP} {i : Nat} {q : OpP} (hC : Kd.C PModelScripts.k35 w (some ad) l.length l) (hq : l[i]? = some q) :
    w.cell? (ad.add (i * 6)) = some (.int .i64 q.f0) ∧ w.cell? ⟨(ad.add (i * 6)).block, (ad.add (i * 6)).off + 1, none⟩ = some (.string q.f1) ∧ w.cell? ⟨(ad.add (i * 6)).block, (ad.add (i * 6)).off + 2, none⟩ = some (.string q.f2) ∧ w.cell? ⟨(ad.add (i * 6)).block, (ad.add (i * 6)).off + 3, none⟩ = some (.int .i64 q.f3) ∧ w.cell? ⟨(ad.add (i * 6)).block, (ad.add (i * 6)).off + 4, none⟩ = some (.int .i64 q.f4) ∧ w.cell? ⟨(ad.add (i * 6)).block, (ad.add (i * 6)).off + 5, none⟩ = some (.string q.f5) := by
  obtain ⟨ad', h, hh⟩ := op_cells hC hq
  injection h with h
  subst h
  exact hh
theorem do_at_tab {k : Nat} {W : World} {F : Nat → Prop} {tb : Nat} {g : St} (h : TS k W F tb g) (hk : k < 1000) (ht : TabW W) (q : OpP) (hp : (askP q).path.length ≤ 1048576) (hd : (askP q).dst.length ≤ 1048576) (hda : (askP q).data.length ≤ 1048576) {r : St × Ans} (hr : step g (askP q) = r) :
    Calls Tryz.prog 13 #[.pointer (some ⟨tb, 0, none⟩), .agg #[.int .i64 q.f0, .string q.f1, .string q.f2, .int .i64 q.f3, .int .i64 q.f4, .string q.f5]] W (DoTS k W F tb r) := hr ▸ do_q_tab h hk ht q hp hd hda
/-- The tree's answer lies beside the document's tree. -/
theorem Duo.heldT {w0 W v : World} {k : Nat} {F F' G : Nat → Prop} {tb kb : Nat} {g : St} {E : List (Str × Nat)} {T : List (Bool × Str)} {ns : List Str} {A : Option Addr} {c : Nat} (h : Duo w0 W k F tb g G kb E T) (hX : Ext F W F' v) (hS : Strs v (.slice A ns.length c) ns) (hA : ns ≠ [] → ∀ bk o, A = some ⟨bk, o, none⟩ → ¬ F' bk ∧ W.heap.size ≤ bk ∧ bk < v.heap.size) : Held ns A c G v :=
  ⟨hS, fun hne bk o e => ⟨fun hg => by have := (h.r.lt bk hg).1; have := (hA hne bk o e).2.1; omega, (hA hne bk o e).2.2⟩⟩
set_option maxRecDepth 100000 in
set_option maxHeartbeats 8000000 in
theorem scripts_walk {w : World} (A : Option Addr) (c : Nat) (l : List OpP) (hC : Kd.C PModelScripts.k35 w A l.length l) (hc : l.length ≤ c) (m : Int) (ht : TabW w) :
    Calls Tryz.prog 6 #[.slice A l.length c, .int .i64 m] w fun e w' => e = .returned (.bool true) ∧ Below w.heap.size w w' := by
  have hl63 : l.length ≤ 9223372036854775807 := hC.2.1
  obtain ⟨n, hn⟩ : ∃ n, l.length = n := ⟨_, rfl⟩
  have HC := Lib.hid hC
  have HT0 := Lib.hid ht
  obtain ⟨r, hr⟩ : ∃ r, smallL (l.map askP) 60 = r := ⟨_, rfl⟩
  have hSm := fun W hW => small_calls A c l 60 r W (Kd.C_below hC hW) hc hl63 hr
  rw [hn] at hSm hc ⊢
  have HS := Lib.hid hSm
  have HN := Lib.hid hn
  have HR := Lib.hid hr
  clear hC hSm hn hl63 hr ht
  go_enter Tryz.func6, Tryz.ntmps6
  go_wp2_with fail
  have hb0 : Below w.heap.size w w := Below.refl _ _
  have HB0 := Lib.hid hb0
  refine (HS.out _ hb0).mono ?_
  rintro e w1 ⟨rfl, hB⟩
  have HB1 := Lib.hid (bstep HB0.out hB)
  clear hB hb0
  cases r with
  | false =>
    go_wp2_with fail
    refine (live_calls _).mono ?_
    rintro e wl ⟨rfl, hBl⟩
    have HBl := Lib.hid (bstep (HB1.out) hBl)
    clear hBl
    go_wp2_with fail
    go_ret
    exact ⟨rfl, HBl.out⟩
  | true =>
  have HSM := Lib.hid (small_mem HR.out)
  have hn60 : n ≤ 60 := by have h := HSM.out.1; rw [List.length_map, HN.out] at h; omega
  go_wp2_with fail
  refine (new_ts _).mono ?_
  rintro e w3 ⟨tb, F0, rfl, hT, hB, hF0⟩
  have HA0 : Hid (At w 0 w3 F0 tb newS) := Lib.hid ⟨hT, bstep HB1.out hB, fun b hb => Nat.le_trans HB1.out.size (hF0 b hb)⟩
  clear hT hB hF0
  go_wp2_with fail
  refine (knew_calls _ HA0.out.below.size).mono ?_
  rintro e w4 ⟨kb, G0, rfl, hK, hB, hG⟩
  have HD := Lib.hid (Duo.start HA0.out hK hB hG)
  clear hK hB hG HA0
  go_wp2_with fail
  refine (copy_ts HD.out.a.ts (by omega)).mono ?_
  rintro e w5 ⟨tc, Fc, gc, rfl, hT, hT2, hS, hB, hF⟩
  have HW := Lib.hid (And.intro hT2 (And.intro hB hF))
  have HPC := Lib.hid (new_kp.sim hS new_inv)
  clear hT hT2 hS hB hF
  go_wp2_with fail
  refine (kcopy_calls (HD.out.r.below HW.out.2.1) (Nat.le_trans HD.out.a.below.size HW.out.2.1.size) (by simp) (by simp)).mono ?_
  rintro e w6 ⟨kw, Gc, rfl, hK, hB, hG⟩
  have HQ0 := Lib.hid (Four.start HD.out HW.out.1 HW.out.2.1 HW.out.2.2 hK hB hG)
  clear hK hB hG HW HD
  go_wp2_with fail
  go_loopw [7, 8, 9] (fun cp ws i W => ∃ (k kc : Nat) (F : Nat → Prop) (g : St) (G : Nat → Prop) (E : List (Str × Nat)) (T : List (Bool × Str)) (Fc : Nat → Prop) (tc : Nat) (gc : St) (Gc : Nat → Prop) (kw : Nat) (Ew : List (Str × Nat)) (Tw : List (Bool × Str)), k ≤ n ∧ kc ≤ k ∧ i = .int .i64 k ∧ cp = .pointer (some ⟨tc, 0, none⟩) ∧ ws = .pointer (some ⟨kw, 0, none⟩) ∧ Hid (Four w W k F tb g G kb E T kc Fc tc gc Gc kw Ew Tw) ∧ Hid (KP k g E T) ∧ Hid (KP kc gc Ew Tw)) (fun _ _ i _ => n - (intOf i).toNat)
  case atStart => exact ⟨0, 0, _, _, _, _, _, _, _, _, _, _, _, _, Nat.zero_le _, Nat.le_refl _, rfl, rfl, rfl, HQ0, Lib.hid new_kp, HPC⟩
  case round =>
    clear HQ0 HPC
    obtain ⟨k, kc, F, g, G, E, T, Fc, tc, gc, Gc, kw, Ew, Tw, hk, hkc, rfl, rfl, rfl, HD, HP, HPC⟩ := hrel
    by_cases hlt : k < n
    · obtain ⟨q, hq⟩ : ∃ q, l[k]? = some q := ⟨_, List.getElem?_eq_getElem (by have := HN.out; omega)⟩
      obtain ⟨ad, had, x0, x1, x2, x3, x4, x5⟩ := op_cells (Kd.C_below HC.out HD.out.a.a.below) hq
      have z0 : (0 : Int) ≤ (k : Int) := by omega
      have z1 : (k : Int) < (n : Int) := by omega
      have z2 : (k : Int) < (c : Int) := by omega
      have hsq := (HSM.out).2 (askP q) (List.mem_of_getElem? (by rw [List.getElem?_map, hq]; rfl))
      have hq1 : (askP q).path.length ≤ 600 := hsq.1
      have hq2 : (askP q).dst.length ≤ 600 := hsq.2.1
      have hq3 : (askP q).data.length ≤ 2000 := hsq.2.2
      have HQ := Lib.hid hq
      subst had
      clear hq hsq
      by_cases hat : (k : Int) = m
      · have hatb : ((k : Int) == m) = true := by rw [hat]; simp
        have HAT := Lib.hid hat
        clear hat
        go_wp2_with fail
        refine (copy_ts HD.out.a.a.ts (by omega)).mono ?_
        rintro e w7 ⟨tc2, Fc2, gc2, rfl, hT, hT2, hS, hB, hF⟩
        have HW := Lib.hid (And.intro hT2 (And.intro hB hF))
        have HPC2 := Lib.hid (HP.out.sim hS HD.out.a.a.ts.fine.good.inv)
        clear hT hT2 hS hB hF HPC
        go_wp2_with fail
        refine (kcopy_calls (HD.out.a.r.below HW.out.2.1) (Nat.le_trans HD.out.a.a.below.size HW.out.2.1.size) (by have := HP.out.en; omega) (by have := HP.out.tn; omega)).mono ?_
        rintro e w8 ⟨kw2, Gc2, rfl, hK, hB, hG⟩
        have HD9 := Lib.hid (Four.start HD.out.a HW.out.1 HW.out.2.1 HW.out.2.2 hK hB hG)
        clear hK hB hG HW HD hatb
        have HD := HD9
        have HPC := HPC2
        clear HD9 HPC2
        obtain ⟨x0, x1, x2, x3, x4, x5⟩ := op_at (Kd.C_below HC.out HD.out.a.a.below) HQ.out
        go_upto_region 15 with fail
        have HD0 := Lib.hid (HD.out.more (Below.drew (Below.refl _ _)))
        obtain ⟨r1, hr1⟩ : ∃ r, step g (askP q) = r := ⟨_, rfl⟩
        obtain ⟨g1, a1⟩ := r1
        have HG1 := Lib.hid hr1
        have hnm : a1.names.length ≤ 1000 := by have h1 := step_names HD0.out.a.a.ts.fine (askP q); rw [hr1] at h1; have h2 : a1.names.length ≤ _ := h1; omega
        have HNM := Lib.hid hnm
        clear hr1 hnm x0 x1 x2 x3 x4 x5
        have HF0 := Lib.hid HD0.out.a.a.ts.fine
        go_region_held3 (fun W => W.cell? (ad.add (k * 6)) = some (.int .i64 q.f0) ∧ W.cell? ⟨(ad.add (k * 6)).block, (ad.add (k * 6)).off + 1, none⟩ = some (.string q.f1) ∧ W.cell? ⟨(ad.add (k * 6)).block, (ad.add (k * 6)).off + 2, none⟩ = some (.string q.f2) ∧ W.cell? ⟨(ad.add (k * 6)).block, (ad.add (k * 6)).off + 3, none⟩ = some (.int .i64 q.f3) ∧ W.cell? ⟨(ad.add (k * 6)).block, (ad.add (k * 6)).off + 4, none⟩ = some (.int .i64 q.f4) ∧ W.cell? ⟨(ad.add (k * 6)).block, (ad.add (k * 6)).off + 5, none⟩ = some (.string q.f5)) (first | exact op_at (Kd.C_below HC.out HD0.out.a.a.below) HQ.out | exact op_at (Kd.C_below HC.out HD1.out.a.a.below) HQ.out | exact op_at (Kd.C_below HC.out HD2.out.a.a.below) HQ.out | exact op_at (Kd.C_below HC.out HD3.out.a.a.below) HQ.out) (first | (go_at_call 13; refine (do_at_tab HD0.out.a.a.ts (by omega) (HT0.out.below HD0.out.a.a.below) q (by omega) (by omega) (by omega) HG1.out).mono ?_; rintro e v1 ⟨F1, A1, c1, rfl, hT, hX, hS, hA⟩; have HH1 := Lib.hid (HD0.out.a.heldT hX hS hA); have HD1 := Lib.hid (HD0.out.doT hT hX); clear hT hX hS hA) | (go_at_call 22; refine (kdo_q HD1.out.a.r HD1.out.a.a.below.size HP.out HF0.out (by omega) q (by omega) (by omega) (by omega) HG1.out).mono ?_; rintro e v2 ⟨G2, E2, T2, A2, c2, rfl, hK, hP, hX, hS⟩; have HH2 := Lib.hid (HH1.out.ext hX); have HS2 := Lib.hid hS; have HP2 := Lib.hid hP; have HD2 := Lib.hid (HD1.out.doK hK hX); clear hK hP hX hS) | (go_at_call 14; refine (same17_calls a1 a1 A1 A2 c1 c2 _ (by have := HNM.out; omega) HH2.out.names HS2.out true (by simp)).mono ?_; rintro e v3 ⟨rfl, hB⟩; have HD3 := Lib.hid (HD2.out.more hB); clear hB))
        rename_i hHeld
        clear hHeld
        go_wp2_with fail
        go_roundw
        case rel => exact ⟨k + 1, k, _, _, _, _, _, _, _, _, _, _, _, _, by omega, by omega, by go_num, rfl, rfl, HD3, HP2, HPC⟩
        case measure => simp [intOf]; omega
      · have hatb : ((k : Int) == m) = false := beq_eq_false_iff_ne.2 hat
        clear hat
        go_upto_region 15 with fail
        have HD0 := Lib.hid (HD.out.more (Below.drew (Below.refl _ _)))
        obtain ⟨r1, hr1⟩ : ∃ r, step g (askP q) = r := ⟨_, rfl⟩
        obtain ⟨g1, a1⟩ := r1
        have HG1 := Lib.hid hr1
        have hnm : a1.names.length ≤ 1000 := by have h1 := step_names HD0.out.a.a.ts.fine (askP q); rw [hr1] at h1; have h2 : a1.names.length ≤ _ := h1; omega
        have HNM := Lib.hid hnm
        clear hr1 hnm x0 x1 x2 x3 x4 x5
        have HF0 := Lib.hid HD0.out.a.a.ts.fine
        go_region_held3 (fun W => W.cell? (ad.add (k * 6)) = some (.int .i64 q.f0) ∧ W.cell? ⟨(ad.add (k * 6)).block, (ad.add (k * 6)).off + 1, none⟩ = some (.string q.f1) ∧ W.cell? ⟨(ad.add (k * 6)).block, (ad.add (k * 6)).off + 2, none⟩ = some (.string q.f2) ∧ W.cell? ⟨(ad.add (k * 6)).block, (ad.add (k * 6)).off + 3, none⟩ = some (.int .i64 q.f3) ∧ W.cell? ⟨(ad.add (k * 6)).block, (ad.add (k * 6)).off + 4, none⟩ = some (.int .i64 q.f4) ∧ W.cell? ⟨(ad.add (k * 6)).block, (ad.add (k * 6)).off + 5, none⟩ = some (.string q.f5)) (first | exact op_at (Kd.C_below HC.out HD0.out.a.a.below) HQ.out | exact op_at (Kd.C_below HC.out HD1.out.a.a.below) HQ.out | exact op_at (Kd.C_below HC.out HD2.out.a.a.below) HQ.out | exact op_at (Kd.C_below HC.out HD3.out.a.a.below) HQ.out) (first | (go_at_call 13; refine (do_at_tab HD0.out.a.a.ts (by omega) (HT0.out.below HD0.out.a.a.below) q (by omega) (by omega) (by omega) HG1.out).mono ?_; rintro e v1 ⟨F1, A1, c1, rfl, hT, hX, hS, hA⟩; have HH1 := Lib.hid (HD0.out.a.heldT hX hS hA); have HD1 := Lib.hid (HD0.out.doT hT hX); clear hT hX hS hA) | (go_at_call 22; refine (kdo_q HD1.out.a.r HD1.out.a.a.below.size HP.out HF0.out (by omega) q (by omega) (by omega) (by omega) HG1.out).mono ?_; rintro e v2 ⟨G2, E2, T2, A2, c2, rfl, hK, hP, hX, hS⟩; have HH2 := Lib.hid (HH1.out.ext hX); have HS2 := Lib.hid hS; have HP2 := Lib.hid hP; have HD2 := Lib.hid (HD1.out.doK hK hX); clear hK hP hX hS) | (go_at_call 14; refine (same17_calls a1 a1 A1 A2 c1 c2 _ (by have := HNM.out; omega) HH2.out.names HS2.out true (by simp)).mono ?_; rintro e v3 ⟨rfl, hB⟩; have HD3 := Lib.hid (HD2.out.more hB); clear hB))
        rename_i hHeld
        clear hHeld
        go_wp2_with fail
        go_roundw
        case rel => exact ⟨k + 1, kc, _, _, _, _, _, _, _, _, _, _, _, _, by omega, by omega, by go_num, rfl, rfl, HD3, HP2, HPC⟩
        case measure => simp [intOf]; omega
    · obtain rfl : k = n := by omega
      go_wp2_with fail
      refine (count_ts HD.out.a.a.ts (by omega)).mono ?_
      rintro e w7 ⟨rfl, hT, hB⟩
      have HD1 := Lib.hid (HD.out.more hB)
      clear hT hB HD
      go_wp2_with fail
      refine (kcount_calls HD1.out.a.r HP.out.rel HD1.out.a.a.ts.fine.good.inv (by have := HP.out.en; omega) (by have := HP.out.tn; omega) HD1.out.a.a.ts.fine.good.inv.small).mono ?_
      rintro e w8 ⟨rfl, rfl⟩
      have HE0 := Lib.hid HD1.out.b
      clear HD1 HP
      go_wp2_with fail
      go_loopw [16] (fun i W => ∃ (j : Nat) (Fc : Nat → Prop) (gc : St) (Gc : Nat → Prop) (Ew : List (Str × Nat)) (Tw : List (Bool × Str)), j ≤ k ∧ i = .int .i64 j ∧ Hid (Duo w W (kc + j) Fc tc gc Gc kw Ew Tw) ∧ Hid (KP (kc + j) gc Ew Tw)) (fun i _ => k - (intOf i).toNat)
      case atStart => exact ⟨0, _, _, _, _, _, Nat.zero_le _, rfl, HE0, HPC⟩
      case round =>
        clear HE0 HPC
        obtain ⟨j, F, g, G, E, T, hj, rfl, HD, HP⟩ := hrel
        by_cases hlt2 : j < k
        · obtain ⟨q, hq⟩ : ∃ q, l[j]? = some q := ⟨_, List.getElem?_eq_getElem (by have := HN.out; omega)⟩
          obtain ⟨ad, had, x0, x1, x2, x3, x4, x5⟩ := op_cells (Kd.C_below HC.out HD.out.a.below) hq
          have z0 : (0 : Int) ≤ (j : Int) := by omega
          have z1 : (j : Int) < (k : Int) := by omega
          have z2 : (j : Int) < (c : Int) := by omega
          have hsq := (HSM.out).2 (askP q) (List.mem_of_getElem? (by rw [List.getElem?_map, hq]; rfl))
          have hq1 : (askP q).path.length ≤ 600 := hsq.1
          have hq2 : (askP q).dst.length ≤ 600 := hsq.2.1
          have hq3 : (askP q).data.length ≤ 2000 := hsq.2.2
          have HQ := Lib.hid hq
          subst had
          clear hq hsq
          go_upto_region 22 with fail
          have HD0 := Lib.hid (HD.out.more (Below.drew (Below.refl _ _)))
          obtain ⟨r1, hr1⟩ : ∃ r, step g (askP q) = r := ⟨_, rfl⟩
          obtain ⟨g1, a1⟩ := r1
          have HG1 := Lib.hid hr1
          have hnm : a1.names.length ≤ 1000 := by have h1 := step_names HD0.out.a.ts.fine (askP q); rw [hr1] at h1; have h2 : a1.names.length ≤ _ := h1; omega
          have HNM := Lib.hid hnm
          clear hr1 hnm x0 x1 x2 x3 x4 x5
          have HF0 := Lib.hid HD0.out.a.ts.fine
          go_region_held3 (fun W => W.cell? (ad.add (j * 6)) = some (.int .i64 q.f0) ∧ W.cell? ⟨(ad.add (j * 6)).block, (ad.add (j * 6)).off + 1, none⟩ = some (.string q.f1) ∧ W.cell? ⟨(ad.add (j * 6)).block, (ad.add (j * 6)).off + 2, none⟩ = some (.string q.f2) ∧ W.cell? ⟨(ad.add (j * 6)).block, (ad.add (j * 6)).off + 3, none⟩ = some (.int .i64 q.f3) ∧ W.cell? ⟨(ad.add (j * 6)).block, (ad.add (j * 6)).off + 4, none⟩ = some (.int .i64 q.f4) ∧ W.cell? ⟨(ad.add (j * 6)).block, (ad.add (j * 6)).off + 5, none⟩ = some (.string q.f5)) (first | exact op_at (Kd.C_below HC.out HD0.out.a.below) HQ.out | exact op_at (Kd.C_below HC.out HD1.out.a.below) HQ.out | exact op_at (Kd.C_below HC.out HD2.out.a.below) HQ.out | exact op_at (Kd.C_below HC.out HD3.out.a.below) HQ.out) (first | (go_at_call 13; refine (do_at_tab HD0.out.a.ts (by omega) (HT0.out.below HD0.out.a.below) q (by omega) (by omega) (by omega) HG1.out).mono ?_; rintro e v1 ⟨F1, A1, c1, rfl, hT, hX, hS, hA⟩; have HH1 := Lib.hid (HD0.out.heldT hX hS hA); have HD1 := Lib.hid ((HD0.out.doT hT hX).1); clear hT hX hS hA) | (go_at_call 22; refine (kdo_q HD1.out.r HD1.out.a.below.size HP.out HF0.out (by omega) q (by omega) (by omega) (by omega) HG1.out).mono ?_; rintro e v2 ⟨G2, E2, T2, A2, c2, rfl, hK, hP, hX, hS⟩; have HH2 := Lib.hid (HH1.out.ext hX); have HS2 := Lib.hid hS; have HP2 := Lib.hid hP; have HD2 := Lib.hid ((HD1.out.doK hK hX).1); clear hK hP hX hS) | (go_at_call 14; refine (same17_calls a1 a1 A1 A2 c1 c2 _ (by have := HNM.out; omega) HH2.out.names HS2.out true (by simp)).mono ?_; rintro e v3 ⟨rfl, hB⟩; have HD3 := Lib.hid (HD2.out.more hB); clear hB))
          rename_i hHeld
          clear hHeld
          go_wp2_with fail
          go_roundw
          case rel => exact ⟨j + 1, _, _, _, _, _, by omega, by go_num, HD3, HP2⟩
          case measure => simp [intOf]; omega
        · obtain rfl : j = k := by omega
          go_wp2_with fail
          refine (live_calls _).mono ?_
          rintro e wl ⟨rfl, hBl⟩
          have HBl := Lib.hid (bstep (HD.out.a.below) hBl)
          clear hBl
          go_wp2_with fail
          go_ret
          exact ⟨rfl, HBl.out⟩
end Go.Proofs.YtaccokghjpcijaaGreatDoor
namespace Go.Proofs.YtaccokghjpcijaaGreatDoor
open Go.ChangeShapes Go.WideShapes Go.ChangeAt Go.RowKit Go.ChangeMaps Pp
set_option linter.unusedVariables false

theorem scripts_tab {W : World} (hL : laidMetH Tryz.prog Rows.modelScriptsRow.laid W) : TabW W := by
  rw [MakeChecks.laidMetH_plain _ _ _ (by kernel_rfl)] at hL
  have h1 := laidMet.filter (fun x => x.1 == "internal/strconv.uint64pow10") hL
  have e : List.filter (fun x => x.1 == "internal/strconv.uint64pow10") Rows.modelScriptsRow.laid = [("internal/strconv.uint64pow10", Lib.tabData .u64 Lib.pow10Tab)] := by kernel_rfl
  rw [e] at h1
  exact Lib.tabIs_of_head (g := 3) (t := 157) (e := 135) (n := 20) (by kernel_rfl) (by kernel_rfl) (by kernel_rfl) (by kernel_rfl) (by kernel_rfl) (by kernel_rfl) h1
set_option maxRecDepth 100000 in
/-- What the walk gives, for every argument. -/
theorem modelScripts_contract (H : Type) (enc : TypeId × Value → H) (W : World) (base : Nat) (args : Array Value) (ds gs : List (DataW H)) (before : List MemPlace)
    (hval0 : ∀ (j : Nat) t v, Tryz.f6.params[j]? = some t → args[j]? = some v → Value.okWide Tryz.prog W .any base t v)
    (hW : DataW.Whole enc Tryz.prog Tryz.f6.params.toList Rows.modelScriptsSpec.vars false W args.toList ds gs before) (hL : laidMetH Tryz.prog Rows.modelScriptsRow.laid W) :
    Calls Tryz.prog 6 args W fun e W' => ∃ v, e = .returned v ∧ Rows.modelScriptsSpec.post enc Tryz.prog Tryz.f6 false true false false W args v W' := by
  have hval : ∀ (j : Nat) t v, Tryz.f6.params[j]? = some t → args[j]? = some v → Value.okWide Tryz.prog W .any base t v := hval0
  have hW' := hW
  obtain ⟨p, q, hA0, hV, rfl, hfz, hnd⟩ := hW
  have hA : DataW.TrodAll enc Tryz.prog W 0 (fun _ => true) true Tryz.f6.params.toList args.toList ds p := hA0
  rw [Tryz.params6] at hA hval
  obtain ⟨v0, vs0, d0, ds0, p0, q0, hargs, rfl, rfl, h0, r0⟩ := trodAll_cons hA
  obtain ⟨v1, vs1, d1, ds1, p1, q1, ha1, rfl, rfl, h1, r1⟩ := trodAll_cons r0
  obtain ⟨rfl, rfl, rfl⟩ := trodAll_nil r1
  obtain rfl : args = #[v0, v1] := by cases args; simp_all
  obtain ⟨rfl, rfl⟩ := trodVars_none hV
  have k0 := h0
  have lt0 : ∀ x ∈ p0, x.block < W.heap.size := by obtain ⟨m, hm⟩ := k0; exact DataW.trod_lt m _ _ _ hm
  have k1 := h1
  have lt1 : ∀ x ∈ p1, x.block < W.heap.size := by obtain ⟨m, hm⟩ := k1; exact DataW.trod_lt m _ _ _ hm
  obtain ⟨A0, c0, l0, hc0, hC0, hl0⟩ := ops_arg (hval 0 22 v0 rfl rfl) h0
  subst hc0
  obtain ⟨n1, rfl⟩ := int_arg (hval 1 3 v1 rfl rfl) h1
  clear hA0 hval0
  refine (scripts_walk A0 c0 l0 hC0 hl0 n1 (scripts_tab hL)).mono fun e W' ⟨he, bel⟩ => ?_
  subst he
  exact ⟨_, rfl, _, _, _, [], _, [], hW', trodAll_mk1 (shut_bool Tryz.underlying4 _), (trodAll_cons_mk (Below.trod laidOut (by kernel_rfl) (of_decide_eq_true (by kernel_rfl)) k0 bel lt0) (trodAll_cons_mk (Below.trod laidOut (by kernel_rfl) (of_decide_eq_true (by kernel_rfl)) k1 bel lt1) trodAll_mk0)), rfl, bel.frame _, fun h => by cases h⟩

theorem modelScripts_reads (os : Os) {H : Type} (enc : TypeId × Value → H) : ∃ places, DataW.whole enc Tryz.prog ((World.laidAll Tryz.prog os Rows.modelScriptsRow.laid).forCall (fun _ _ => 0) ⟨#[], #[.slice none 0 0, .int .i64 0], []⟩).memory Tryz.f6.params.toList Rows.modelScriptsSpec.vars false (#[.slice none 0 0, .int .i64 0] : Array Value).toList 8 = some ([.nil, .lit (.int .i64 0)], [], places) :=
  ⟨[], by kernel_rfl⟩
theorem modelScripts_met (os : Os) : laidMetH Tryz.prog Rows.modelScriptsRow.laid ((World.laidAll Tryz.prog os Rows.modelScriptsRow.laid).forCall (fun _ _ => 0) ⟨#[], #[.slice none 0 0, .int .i64 0], []⟩).memory := by
  rw [MakeChecks.laidMetH_plain _ _ _ (by kernel_rfl)]
  exact laidMet_laidAll _ (by kernel_rfl) (by kernel_rfl)

set_option maxRecDepth 100000 in
theorem modelScripts_lifted (os : Os) (started : os.Started) (H : Type) (enc : TypeId × Value → H) (F : Stop.Interp) :
    ReturnsInHanded {} Tryz.checked os 6 .any ((OpenSpec.ofChange Rows.modelScriptsSpec).preRow enc Tryz.prog Tryz.f6 Rows.modelScriptsRow.domain false Rows.modelScriptsRow.laid) (((OpenSpec.ofChange Rows.modelScriptsSpec).at F).post enc Tryz.prog Tryz.f6 false true false false) := by
  obtain ⟨places, hx⟩ := modelScripts_reads os enc
  refine returnsInHanded_of_row (C := Tryz.checked) (s := OpenSpec.ofChange Rows.modelScriptsSpec) own started (by kernel_rfl) Tryz.func6
    (witness_row_at (enc := enc) (C := Tryz.checked) false (World.laidAll Tryz.prog os Rows.modelScriptsRow.laid) #[.slice none 0 0, .int .i64 0] (World.laidAll_os _ _ _) (by kernel_rfl) (by kernel_rfl) (by kernel_rfl)
      (OpenSpec.preRow_of_cond 8 hx (by kernel_rfl) (fun k hk => by cases hk) (by kernel_rfl) (modelScripts_met os))) ?_
  intro W base args ds gs before hval hW _ hcond _ hL _ _
  exact modelScripts_contract H enc W base args ds gs before hval hW hL

theorem modelScripts_said : Rows.ModelScriptsSaid :=
  OpenClaim.holds_of_cond 6 Tryz.f6 rfl rfl rfl rfl rfl rfl rfl ⟨rfl, rfl, rfl, rfl, rfl⟩ rfl rfl rfl rfl rfl (by kernel_rfl) Tryz.func6 (by kernel_rfl)
    (of_decide_eq_true (by kernel_rfl)) (by unfold Func.isWrapper; first | (rw [if_pos (by decide +kernel)]; kernel_rfl) | (rw [if_neg (by decide +kernel)]; exact ⟨rfl, rfl⟩))
    (fun os started H enc _ F => by rw [OpenClaim.pre_eq_preRow]; exact modelScripts_lifted os started H enc F)

theorem modelScripts_plain (f : FuncId) (fn : Func) (hf : Tryz.pinned.checked.prog.funcNamed "permafrost/permafrostlaw17.ModelScripts" = some f) (hfn : Tryz.pinned.checked.prog.funcs[f]? = some fn) :
    false = Tryz.pinned.checked.prog.looks [] ∧ ∀ (j : Nat) t, fn.params[j]? = some t → Tryz.pinned.checked.prog.wantsStandIn t = false := by
  obtain rfl : f = 6 := Option.some.inj ((show Tryz.prog.funcNamed "permafrost/permafrostlaw17.ModelScripts" = some 6 by kernel_rfl).symm.trans hf) |>.symm
  obtain rfl : fn = Tryz.f6 := (Option.some.inj (Tryz.func6.symm.trans hfn)).symm
  refine ⟨by kernel_rfl, fun j t ht => ?_⟩
  rw [Tryz.params6] at ht
  have hm : t ∈ [22, 3] := by simpa using Array.mem_of_getElem? ht
  have hall : ([22, 3].all fun u => !Tryz.prog.wantsStandIn u) = true := by kernel_rfl
  exact (show Tryz.prog.wantsStandIn t = false by simpa using List.all_eq_true.1 hall t hm)

theorem modelScripts_card : Rows.ModelScriptsCardSaid :=
  Claim7.holds_tied_plain_at .later [] _ _ _ _ modelScripts_said (fun _ h => by cases h) (by kernel_rfl) (fun _ h => by cases h) modelScripts_row_tie rfl ⟨rfl, rfl⟩ (by kernel_rfl) rfl modelScripts_plain (by kernel_rfl)
#print axioms modelScripts_card
end Go.Proofs.YtaccokghjpcijaaGreatDoor
