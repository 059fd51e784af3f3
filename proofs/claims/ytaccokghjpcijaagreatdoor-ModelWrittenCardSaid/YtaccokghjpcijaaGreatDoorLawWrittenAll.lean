/-
  What is written is read, by each entry of the file; what stood ahead of it, and behind, is as it was: whatever the script, the path, the place and the bytes (of more than 30 ops, or of longer ones, nothing is asked but the document's examples). The listed tables stand as the library's text lays them (tied).
-/
import Derived.Test.YtaccokghjpcijaaGreatDoorMH
import Derived.Deep.QuietTactic
import Derived.BigQuiet
import Derived.BigRegion
import Derived.RegionTactic
import Derived.Deep.RegionWith
set_option linter.unusedVariables false
set_option linter.unusedSimpArgs false
namespace Go.Proofs.YtaccokghjpcijaaGreatDoor
open Go Go.RowKit Pp Go.Proofs.YtaccokghjpcijaaGreatDoorW.PrintWords Go.Proofs.YtaccokghjpcijaaGreatDoorW.PrintLast Go.Proofs.YtaccokghjpcijaaGreatDoorW.PrintMore
attribute [local go_sem] max2_int min2_int max_two min_two

set_option maxRecDepth 100000 in
set_option maxHeartbeats 8000000 in
theorem written_walk {w : World} (A : Option Addr) (c : Nat) (l : List OpP) (hC : Kd.C PModelScripts.k35 w A l.length l) (hc : l.length ≤ c) (s1 : Str) (n2 : Int) (s3 : Str) :
    Calls Tryz.prog 3 #[.agg #[.slice A l.length c, .string (mk s1), .int .i64 n2, .string (mk s3)]] w fun e w' => e = .returned (.bool true) ∧ Below w.heap.size w w' := by
  have hl63 : l.length ≤ 9223372036854775807 := hC.2.1
  have hs1 : (mk s1).size = s1.length := mk_size _
  have hs3 : (mk s3).size = s3.length := mk_size _
  obtain ⟨n, hn⟩ : ∃ n, l.length = n := ⟨_, rfl⟩
  have HC := Lib.hid hC
  obtain ⟨r, hr⟩ : ∃ r, smallL (l.map askP) 30 = r := ⟨_, rfl⟩
  have hSm := fun W hW => small_calls A c l 30 r W (Kd.C_below hC hW) hc hl63 hr
  rw [hn] at hSm hc ⊢
  have HS := Lib.hid hSm
  have HN := Lib.hid hn
  have HR := Lib.hid hr
  clear hC hSm hn hl63 hr
  go_enter Tryz.func3, Tryz.ntmps3
  go_wp2_with fail
  go_quiet (fail)
  go_wp2_with fail
  have hb0 : Below w.heap.size w ((w.alloc (.cells #[.slice A n c, .string (mk s1), .int .i64 n2, .string (mk s3)] 24)).drewN nq) := bdrew (balloc (Below.refl _ _))
  have HB0 := Lib.hid hb0
  refine (HS.out _ hb0).mono ?_
  rintro e w1 ⟨rfl, hB⟩
  have HB1 := Lib.hid (bstep HB0.out hB)
  clear hB hb0
  cases r with
  | false =>
    go_wp2_with fail
    refine (live_calls _).mono ?_
    rintro e wl ⟨rfl, hBl⟩
    have HBl := Lib.hid (bstep (HB1.out) hBl)
    clear hBl
    go_wp2_with fail
    go_ret
    exact ⟨rfl, HBl.out⟩
  | true =>
  have HSM := Lib.hid (small_mem HR.out)
  by_cases h1 : 600 < (s1.length : Int)
  · go_wp2_with fail
    refine (live_calls _).mono ?_
    rintro e wl ⟨rfl, hBl⟩
    have HBl := Lib.hid (bstep (HB1.out) hBl)
    clear hBl
    go_wp2_with fail
    go_ret
    exact ⟨rfl, HBl.out⟩
  by_cases h2 : 2000 < (s3.length : Int)
  · go_wp2_with fail
    refine (live_calls _).mono ?_
    rintro e wl ⟨rfl, hBl⟩
    have HBl := Lib.hid (bstep (HB1.out) hBl)
    clear hBl
    go_wp2_with fail
    go_ret
    exact ⟨rfl, HBl.out⟩
  by_cases h3 : n2 < 0
  · go_wp2_with fail
    refine (live_calls _).mono ?_
    rintro e wl ⟨rfl, hBl⟩
    have HBl := Lib.hid (bstep (HB1.out) hBl)
    clear hBl
    go_wp2_with fail
    go_ret
    exact ⟨rfl, HBl.out⟩
  by_cases h4 : 10000 < n2
  · go_wp2_with fail
    refine (live_calls _).mono ?_
    rintro e wl ⟨rfl, hBl⟩
    have HBl := Lib.hid (bstep (HB1.out) hBl)
    clear hBl
    go_wp2_with fail
    go_ret
    exact ⟨rfl, HBl.out⟩
  obtain ⟨off, hoff⟩ : ∃ off : Nat, n2 = off := ⟨n2.toNat, by omega⟩
  subst hoff
  have hle : off ≤ 10000 := by omega
  have hn30 : n ≤ 30 := by have h := HSM.out.1; rw [List.length_map, HN.out] at h; omega
  go_wp2_with fail
  refine (new_ts _).mono ?_
  rintro e w2 ⟨tb, F0, rfl, hT, hB, hF0⟩
  have HA0 : Hid (At w (0 + 0) w2 F0 tb (run newS ((l.map askP).take 0))) := Lib.hid ⟨hT, bstep HB1.out hB, fun b hb => Nat.le_trans HB1.out.size (hF0 b hb)⟩
  clear hT hB hF0
  go_wp2_with fail
  go_loopw [8] (fun i W => ∃ (k : Nat) (F : Nat → Prop), k ≤ n ∧ i = .int .i64 k ∧ Hid (At w (0 + k) W F tb (run newS ((l.map askP).take k)))) (fun i _ => n - (intOf i).toNat)
  case atStart => exact ⟨0, _, Nat.zero_le _, rfl, HA0⟩
  case round =>
    obtain ⟨k, F, hk, rfl, HA⟩ := hrel
    by_cases hlt : k < n
    · obtain ⟨q, hq⟩ : ∃ q, l[k]? = some q := ⟨_, List.getElem?_eq_getElem (by have := HN.out; omega)⟩
      obtain ⟨ad, had, x0, x1, x2, x3, x4, x5⟩ := op_cells (Kd.C_below HC.out HA.out.below) hq
      have z0 : (0 : Int) ≤ (k : Int) := by omega
      have z1 : (k : Int) < (n : Int) := by omega
      have z2 : (k : Int) < (c : Int) := by omega
      have hsq := (HSM.out).2 (askP q) (List.mem_of_getElem? (by rw [List.getElem?_map, hq]; rfl))
      have HD := Lib.hid (do_q HA.out.ts (by omega) q (by omega) (by omega) (by omega))
      have HQ := Lib.hid hq
      subst had
      clear hq hsq
      go_wp2_with fail
      refine HD.out.mono ?_
      rintro e w1 ⟨F', A', c', rfl, hT, hX, hS, hA'⟩
      have HA1 := Lib.hid (HA.out.step hT hX)
      clear hT hX hS hA' HD x0 x1 x2 x3 x4 x5
      unfold ansV
      go_wp2_with fail
      go_roundw
      case rel => exact ⟨k + 1, F', by omega, by go_num, Lib.hid (by rw [run_take HQ.out]; exact HA1.out)⟩
      case measure => simp [intOf]; omega
    · obtain rfl : k = n := by omega
      have HA1 : Hid (At w (0 + k) wr F tb (run newS (l.map askP))) := by
        have h := HA.out
        rw [List.take_of_length_le (by rw [List.length_map]; have := HN.out; omega)] at h
        exact Lib.hid h
      clear HA
      obtain ⟨g0, hg0⟩ : ∃ g, run newS (l.map askP) = g := ⟨_, rfl⟩
      rw [hg0] at HA1
      clear HA0 hg0
      have HA0 := HA1
      clear HA1
      have HI := Lib.hid HA0.out.ts.fine.good.inv
      have hs3l : s3.length ≤ 2000 := by omega
      have hs1l : s1.length ≤ 600 := by omega
      go_wp2_with fail
      obtain ⟨r1, hr1⟩ : ∃ r, step g0 ⟨6, s1, [], 0, 20000, []⟩ = r := ⟨_, rfl⟩
      obtain ⟨g1, a1⟩ := r1
      have HG1 := Lib.hid hr1
      have HD := Lib.hid (do_at HA0.out.ts (by omega) ⟨6, s1, [], 0, 20000, []⟩ (by simp; try omega) (by simp; try omega) (by simp; try omega) hr1)
      clear hr1
      refine HD.out.mono ?_
      rintro e v1 ⟨F1, A1, c1, rfl, hT, hX, hS, hA⟩
      obtain ⟨b1, hb1⟩ : ∃ b, v1.heap.size = b := ⟨_, rfl⟩
      obtain ⟨w1, hw1⟩ : ∃ w, v1.alloc (.cells #[.int .i64 a1.code, .int .i64 a1.n, .string (mk a1.data), .slice A1 a1.names.length c1] 32) = w := ⟨_, rfl⟩
      obtain ⟨hT2, hX2, hbx⟩ := boxed (a := a1) hT hX hS hA hw1
      rw [hb1] at hbx
      have HX1 := Lib.hid hX2
      have HA1 := Lib.hid (HA0.out.step hT2 hX2)
      have HBX1 := Lib.hid hbx
      have HW := Lib.hid hw1
      have HBB := Lib.hid hb1
      clear hT hX hT2 hX2 hS hA hbx hw1 hb1 HD
      unfold ansV
      go_wp2_with fail
      rw [HBB.out, HW.out]
      clear HW HBB
      obtain ⟨r2, hr2⟩ : ∃ r, step g1 ⟨7, s1, [], off, 0, s3⟩ = r := ⟨_, rfl⟩
      obtain ⟨g2, a2⟩ := r2
      have HG2 := Lib.hid hr2
      have HD := Lib.hid (do_at HA1.out.ts (by omega) ⟨7, s1, [], off, 0, s3⟩ (by simp; try omega) (by simp; try omega) (by simp; try omega) hr2)
      clear hr2
      refine HD.out.mono ?_
      rintro e v2 ⟨F2, A2, c2, rfl, hT, hX, hS, hA⟩
      obtain ⟨b2, hb2⟩ : ∃ b, v2.heap.size = b := ⟨_, rfl⟩
      obtain ⟨w2, hw2⟩ : ∃ w, v2.alloc (.cells #[.int .i64 a2.code, .int .i64 a2.n, .string (mk a2.data), .slice A2 a2.names.length c2] 32) = w := ⟨_, rfl⟩
      obtain ⟨hT2, hX2, hbx⟩ := boxed (a := a2) hT hX hS hA hw2
      rw [hb2] at hbx
      have HX2 := Lib.hid hX2
      have HA2 := Lib.hid (HA1.out.step hT2 hX2)
      have HBX2 := Lib.hid hbx
      have HW := Lib.hid hw2
      have HBB := Lib.hid hb2
      clear hT hX hT2 hX2 hS hA hbx hw2 hb2 HD
      unfold ansV
      go_wp2_with fail
      rw [HBB.out, HW.out]
      clear HW HBB
      obtain ⟨r3, hr3⟩ : ∃ r, step g2 ⟨6, s1, [], 0, 20000, []⟩ = r := ⟨_, rfl⟩
      obtain ⟨g3, a3⟩ := r3
      have HG3 := Lib.hid hr3
      have HD := Lib.hid (do_at HA2.out.ts (by omega) ⟨6, s1, [], 0, 20000, []⟩ (by simp; try omega) (by simp; try omega) (by simp; try omega) hr3)
      clear hr3
      refine HD.out.mono ?_
      rintro e v3 ⟨F3, A3, c3, rfl, hT, hX, hS, hA⟩
      obtain ⟨b3, hb3⟩ : ∃ b, v3.heap.size = b := ⟨_, rfl⟩
      obtain ⟨w3, hw3⟩ : ∃ w, v3.alloc (.cells #[.int .i64 a3.code, .int .i64 a3.n, .string (mk a3.data), .slice A3 a3.names.length c3] 32) = w := ⟨_, rfl⟩
      obtain ⟨hT2, hX2, hbx⟩ := boxed (a := a3) hT hX hS hA hw3
      rw [hb3] at hbx
      have HX3 := Lib.hid hX2
      have HA3 := Lib.hid (HA2.out.step hT2 hX2)
      have HBX3 := Lib.hid hbx
      have HW := Lib.hid hw3
      have HBB := Lib.hid hb3
      clear hT hX hT2 hX2 hS hA hbx hw3 hb3 HD
      unfold ansV
      go_wp2_with fail
      rw [HBB.out, HW.out]
      clear HW HBB
      obtain ⟨r4, hr4⟩ : ∃ r, step g3 ⟨6, s1, [], off, s3.length, []⟩ = r := ⟨_, rfl⟩
      obtain ⟨g4, a4⟩ := r4
      have HG4 := Lib.hid hr4
      have HD := Lib.hid (do_at HA3.out.ts (by omega) ⟨6, s1, [], off, s3.length, []⟩ (by simp; try omega) (by simp; try omega) (by simp; try omega) hr4)
      clear hr4
      refine HD.out.mono ?_
      rintro e v4 ⟨F4, A4, c4, rfl, hT, hX, hS, hA⟩
      obtain ⟨w4, hw4⟩ : ∃ w, v4.alloc (.cells #[.int .i64 a4.code, .int .i64 a4.n, .string (mk a4.data), .slice A4 a4.names.length c4] 32) = w := ⟨_, rfl⟩
      obtain ⟨hT2, hX2, hbx⟩ := boxed (a := a4) hT hX hS hA hw4
      have HA4 := Lib.hid (HA3.out.step hT2 hX2)
      have Z4 := Lib.hid hbx
      have Y3 := HBX3.out.ext (hX)
      have Z3 := Lib.hid (HBX3.out.ext (hX2))
      obtain ⟨y30, y31, y32, y33⟩ := Y3.cells
      have yl3 := some_lt Y3.at_
      have Y2 := HBX2.out.ext (HX3.out.trans (hX))
      have Z2 := Lib.hid (HBX2.out.ext (HX3.out.trans (hX2)))
      obtain ⟨y20, y21, y22, y23⟩ := Y2.cells
      have yl2 := some_lt Y2.at_
      have Y1 := HBX1.out.ext (HX2.out.trans (HX3.out.trans (hX)))
      have Z1 := Lib.hid (HBX1.out.ext (HX2.out.trans (HX3.out.trans (hX2))))
      obtain ⟨y10, y11, y12, y13⟩ := Y1.cells
      have yl1 := some_lt Y1.at_
      have HW := Lib.hid hw4
      clear hT hX hT2 hX2 hS hA hbx hw4 HD Y1 Y2 Y3 HX1 HBX1 HX2 HBX2 HX3 HBX3
      unfold ansV
      have hP := written_at HI.out hle hs3l HG1.out HG2.out HG3.out HG4.out
      obtain ⟨hP1, hP2, hP3, hl1, hl3, hn1⟩ := hP
      have t1 := mk_list a1.data
      have t3 := mk_list a3.data
      have t4 := mk_list a4.data
      have ts3 := mk_list s3
      have zd1 : (mk a1.data).size = a1.data.length := mk_size _
      have zd3 : (mk a3.data).size = a3.data.length := mk_size _
      have zd4 : (mk a4.data).size = a4.data.length := mk_size _
      by_cases hw : a2.code = 0
      · have HWC := Lib.hid hw
        have hwb : (a2.code != 0) = false := by rw [hw]; rfl
        replace hP2 := hP2 hw
        replace hP3 := hP3 hw
        clear hP1 hw
        by_cases hd : s3 = []
        · have hP2 := Lib.hid (hP2 hd)
          have hb : (s3 == []) = true := by rw [hd]; rfl
          have HD := Lib.hid hd
          have HN1 := Lib.hid hn1
          clear hP3 hd hn1
          go_wp2_with fail
          rw [HW.out]
          refine (same17_calls a1 a3 A1 A3 c1 c3 w4 (by rw [HN1.out]; simp) Z1.out.names Z3.out.names true (by simp [hP2.out])).mono ?_
          rintro e w5 ⟨rfl, hB⟩
          have HB5 := Lib.hid (bstep HA4.out.below hB)
          clear hB
          go_wp2_with fail
          refine (live_calls _).mono ?_
          rintro e wl ⟨rfl, hBl⟩
          have HBl := Lib.hid (bstep (HB5.out) hBl)
          clear hBl
          go_wp2_with fail
          go_ret
          exact ⟨rfl, HBl.out⟩
        · obtain ⟨p1, p2, p3, p4, p5⟩ := hP3 hd
          have hb : (s3 == []) = false := beq_eq_false_iff_ne.2 hd
          have HD := Lib.hid hd
          have HP4 := Lib.hid p4
          have HP5 := Lib.hid p5
          obtain ⟨K, hK⟩ : ∃ K : Nat, max a1.data.length (off + s3.length) = a1.data.length + K := ⟨max a1.data.length (off + s3.length) - a1.data.length, by omega⟩
          have HK := Lib.hid hK
          have HP1 := Lib.hid p1
          have HP2 := Lib.hid p2
          have hg1 : (a4.data == s3) = true := by rw [p2]; simp
          have hg2 : (a4.data != s3) = false := by rw [p2]; simp
          have hKb : K ≤ 16384 := by omega
          by_cases hm : off + s3.length ≤ a1.data.length
          · have zm : (off : Int) + (s3.length : Int) ≤ (a1.data.length : Int) := by omega
            have p1i : (a3.data.length : Int) = (a1.data.length : Int) := by omega
            have HK0 := Lib.hid (show K = 0 by omega)
            clear hP2 hd p1 p2 p4 p5 hK hm
            go_wp2_with fail
            rw [HW.out]
            clear y10 y11 y12 y13 y20 y21 y22 y23 y30 y31 y32 y33 yl1 yl2 yl3
            have x1 := Z1.out.cells.2.2.1
            have x3 := Z3.out.cells.2.2.1
            have HX1 := Lib.hid (show w4.drew.cell? ⟨b1, 2, none⟩ = some (.string (mk a1.data)) from x1)
            have HX3 := Lib.hid x3
            have HB4 := Lib.hid HA4.out.below
            obtain ⟨old, hold⟩ : ∃ s, a1.data ++ List.replicate K 0 = s := ⟨_, rfl⟩
            have hcat : mk a1.data ++ mk (List.replicate K 0) = mk old := by rw [mk_append, hold]
            have zK : (mk (List.replicate K (0 : UInt8))).size = K := by rw [mk_size, List.length_replicate]
            have zo : (mk old).size = old.length := mk_size _
            have zol : old.length = a1.data.length + K := by rw [← hold, List.length_append, List.length_replicate]
            have HO := Lib.hid hold
            clear hold
            have HZ := Lib.hid (fun W => zeros_calls K (IntKind.i64.wrap (0)) (by rw [Go.IntWalk.i64_in _ (by omega), HK0.out]; rfl) (by omega) W)
            go_region_with (first | (go_at_call 15; refine (HZ.out _).mono ?_; rintro e w5 ⟨rfl, hB5⟩; have y5 := pw_cell_below hB5 HX1.out))
            all_goals
              have y3 := pw_cell_below hB5 (show w4.drew.cell? ⟨b3, 2, none⟩ = some (.string (mk a3.data)) from HX3.out)
              have hkk : max a1.data.length (off + s3.length) - a1.data.length = K := by have := HK.out; omega
              have hp4 := HP4.out
              have hp5 := HP5.out
              rw [hkk, HO.out] at hp4 hp5
              have e1 : (mk a3.data).extract 0 off = mk (a3.data.take off) := by rw [mk_extract]; simp
              have e2 : (mk old).extract 0 off = mk (a3.data.take off) := by rw [mk_extract, hp4]; simp
              have t5 := mk_list (a3.data.take off)
              obtain ⟨oe, hoe⟩ : ∃ oe, off + s3.length = oe := ⟨_, rfl⟩
              rw [hoe] at hp5
              have e3 : (mk a3.data).extract oe a3.data.length = mk (a3.data.drop oe) := by rw [mk_extract, List.take_of_length_le (by rw [List.length_drop]; omega)]
              have e4 : (mk old).extract oe old.length = mk (a3.data.drop oe) := by rw [mk_extract, hp5, List.take_of_length_le (by rw [List.length_drop]; omega)]
              have t6 := mk_list (a3.data.drop oe)
              have ew : IntKind.i64.wrap ((off : Int) + (s3.length : Int)) = (oe : Int) := by rw [Go.IntWalk.i64_in _ (by omega)]; omega
              have zs1 : (off : Int) ≤ (a3.data.length : Int) := by omega
              have zs2 : (off : Int) ≤ (old.length : Int) := by have := HK.out; omega
              have zs3 : (oe : Int) ≤ (a3.data.length : Int) := by omega
              have zs4 : (oe : Int) ≤ (old.length : Int) := by have := HK.out; omega
              have zs5 : (0 : Int) ≤ (oe : Int) := by omega
              clear hoe hp4 hp5 hkk x1 x3 y5 p1i hcat zK zol
              have HB6 := Lib.hid (bstep HB4.out.drew hB5)
              go_wp2_with fail
              go_still_tail 25, (by kernel_rfl)
              go_wp2_with fail
              refine (live_calls _).mono ?_
              rintro e wl ⟨rfl, hBl⟩
              have HBl := Lib.hid (show Below w.heap.size w wl from by first | exact bstep HB6.out hBl | exact bstep HB6.out.drew hBl | exact bstep (pw_below_drewN HB6.out _) hBl)
              clear hBl
              go_wp2_with fail
              go_ret
              exact ⟨rfl, HBl.out⟩
          · have zm : (a1.data.length : Int) < (off : Int) + (s3.length : Int) := by omega
            have p1i : (a3.data.length : Int) = (off : Int) + (s3.length : Int) := by omega
            have hKv : (K : Int) = (off : Int) + (s3.length : Int) - (a1.data.length : Int) := by omega
            clear hP2 hd p1 p2 p4 p5 hK hm
            go_wp2_with fail
            rw [HW.out]
            clear y10 y11 y12 y13 y20 y21 y22 y23 y30 y31 y32 y33 yl1 yl2 yl3
            have x1 := Z1.out.cells.2.2.1
            have x3 := Z3.out.cells.2.2.1
            have HX1 := Lib.hid (show w4.drew.cell? ⟨b1, 2, none⟩ = some (.string (mk a1.data)) from x1)
            have HX3 := Lib.hid x3
            have HB4 := Lib.hid HA4.out.below
            obtain ⟨old, hold⟩ : ∃ s, a1.data ++ List.replicate K 0 = s := ⟨_, rfl⟩
            have hcat : mk a1.data ++ mk (List.replicate K 0) = mk old := by rw [mk_append, hold]
            have zK : (mk (List.replicate K (0 : UInt8))).size = K := by rw [mk_size, List.length_replicate]
            have zo : (mk old).size = old.length := mk_size _
            have zol : old.length = a1.data.length + K := by rw [← hold, List.length_append, List.length_replicate]
            have HO := Lib.hid hold
            clear hold
            have HZ := Lib.hid (fun W => zeros_calls K (IntKind.i64.wrap ((off : Int) + (s3.length : Int) - (a1.data.length : Int))) (by rw [Go.IntWalk.i64_in _ (by omega)]; omega) (by omega) W)
            go_region_with (first | (go_at_call 15; refine (HZ.out _).mono ?_; rintro e w5 ⟨rfl, hB5⟩; have y5 := pw_cell_below hB5 HX1.out))
            all_goals
              have y3 := pw_cell_below hB5 (show w4.drew.cell? ⟨b3, 2, none⟩ = some (.string (mk a3.data)) from HX3.out)
              have hkk : max a1.data.length (off + s3.length) - a1.data.length = K := by have := HK.out; omega
              have hp4 := HP4.out
              have hp5 := HP5.out
              rw [hkk, HO.out] at hp4 hp5
              have e1 : (mk a3.data).extract 0 off = mk (a3.data.take off) := by rw [mk_extract]; simp
              have e2 : (mk old).extract 0 off = mk (a3.data.take off) := by rw [mk_extract, hp4]; simp
              have t5 := mk_list (a3.data.take off)
              obtain ⟨oe, hoe⟩ : ∃ oe, off + s3.length = oe := ⟨_, rfl⟩
              rw [hoe] at hp5
              have e3 : (mk a3.data).extract oe a3.data.length = mk (a3.data.drop oe) := by rw [mk_extract, List.take_of_length_le (by rw [List.length_drop]; omega)]
              have e4 : (mk old).extract oe old.length = mk (a3.data.drop oe) := by rw [mk_extract, hp5, List.take_of_length_le (by rw [List.length_drop]; omega)]
              have t6 := mk_list (a3.data.drop oe)
              have ew : IntKind.i64.wrap ((off : Int) + (s3.length : Int)) = (oe : Int) := by rw [Go.IntWalk.i64_in _ (by omega)]; omega
              have zs1 : (off : Int) ≤ (a3.data.length : Int) := by omega
              have zs2 : (off : Int) ≤ (old.length : Int) := by have := HK.out; omega
              have zs3 : (oe : Int) ≤ (a3.data.length : Int) := by omega
              have zs4 : (oe : Int) ≤ (old.length : Int) := by have := HK.out; omega
              have zs5 : (0 : Int) ≤ (oe : Int) := by omega
              clear hoe hp4 hp5 hkk x1 x3 y5 p1i hcat zK zol
              have HB6 := Lib.hid (bstep HB4.out.drew hB5)
              go_wp2_with fail
              go_still_tail 25, (by kernel_rfl)
              go_wp2_with fail
              refine (live_calls _).mono ?_
              rintro e wl ⟨rfl, hBl⟩
              have HBl := Lib.hid (show Below w.heap.size w wl from by first | exact bstep HB6.out hBl | exact bstep HB6.out.drew hBl | exact bstep (pw_below_drewN HB6.out _) hBl)
              clear hBl
              go_wp2_with fail
              go_ret
              exact ⟨rfl, HBl.out⟩
      · obtain ⟨e1, e2⟩ := hP1 hw
        have hwb : (a2.code != 0) = true := bne_iff_ne.2 hw
        have b1' : (a2.code == a1.code) = true := beq_iff_eq.2 e1
        have b2' : (a3.code == a1.code) = true := beq_iff_eq.2 e2
        clear hP1 hP2 hP3 e1 e2
        go_wp2_with fail
        rw [HW.out]
        refine (live_calls _).mono ?_
        rintro e wl ⟨rfl, hBl⟩
        have HBl := Lib.hid (bstep (HA4.out.below) hBl)
        clear hBl
        go_wp2_with fail
        go_ret
        exact ⟨rfl, HBl.out⟩

end Go.Proofs.YtaccokghjpcijaaGreatDoor
namespace Go.Proofs.YtaccokghjpcijaaGreatDoor
open Go.ChangeShapes Go.WideShapes Go.ChangeAt Go.RowKit Go.ChangeMaps Pp
set_option linter.unusedVariables false

set_option maxRecDepth 100000 in
/-- What the walk gives, for every argument. -/
theorem modelWritten_contract (H : Type) (enc : TypeId × Value → H) (W : World) (base : Nat) (args : Array Value) (ds gs : List (DataW H)) (before : List MemPlace)
    (hval0 : ∀ (j : Nat) t v, Tryz.f3.params[j]? = some t → args[j]? = some v → Value.okWide Tryz.prog W .any base t v)
    (hW : DataW.Whole enc Tryz.prog Tryz.f3.params.toList Rows.modelWrittenSpec.vars false W args.toList ds gs before) :
    Calls Tryz.prog 3 args W fun e W' => ∃ v, e = .returned v ∧ Rows.modelWrittenSpec.post enc Tryz.prog Tryz.f3 false true false false W args v W' := by
  have hval : ∀ (j : Nat) t v, Tryz.f3.params[j]? = some t → args[j]? = some v → Value.okWide Tryz.prog W .any base t v := hval0
  have hW' := hW
  obtain ⟨p, q, hA0, hV, rfl, hfz, hnd⟩ := hW
  have hA : DataW.TrodAll enc Tryz.prog W 0 (fun _ => true) true Tryz.f3.params.toList args.toList ds p := hA0
  rw [Tryz.params3] at hA hval
  obtain ⟨v0, vs0, d0, ds0, p0, q0, hargs, rfl, rfl, h0, r0⟩ := trodAll_cons hA
  obtain ⟨rfl, rfl, rfl⟩ := trodAll_nil r0
  obtain rfl : args = #[v0] := by cases args; simp_all
  obtain ⟨rfl, rfl⟩ := trodVars_none hV
  have k0 := h0
  have lt0 : ∀ x ∈ p0, x.block < W.heap.size := by obtain ⟨m, hm⟩ := k0; exact DataW.trod_lt m _ _ _ hm
  obtain ⟨A0, c0, l0, s1, n2, s3, rfl, hC0, hl0⟩ := open_written (hval 0 24 v0 rfl rfl) h0
  clear hA0 hval0
  refine (written_walk A0 c0 l0 hC0 hl0 s1 n2 s3).mono fun e W' ⟨he, bel⟩ => ?_
  subst he
  exact ⟨_, rfl, _, _, _, [], _, [], hW', trodAll_mk1 (shut_bool Tryz.underlying4 _), (trodAll_cons_mk (Below.trod laidOut (by kernel_rfl) (of_decide_eq_true (by kernel_rfl)) k0 bel lt0) trodAll_mk0), rfl, bel.frame _, fun h => by cases h⟩

theorem modelWritten_reads (os : Os) {H : Type} (enc : TypeId × Value → H) : ∃ places, DataW.whole enc Tryz.prog ((World.laidAll Tryz.prog os Rows.modelWrittenRow.laid).forCall (fun _ _ => 0) ⟨#[], #[.agg #[.slice none 0 0, .string ⟨#[]⟩, .int .i64 0, .string ⟨#[]⟩]], []⟩).memory Tryz.f3.params.toList Rows.modelWrittenSpec.vars false (#[.agg #[.slice none 0 0, .string ⟨#[]⟩, .int .i64 0, .string ⟨#[]⟩]] : Array Value).toList 8 = some ([.agg [.nil, .lit (.string []), .lit (.int .i64 0), .lit (.string [])]], [], places) :=
  ⟨[], by kernel_rfl⟩
theorem modelWritten_met (os : Os) : laidMetH Tryz.prog Rows.modelWrittenRow.laid ((World.laidAll Tryz.prog os Rows.modelWrittenRow.laid).forCall (fun _ _ => 0) ⟨#[], #[.agg #[.slice none 0 0, .string ⟨#[]⟩, .int .i64 0, .string ⟨#[]⟩]], []⟩).memory := by
  rw [MakeChecks.laidMetH_plain _ _ _ (by kernel_rfl)]
  exact laidMet_laidAll _ (by kernel_rfl) (by kernel_rfl)

set_option maxRecDepth 100000 in
theorem modelWritten_lifted (os : Os) (started : os.Started) (H : Type) (enc : TypeId × Value → H) (F : Stop.Interp) :
    ReturnsInHanded {} Tryz.checked os 3 .any ((OpenSpec.ofChange Rows.modelWrittenSpec).preRow enc Tryz.prog Tryz.f3 Rows.modelWrittenRow.domain false Rows.modelWrittenRow.laid) (((OpenSpec.ofChange Rows.modelWrittenSpec).at F).post enc Tryz.prog Tryz.f3 false true false false) := by
  obtain ⟨places, hx⟩ := modelWritten_reads os enc
  refine returnsInHanded_of_row (C := Tryz.checked) (s := OpenSpec.ofChange Rows.modelWrittenSpec) own started (by kernel_rfl) Tryz.func3
    (witness_row_at (enc := enc) (C := Tryz.checked) false (World.laidAll Tryz.prog os Rows.modelWrittenRow.laid) #[.agg #[.slice none 0 0, .string ⟨#[]⟩, .int .i64 0, .string ⟨#[]⟩]] (World.laidAll_os _ _ _) (by kernel_rfl) (by kernel_rfl) (by kernel_rfl)
      (OpenSpec.preRow_of_cond 8 hx (by kernel_rfl) (fun k hk => by cases hk) (by kernel_rfl) (modelWritten_met os))) ?_
  intro W base args ds gs before hval hW _ hcond _ hL _ _
  exact modelWritten_contract H enc W base args ds gs before hval hW

theorem modelWritten_said : Rows.ModelWrittenSaid :=
  OpenClaim.holds_of_cond 3 Tryz.f3 rfl rfl rfl rfl rfl rfl rfl ⟨rfl, rfl, rfl, rfl, rfl⟩ rfl rfl rfl rfl rfl (by kernel_rfl) Tryz.func3 (by kernel_rfl)
    (of_decide_eq_true (by kernel_rfl)) (by unfold Func.isWrapper; first | (rw [if_pos (by decide +kernel)]; kernel_rfl) | (rw [if_neg (by decide +kernel)]; exact ⟨rfl, rfl⟩))
    (fun os started H enc _ F => by rw [OpenClaim.pre_eq_preRow]; exact modelWritten_lifted os started H enc F)

theorem modelWritten_plain (f : FuncId) (fn : Func) (hf : Tryz.pinned.checked.prog.funcNamed "permafrost/permafrostlaw17.ModelWritten" = some f) (hfn : Tryz.pinned.checked.prog.funcs[f]? = some fn) :
    false = Tryz.pinned.checked.prog.looks [] ∧ ∀ (j : Nat) t, fn.params[j]? = some t → Tryz.pinned.checked.prog.wantsStandIn t = false := by
  obtain rfl : f = 3 := Option.some.inj ((show Tryz.prog.funcNamed "permafrost/permafrostlaw17.ModelWritten" = some 3 by kernel_rfl).symm.trans hf) |>.symm
  obtain rfl : fn = Tryz.f3 := (Option.some.inj (Tryz.func3.symm.trans hfn)).symm
  refine ⟨by kernel_rfl, fun j t ht => ?_⟩
  rw [Tryz.params3] at ht
  have hm : t ∈ [24] := by simpa using Array.mem_of_getElem? ht
  have hall : ([24].all fun u => !Tryz.prog.wantsStandIn u) = true := by kernel_rfl
  exact (show Tryz.prog.wantsStandIn t = false by simpa using List.all_eq_true.1 hall t hm)

theorem modelWritten_card : Rows.ModelWrittenCardSaid :=
  Claim7.holds_tied_plain_at .later [] _ _ _ _ modelWritten_said (fun _ h => by cases h) (by kernel_rfl) (fun _ h => by cases h) modelWritten_row_tie rfl ⟨rfl, rfl⟩ (by kernel_rfl) rfl modelWritten_plain (by kernel_rfl)
#print axioms modelWritten_card
end Go.Proofs.YtaccokghjpcijaaGreatDoor
