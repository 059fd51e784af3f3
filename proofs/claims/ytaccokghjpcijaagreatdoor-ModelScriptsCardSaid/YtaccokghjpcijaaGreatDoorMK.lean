import Derived.Test.YtaccokghjpcijaaGreatDoorMJ
import Derived.Laws.IdiomStrings
import Derived.Deep.AppendLies
import Derived.Laws.OwnMore
import Derived.Maps.AppendAt
import Derived.Test.YtaccokghjpcijaaGreatDoorMI
set_option linter.unusedVariables false
set_option linter.unusedSimpArgs false
namespace Go.Proofs.YtaccokghjpcijaaGreatDoor
open Go Go.RowKit Pp Go.Proofs.YtaccokghjpcijaaGreatDoorW.PrintWords

/-- An op of ref17's tree: what it answers, what it leaves. -/
def KDo (W : World) (G : Nat → Prop) (n0 kb : Nat) (E : List (Str × Nat)) (T : List (Bool × Str)) (a : Ans) (e : Ending) (W' : World) : Prop :=
  ∃ G' A c, e = .returned (ansV a A c) ∧ KM W' G' n0 kb E T ∧ Ext G W G' W' ∧ Strs W' (.slice A a.names.length c) a.names ∧ (a.names ≠ [] → ∀ bk o, A = some ⟨bk, o, none⟩ → ¬ G' bk ∧ W.heap.size ≤ bk ∧ bk < W'.heap.size)
section
variable {W W1 w5 : World} {G : Nat → Prop} {n0 kb : Nat} {E : List (Str × Nat)} {T : List (Bool × Str)}
theorem KDo.plain {a : Ans} (h : KPost W G n0 kb E T w5) (ha : a.names = []) : KDo W G n0 kb E T a (.returned (.agg #[.int .i64 a.code, .int .i64 a.n, .string (mk a.data), .slice none 0 0])) w5 := by
  obtain ⟨G', h1, h2⟩ := h
  refine ⟨G', none, 0, by unfold ansV; rw [ha]; rfl, h1, h2, by rw [ha]; exact Strs.nil w5 0 none, fun h => absurd ha h⟩
/-- The answer is laid into its box. -/
theorem KDo.put4 {a : Ans} {e : Ending} {x0 x1 x2 x3 : Value} {b : Nat} (hB : Below W.heap.size W W1) (hG : ∀ b, G b → b < W.heap.size) (h : KDo W1 G n0 kb E T a e w5) (hb : W.heap.size ≤ b) (hb1 : b < W1.heap.size) : KDo W G n0 kb E T a e (put4 w5 b x0 x1 x2 x3) := by
  obtain ⟨G', A, c, h1, h2, h3, h4, h5⟩ := h
  have hG' : ∀ k, G' k → k ≠ b := fun k hk e => by
    subst e
    rcases h3.new k hk with h | h
    · have := hG k h; omega
    · omega
  refine ⟨G', A, c, h1, h2.same (fun k hk => put4_other (hG' k hk)), ⟨⟨h3.fr.os.trans hB.os, h3.fr.tape.trans hB.tape, h3.fr.output.trans hB.output, ?_, fun k hk hf => ?_⟩, fun k hk => ?_⟩, ?_, fun hne bk o hA => ?_⟩
  · have := h3.fr.size
    have := hB.size
    have hz : (Go.Proofs.YtaccokghjpcijaaGreatDoor.put4 w5 b x0 x1 x2 x3).heap.size = w5.heap.size := by unfold Go.Proofs.YtaccokghjpcijaaGreatDoor.put4; simp
    rw [hz]; omega
  · rw [put4_other (by omega), h3.fr.block k (by have := hB.size; omega) hf, hB.block k hk]
  · rcases h3.new k hk with h | h
    · exact .inl h
    · exact .inr (Nat.le_trans hB.size h)
  · rcases Decidable.em (a.names = []) with hn | hn
    · rw [hn]
      exact Strs.nil _ c A
    · refine h4.kept (fun bk o n c' hv => put4_other ?_)
      have := h5 hn bk o (by injection hv)
      omega
  · obtain ⟨g1, g2, g3⟩ := h5 hne bk o hA
    have hz : (Go.Proofs.YtaccokghjpcijaaGreatDoor.put4 w5 b x0 x1 x2 x3).heap.size = w5.heap.size := by unfold Go.Proofs.YtaccokghjpcijaaGreatDoor.put4; simp
    exact ⟨g1, by have := hB.size; omega, by rw [hz]; exact g3⟩
theorem KDo.still {a : Ans} (h : KM W G n0 kb E T) (hB : Below W.heap.size W w5) (ha : a.names = []) : KDo W G n0 kb E T a (.returned (.agg #[.int .i64 a.code, .int .i64 a.n, .string (mk a.data), .slice none 0 0])) w5 := KDo.plain ⟨G, h.below hB, Ext.of_below hB⟩ ha
end
/-- The box of an op, the box of its answer. -/
theorem opans (W : World) (o : Ask) {W1 : World} (h : (W.alloc (.cells #[.int .i64 o.do_, .string (mk o.path), .string (mk o.dst), .int .i64 o.off, .int .i64 o.len, .string (mk o.data)] 35)).alloc (.cells #[.int .i64 0, .int .i64 0, .string ⟨#[]⟩, .slice none 0 0] 32) = W1) :
    Below W.heap.size W W1 ∧ W1.heap[W.heap.size]? = some (.cells #[.int .i64 o.do_, .string (mk o.path), .string (mk o.dst), .int .i64 o.off, .int .i64 o.len, .string (mk o.data)] 35 (0, 0)) ∧ W1.heap[W.heap.size + 1]? = some (.cells #[.int .i64 0, .int .i64 0, .string ⟨#[]⟩, .slice none 0 0] 32 (0, 0)) := by
  subst h
  have hs0 := OpAt.start W (fun _ => False) o
  exact ⟨balloc (balloc (Below.refl _ _)), hs0.box, hs0.ans⟩
end Go.Proofs.YtaccokghjpcijaaGreatDoor
set_option linter.unusedVariables false
set_option linter.unusedSimpArgs false
namespace Go.Proofs.YtaccokghjpcijaaGreatDoor
open Go Go.RowKit Pp Go.Proofs.YtaccokghjpcijaaGreatDoorW.PrintWords

set_option maxRecDepth 100000 in
set_option maxHeartbeats 8000000 in
theorem kread_calls {W : World} {G : Nat → Prop} {n0 kb : Nat} {E : List (Str × Nat)} {T : List (Bool × Str)} {g : St} (h : KM W G n0 kb E T) (hn0 : n0 ≤ W.heap.size) (hr : KRel g E T) (hI : Inv g) (hE : E.length ≤ 1000000) (hT : T.length ≤ 1000000) (hby : ∀ i, (g.node i).bytes.length ≤ 16384) (o : Ask) (ho : o.do_ = 6) (hp : o.path.length ≤ 4096) :
    Calls Tryz.prog 49 #[.pointer (some ⟨kb, 0, none⟩), opV o] W (KDo W G n0 kb E T (readS g o).2) := by
  obtain ⟨f0, s1, s2, f3, f4, s5⟩ := o
  simp only at hp ho
  subst ho
  unfold opV
  obtain ⟨W1, hW1⟩ : ∃ W1, (W.alloc (.cells #[.int .i64 6, .string (mk s1), .string (mk s2), .int .i64 f3, .int .i64 f4, .string (mk s5)] 35)).alloc (.cells #[.int .i64 0, .int .i64 0, .string ⟨#[]⟩, .slice none 0 0] 32) = W1 := ⟨_, rfl⟩
  obtain ⟨hb1, hbox, hans⟩ := opans W ⟨6, s1, s2, f3, f4, s5⟩ hW1
  have hsz : W.heap.size + 2 ≤ W1.heap.size := by rw [← hW1]; simp
  have HB1 := Lib.hid hb1
  have HG := Lib.hid (fun b hb => (h.lt b hb).1)
  have HBX := Lib.hid hbox
  have HA := Lib.hid hans
  have HK1 := Lib.hid (h.below hb1)
  have HR := Lib.hid hr
  have HI := Lib.hid hI
  have HW := Lib.hid hW1
  obtain ⟨q0, q1, q2, q3, q4, q5⟩ := op6 hbox
  clear hb1 hbox hans h hr hI hW1
  go_enter Tryz.func49, Tryz.ntmps49
  go_upto_region 1 with fail
  rw [HW.out]
  obtain ⟨r, hrr⟩ : ∃ r, leads g s1 = r := ⟨_, rfl⟩
  have HL := Lib.hid hrr
  clear hrr
  go_wp2_with fail
  refine (kleads_at HK1.out HR.out HI.out hE s1 hp HL.out).mono ?_
  rintro e w3 ⟨rfl, hB3⟩
  have HK3 := Lib.hid (HK1.out.below hB3)
  have HBX3 := Lib.hid (block_keep HBX.out hB3)
  have HA3 := Lib.hid (block_keep HA.out hB3)
  have HB3 := Lib.hid hB3
  clear q0 q1 q2 q3 q4 q5
  obtain ⟨q0, q1, q2, q3, q4, q5⟩ := op6 HBX3.out
  obtain ⟨y0, y1, y2, y3, v0, v1, v2, v3⟩ := ans_cells HA3.out
  clear hB3
  cases r with
  | error ec =>
    have hcb : (ec != 0) = true := bne_iff_ne.2 (by have := leads_err HL.out; omega)
    have HZ : Hid ((readS g ⟨6, s1, s2, f3, f4, s5⟩).2 = told ec) := Lib.hid (by unfold readS kind; simp only [HL.out])
    unfold resN resE
    go_wp2_with fail
    refine bodyPost_ret (results_cell_row rfl _ _ (W.heap.size + 1) 32 #[_, _, _, _] (0, 0) _ rfl (put4_at HA3.out) Tryz.underlying32 rfl (by kernel_rfl)) rfl ?_
    rw [HZ.out]
    exact KDo.put4 HB1.out HG.out (KDo.still HK1.out HB3.out rfl) (by omega) (by omega)
  | ok x =>
    have hxl := leads_ne HI.out HL.out
    have hTx := HR.out.at_ x hxl
    have hsm := hby x
    obtain ⟨s, hs⟩ : ∃ s, (g.node x).bytes = s := ⟨_, rfl⟩
    rw [hs] at hTx hsm
    obtain ⟨ad, d, hdd, c1, t0, t1⟩ := HK3.out.thing hTx
    have hmx : x < T.length := (List.getElem?_eq_some_iff.1 hTx).1
    obtain ⟨m, hm⟩ : ∃ m, T.length = m := ⟨_, rfl⟩
    rw [hm] at c1 hdd hmx
    have z3 : (0 : Int) ≤ (x : Int) := by omega
    have z4 : (x : Int) < (m : Int) := by omega
    have z5 : (x : Int) < (d : Int) := by omega
    unfold resN resE
    cases hdx : isDir g x with
    | true =>
      rw [hdx] at t0
      have HZ : Hid ((readS g ⟨6, s1, s2, f3, f4, s5⟩).2 = told 10) := Lib.hid (by unfold readS kind; simp only [HL.out, hdx]; rfl)
      clear hdx hTx hm
      go_wp2_with fail
      refine bodyPost_ret (results_cell_row rfl _ _ (W.heap.size + 1) 32 #[_, _, _, _] (0, 0) _ rfl (put4_at HA3.out) Tryz.underlying32 rfl (by kernel_rfl)) rfl ?_
      rw [HZ.out]
      exact KDo.put4 HB1.out HG.out (KDo.still HK1.out HB3.out rfl) (by omega) (by omega)
    | false =>
      rw [hdx] at t0
      have HZ0 : Hid ((readS g ⟨6, s1, s2, f3, f4, s5⟩).2 = if f3 < 0 ∨ f4 < 0 then told 1 else ⟨0, ((s.drop f3.toNat).take f4.toNat).length, (s.drop f3.toNat).take f4.toNat, []⟩) := Lib.hid (by unfold readS kind; simp only [HL.out, hdx, hs]; simp only [Bool.false_eq_true, false_and, if_false]; simp only [and_false, if_false]; split <;> simp [hs])
      clear hdx hTx hm hs
      by_cases hneg : f3 < 0
      · have HZ : Hid ((readS g ⟨6, s1, s2, f3, f4, s5⟩).2 = told 1) := Lib.hid (by rw [HZ0.out, if_pos (.inl hneg)])
        go_wp2_with fail
        refine bodyPost_ret (results_cell_row rfl _ _ (W.heap.size + 1) 32 #[_, _, _, _] (0, 0) _ rfl (put4_at HA3.out) Tryz.underlying32 rfl (by kernel_rfl)) rfl ?_
        rw [HZ.out]
        exact KDo.put4 HB1.out HG.out (KDo.still HK1.out HB3.out rfl) (by omega) (by omega)
      by_cases hneg4 : f4 < 0
      · have HZ : Hid ((readS g ⟨6, s1, s2, f3, f4, s5⟩).2 = told 1) := Lib.hid (by rw [HZ0.out, if_pos (.inr hneg4)])
        go_wp2_with fail
        refine bodyPost_ret (results_cell_row rfl _ _ (W.heap.size + 1) 32 #[_, _, _, _] (0, 0) _ rfl (put4_at HA3.out) Tryz.underlying32 rfl (by kernel_rfl)) rfl ?_
        rw [HZ.out]
        exact KDo.put4 HB1.out HG.out (KDo.still HK1.out HB3.out rfl) (by omega) (by omega)
      have HZ1 : Hid ((readS g ⟨6, s1, s2, f3, f4, s5⟩).2 = ⟨0, ((s.drop f3.toNat).take f4.toNat).length, (s.drop f3.toNat).take f4.toNat, []⟩) := Lib.hid (by rw [HZ0.out, if_neg (by omega)])
      obtain ⟨a, rfl⟩ : ∃ a : Nat, f3 = a := ⟨f3.toNat, by omega⟩
      obtain ⟨b, rfl⟩ : ∃ b : Nat, f4 = b := ⟨f4.toNat, by omega⟩
      rw [Int.toNat_natCast, Int.toNat_natCast] at HZ1
      have zs : (mk s).size = s.length := mk_size _
      by_cases hge : s.length ≤ a
      · have zg : (s.length : Int) ≤ (a : Int) := by omega
        have HZ : Hid ((readS g ⟨6, s1, s2, a, b, s5⟩).2 = ⟨0, 0, [], []⟩) := Lib.hid (by rw [HZ1.out, List.drop_of_length_le hge]; simp)
        clear hge
        go_wp2_with fail
        refine bodyPost_ret (results_cell_row rfl _ _ (W.heap.size + 1) 32 #[_, _, _, _] (0, 0) _ rfl (put4_at HA3.out) Tryz.underlying32 rfl (by kernel_rfl)) rfl ?_
        rw [HZ.out]
        exact KDo.put4 HB1.out HG.out (KDo.still HK1.out HB3.out rfl) (by omega) (by omega)
      · have zg : (a : Int) < (s.length : Int) := by omega
        have zg2 : (a : Int) ≤ (s.length : Int) := by omega
        obtain ⟨u, hu⟩ : ∃ u, s.drop a = u := ⟨_, rfl⟩
        have e1 : (mk s).extract a s.length = mk u := by rw [mk_extract, List.take_of_length_le (by rw [List.length_drop]; omega), hu]
        have zu : (mk u).size = u.length := mk_size _
        rw [hu] at HZ1
        have hul : u.length ≤ 16384 := by rw [← hu, List.length_drop]; omega
        clear hge hu
        go_wp2_with fail
        refine bodyPost_ret (results_cell_row rfl _ _ (W.heap.size + 1) 32 #[_, _, _, _] (0, 0) _ rfl (put4_at HA3.out) Tryz.underlying32 rfl (by kernel_rfl)) rfl ?_
        have e9 : (mk u).extract 0 (min (b : Int) (u.length : Int)).toNat = mk (u.take b) := by
          rw [mk_extract, show (min (b : Int) (u.length : Int)).toNat = min b u.length by omega, Nat.sub_zero, List.drop_zero]; exact congrArg mk (List.take_eq_take_iff.2 (by omega))
        have e10 : ((min (min (b : Int) (u.length : Int)).toNat u.length : Nat) : Int) = ((u.take b).length : Int) := by rw [List.length_take]; omega
        rw [HZ1.out, e9, e10]
        exact KDo.put4 HB1.out HG.out (KDo.still (a := ⟨0, (u.take b).length, u.take b, []⟩) HK1.out HB3.out rfl) (by omega) (by omega)
end Go.Proofs.YtaccokghjpcijaaGreatDoor
set_option linter.unusedVariables false
set_option linter.unusedSimpArgs false
namespace Go.Proofs.YtaccokghjpcijaaGreatDoor
open Go Go.RowKit Pp Go.Proofs.YtaccokghjpcijaaGreatDoorW.PrintWords

theorem KRel.setB {g : St} {E : List (Str × Nat)} {T : List (Bool × Str)} (r : KRel g E T) {x : Nat} {s : Str} (hd : isDir g x = false) : KRel (Go.Proofs.YtaccokghjpcijaaGreatDoor.setB g x s) E (T.set x (false, s)) := by
  obtain ⟨⟨En, hR, hE⟩, hl, ha⟩ := r
  refine ⟨⟨En, hR.same (fun i => setB_entsOf) (fun i => setB_links), hE⟩, by rw [List.length_set]; exact hl, fun i hi => ?_⟩
  have hi' : i < g.next := hi
  rw [setB_isDir, setB_bytes, List.getElem?_set]
  by_cases h : x = i
  · subst h
    rw [if_pos rfl, if_pos (by omega), if_pos rfl, hd]
  · rw [if_neg h, if_neg (fun e => h e.symm)]
    exact ha i hi'
/-- A thing, by the slice itself. -/
theorem KMs.slotAt {W : World} {G : Nat → Prop} {n0 kb : Nat} {E : List (Str × Nat)} {T : List (Bool × Str)} {vE : Value} {ad : Addr} {n d : Nat} (h : KMs W G n0 kb E T vE (.slice (some ad) n d)) {i : Nat} {t : Bool × Str} (hi : T[i]? = some t) :
    W.cell? ⟨kb, 1, none⟩ = some (.slice (some ad) n d) ∧ W.cell? (ad.add (i * 2)) = some (.bool t.1) ∧ W.cell? ⟨(ad.add (i * 2)).block, (ad.add (i * 2)).off + 1, none⟩ = some (.string (Go.Proofs.YtaccokghjpcijaaGreatDoor.mk t.2)) ∧ W.frozen? ⟨(ad.add (i * 2)).block, (ad.add (i * 2)).off + 1, none⟩ = false ∧
    ∀ s, KMs (W.setCell ⟨(ad.add (i * 2)).block, (ad.add (i * 2)).off + 1, none⟩ (.string (Go.Proofs.YtaccokghjpcijaaGreatDoor.mk s))) G n0 kb E (T.set i (t.1, s)) vE (.slice (some ad) n d) ∧ Fr G W (W.setCell ⟨(ad.add (i * 2)).block, (ad.add (i * 2)).off + 1, none⟩ (.string (Go.Proofs.YtaccokghjpcijaaGreatDoor.mk s))) := by
  obtain ⟨a2, d2, _, c1, t0, t1, tf, hst⟩ := h.slotT hi
  have c0 := heap_cell h.root 1 _ rfl
  have e := Option.some.inj (c0.symm.trans c1)
  injection e with e1 e2 e3
  injection e1 with e1
  subst e1
  exact ⟨c0, t0, t1, tf, hst⟩
end Go.Proofs.YtaccokghjpcijaaGreatDoor
set_option linter.unusedVariables false
set_option linter.unusedSimpArgs false
namespace Go.Proofs.YtaccokghjpcijaaGreatDoor
open Go Go.RowKit Pp Go.Proofs.YtaccokghjpcijaaGreatDoorW.PrintWords

set_option maxRecDepth 100000 in
set_option maxHeartbeats 8000000 in
theorem kwrite_calls {W : World} {G : Nat → Prop} {n0 kb : Nat} {E : List (Str × Nat)} {T : List (Bool × Str)} {g : St} (h : KM W G n0 kb E T) (hn0 : n0 ≤ W.heap.size) (hr : KRel g E T) (hI : Inv g) (hE : E.length ≤ 1000000) (hT : T.length ≤ 1000000) (hby : ∀ i, (g.node i).bytes.length ≤ 16384) (o : Ask) (ho : o.do_ = 7) (hp : o.path.length ≤ 4096) (hda : o.data.length ≤ 1048576) :
    Calls Tryz.prog 49 #[.pointer (some ⟨kb, 0, none⟩), opV o] W (fun e W' => ∃ T', KDo W G n0 kb E T' (writeS g o).2 e W' ∧ KRel (writeS g o).1 E T' ∧ T'.length = T.length) := by
  obtain ⟨f0, s1, s2, f3, f4, s5⟩ := o
  simp only at hp ho hda
  subst ho
  unfold opV
  obtain ⟨W1, hW1⟩ : ∃ W1, (W.alloc (.cells #[.int .i64 7, .string (mk s1), .string (mk s2), .int .i64 f3, .int .i64 f4, .string (mk s5)] 35)).alloc (.cells #[.int .i64 0, .int .i64 0, .string ⟨#[]⟩, .slice none 0 0] 32) = W1 := ⟨_, rfl⟩
  obtain ⟨hb1, hbox, hans⟩ := opans W ⟨7, s1, s2, f3, f4, s5⟩ hW1
  have hsz : W.heap.size + 2 ≤ W1.heap.size := by rw [← hW1]; simp
  have HB1 := Lib.hid hb1
  have HG := Lib.hid (fun b hb => (h.lt b hb).1)
  have HBX := Lib.hid hbox
  have HA := Lib.hid hans
  have HK1 := Lib.hid (h.below hb1)
  have HR := Lib.hid hr
  have HI := Lib.hid hI
  have HW := Lib.hid hW1
  obtain ⟨q0, q1, q2, q3, q4, q5⟩ := op6 hbox
  clear hb1 hbox hans h hr hI hW1
  go_enter Tryz.func49, Tryz.ntmps49
  go_upto_region 1 with fail
  rw [HW.out]
  obtain ⟨r, hrr⟩ : ∃ r, leads g s1 = r := ⟨_, rfl⟩
  have HL := Lib.hid hrr
  clear hrr
  go_wp2_with fail
  refine (kleads_at HK1.out HR.out HI.out hE s1 hp HL.out).mono ?_
  rintro e w3 ⟨rfl, hB3⟩
  have HK3 := Lib.hid (HK1.out.below hB3)
  have HBX3 := Lib.hid (block_keep HBX.out hB3)
  have HA3 := Lib.hid (block_keep HA.out hB3)
  have HB3 := Lib.hid hB3
  clear q0 q1 q2 q3 q4 q5
  obtain ⟨q0, q1, q2, q3, q4, q5⟩ := op6 HBX3.out
  obtain ⟨y0, y1, y2, y3, v0, v1, v2, v3⟩ := ans_cells HA3.out
  clear hB3
  cases r with
  | error ec =>
    have hcb : (ec != 0) = true := bne_iff_ne.2 (by have := leads_err HL.out; omega)
    have HZ : Hid (writeS g ⟨7, s1, s2, f3, f4, s5⟩ = (g, told ec)) := Lib.hid (by unfold writeS kind; simp only [HL.out])
    unfold resN resE
    go_wp2_with fail
    refine bodyPost_ret (results_cell_row rfl _ _ (W.heap.size + 1) 32 #[_, _, _, _] (0, 0) _ rfl (put4_at HA3.out) Tryz.underlying32 rfl (by kernel_rfl)) rfl ?_
    rw [HZ.out]
    exact ⟨T, KDo.put4 HB1.out HG.out (KDo.still HK1.out HB3.out rfl) (by omega) (by omega), HR.out, rfl⟩
  | ok x =>
    have hxl := leads_ne HI.out HL.out
    have hTx := HR.out.at_ x hxl
    have hsm := hby x
    obtain ⟨s, hs⟩ : ∃ s, (g.node x).bytes = s := ⟨_, rfl⟩
    rw [hs] at hTx hsm
    have hmx : x < T.length := (List.getElem?_eq_some_iff.1 hTx).1
    have HTX := Lib.hid hTx
    obtain ⟨ad, d, hdd, c1, t0, t1⟩ := HK3.out.thing hTx
    obtain ⟨m, hm⟩ : ∃ m, T.length = m := ⟨_, rfl⟩
    have HM := Lib.hid hm
    rw [hm] at c1 hdd hmx
    have z3 : (0 : Int) ≤ (x : Int) := by omega
    have z4 : (x : Int) < (m : Int) := by omega
    have z5 : (x : Int) < (d : Int) := by omega
    unfold resN resE
    cases hdx : isDir g x with
    | true =>
      rw [hdx] at t0
      have HZ : Hid (writeS g ⟨7, s1, s2, f3, f4, s5⟩ = (g, told 10)) := Lib.hid (by unfold writeS kind; simp only [HL.out, hdx]; rfl)
      clear hdx hTx hm
      go_wp2_with fail
      refine bodyPost_ret (results_cell_row rfl _ _ (W.heap.size + 1) 32 #[_, _, _, _] (0, 0) _ rfl (put4_at HA3.out) Tryz.underlying32 rfl (by kernel_rfl)) rfl ?_
      rw [HZ.out]
      exact ⟨T, KDo.put4 HB1.out HG.out (KDo.still HK1.out HB3.out rfl) (by omega) (by omega), HR.out, rfl⟩
    | false =>
      rw [hdx] at t0
      have HDX := Lib.hid hdx
      have hk : kind g s1 false = .ok x := by unfold kind; simp only [HL.out, hdx]; simp
      have HZ0 : Hid (writeS g ⟨7, s1, s2, f3, f4, s5⟩ = if f3 < 0 then (g, told 1) else if 16384 - (s5.length : Int) < f3 then (g, told 13) else if s5 = [] then (g, ⟨0, 0, [], []⟩) else (setB g x (wrote s f3.toNat s5), ⟨0, s5.length, [], []⟩)) := Lib.hid (by unfold writeS; rw [hk, ← hs]; rfl)
      clear hdx hTx hm hk
      have HS := Lib.hid hs
      clear hs
      by_cases hneg : f3 < 0
      · have HZ : Hid (writeS g ⟨7, s1, s2, f3, f4, s5⟩ = (g, told 1)) := Lib.hid (by rw [HZ0.out, if_pos hneg])
        go_wp2_with fail
        refine bodyPost_ret (results_cell_row rfl _ _ (W.heap.size + 1) 32 #[_, _, _, _] (0, 0) _ rfl (put4_at HA3.out) Tryz.underlying32 rfl (by kernel_rfl)) rfl ?_
        rw [HZ.out]
        exact ⟨T, KDo.put4 HB1.out HG.out (KDo.still HK1.out HB3.out rfl) (by omega) (by omega), HR.out, rfl⟩
      have HZ1 : Hid (writeS g ⟨7, s1, s2, f3, f4, s5⟩ = if 16384 - (s5.length : Int) < f3 then (g, told 13) else if s5 = [] then (g, ⟨0, 0, [], []⟩) else (setB g x (wrote s f3.toNat s5), ⟨0, s5.length, [], []⟩)) := Lib.hid (by rw [HZ0.out, if_neg hneg])
      obtain ⟨a, rfl⟩ : ∃ a : Nat, f3 = a := ⟨f3.toNat, by omega⟩
      rw [Int.toNat_natCast] at HZ1
      have zs : (mk s).size = s.length := mk_size _
      have zs5 : (mk s5).size = s5.length := mk_size _
      have tp5 := mk_list s5
      clear hneg
      by_cases hbig : 16384 < (a : Int)
      · have HZ : Hid (writeS g ⟨7, s1, s2, a, f4, s5⟩ = (g, told 13)) := Lib.hid (by rw [HZ1.out, if_pos (by omega)])
        go_wp2_with fail
        refine bodyPost_ret (results_cell_row rfl _ _ (W.heap.size + 1) 32 #[_, _, _, _] (0, 0) _ rfl (put4_at HA3.out) Tryz.underlying32 rfl (by kernel_rfl)) rfl ?_
        rw [HZ.out]
        exact ⟨T, KDo.put4 HB1.out HG.out (KDo.still HK1.out HB3.out rfl) (by omega) (by omega), HR.out, rfl⟩
      obtain ⟨oe, hoe⟩ : ∃ oe, a + s5.length = oe := ⟨_, rfl⟩
      have zoe : (a : Int) + (s5.length : Int) = (oe : Int) := by omega
      have hbig2 : (a : Int) ≤ 16384 := by omega
      clear hbig
      by_cases hlong : 16384 < (oe : Int)
      · have HZ : Hid (writeS g ⟨7, s1, s2, a, f4, s5⟩ = (g, told 13)) := Lib.hid (by rw [HZ1.out, if_pos (by omega)])
        clear hoe
        go_wp2_with fail
        refine bodyPost_ret (results_cell_row rfl _ _ (W.heap.size + 1) 32 #[_, _, _, _] (0, 0) _ rfl (put4_at HA3.out) Tryz.underlying32 rfl (by kernel_rfl)) rfl ?_
        rw [HZ.out]
        exact ⟨T, KDo.put4 HB1.out HG.out (KDo.still HK1.out HB3.out rfl) (by omega) (by omega), HR.out, rfl⟩
      have hl2 : (oe : Int) ≤ 16384 := by omega
      have HZ2 : Hid (writeS g ⟨7, s1, s2, a, f4, s5⟩ = if s5 = [] then (g, ⟨0, 0, [], []⟩) else (setB g x (wrote s a s5), ⟨0, s5.length, [], []⟩)) := Lib.hid (by rw [HZ1.out, if_neg (by omega)])
      have HOE := Lib.hid hoe
      clear hlong hoe
      by_cases hnil : s5 = []
      · subst hnil
        have HZ : Hid (writeS g ⟨7, s1, s2, a, f4, []⟩ = (g, ⟨0, 0, [], []⟩)) := Lib.hid (by rw [HZ2.out, if_pos rfl])
        go_wp2_with fail
        refine bodyPost_ret (results_cell_row rfl _ _ (W.heap.size + 1) 32 #[_, _, _, _] (0, 0) _ rfl (put4_at HA3.out) Tryz.underlying32 rfl (by kernel_rfl)) rfl ?_
        rw [HZ.out]
        exact ⟨T, KDo.put4 HB1.out HG.out (KDo.still HK1.out HB3.out rfl) (by omega) (by omega), HR.out, rfl⟩
      have hb5 : (s5 == []) = false := beq_eq_false_iff_ne.2 hnil
      have HZ : Hid (writeS g ⟨7, s1, s2, a, f4, s5⟩ = (setB g x (wrote s a s5), ⟨0, s5.length, [], []⟩)) := Lib.hid (by rw [HZ2.out, if_neg hnil])
      clear hnil
      obtain ⟨K, hK⟩ : ∃ K, oe - s.length = K := ⟨_, rfl⟩
      obtain ⟨u, hu⟩ : ∃ u, s ++ List.replicate K (0 : UInt8) = u := ⟨_, rfl⟩
      have hKv : max ((oe : Int) - (s.length : Int)) 0 = (K : Int) := by omega
      have hcat : mk s ++ mk (List.replicate K (0 : UInt8)) = mk u := by rw [mk_append, hu]
      obtain ⟨ul, hul0⟩ : ∃ ul, u.length = ul := ⟨_, rfl⟩
      have zu : (mk u).size = ul := by rw [mk_size, hul0]
      have hul : ul = s.length + K := by rw [← hul0, ← hu, List.length_append, List.length_replicate]
      have hsz2 : sizedS s (max s.length oe) = u := by rw [sized_take (a := 0) (by omega), show max s.length oe - s.length = K by omega, hu]
      have HU : Hid (wrote s a s5 = u.take a ++ s5 ++ u.drop oe) := Lib.hid (by unfold wrote; rw [HOE.out, hsz2])
      obtain ⟨vv, hvv⟩ : ∃ v, wrote s a s5 = v := ⟨_, rfl⟩
      rw [hvv] at HU HZ
      have hoe2 := HOE.out
      have e1 : (mk u).extract 0 a = mk (u.take a) := by rw [mk_extract]; simp
      have e3 : (mk u).extract oe ul = mk (u.drop oe) := by rw [mk_extract, List.take_of_length_le (by rw [List.length_drop]; omega)]
      have e4 : mk (u.take a) ++ mk s5 = mk (u.take a ++ s5) := by rw [mk_append]
      have e5 : mk (u.take a ++ s5) ++ mk (u.drop oe) = mk vv := by rw [mk_append, HU.out]
      have ew : IntKind.i64.wrap ((a : Int) + (s5.length : Int)) = (oe : Int) := by rw [Go.IntWalk.i64_in _ (by omega)]; omega
      have zK : (mk (List.replicate K (0 : UInt8))).size = K := by rw [mk_size, List.length_replicate]
      have zt1 : (mk (u.take a)).size = a := by rw [mk_size, List.length_take]; omega
      have zt2 : (mk (u.take a ++ s5)).size = oe := by rw [mk_size, List.length_append, List.length_take]; omega
      have zt3 : (mk (u.drop oe)).size = ul - oe := by rw [mk_size, List.length_drop, hul0]
      have zs1 : (a : Int) ≤ (ul : Int) := by omega
      have zs2 : (oe : Int) ≤ (ul : Int) := by omega
      have zs4 : ul ≤ 40000 := by omega
      have zs5b : K ≤ 16384 := by omega
      have zs3 : (0 : Int) ≤ (oe : Int) := by omega
      clear hsz2 hu hvv hoe2 hul hul0 hK
      have HKV := Lib.hid hKv
      go_wp2_with fail
      refine (zeros_calls K _ rfl (by omega) _).mono ?_
      rintro e w4 ⟨rfl, hB4⟩
      have HK4 := Lib.hid (HK3.out.below hB4)
      have HBX4 := Lib.hid (block_keep HBX3.out hB4)
      have HA4 := Lib.hid (block_keep HA3.out hB4)
      have HB4 := Lib.hid (bstep HB3.out hB4)
      clear hB4 q0 q1 q2 q3 q4 q5 y0 y1 y2 y3 v0 v1 v2 v3 c1 t0 t1 HKV hKv
      obtain ⟨q0, q1, q2, q3, q4, q5⟩ := op6 HBX4.out
      obtain ⟨vE, vT, hks⟩ := id HK4.out
      obtain ⟨ad4, d4, hdd4, c1, t0, t1, tf, hst⟩ := hks.slotT (HDX.out ▸ HTX.out)
      rw [HM.out] at c1 hdd4
      have z6 : (x : Int) < (d4 : Int) := by omega
      obtain ⟨hst1, hst2⟩ := hst vv
      have HST1 := Lib.hid hst1
      have HST2 := Lib.hid hst2
      clear hst hks hst1 hst2 HK4
      go_wp2_with fail
      go_region
      obtain ⟨w5, hw5⟩ : ∃ w, (w4.setCell ⟨(ad4.add (x * 2)).block, (ad4.add (x * 2)).off + 1, none⟩ (.string (mk vv))).drew = w := ⟨_, rfl⟩
      rw [hw5]
      have HK5 := Lib.hid (show KMs w5 G n0 kb E (T.set x (false, vv)) vE vT from by rw [← hw5]; exact HST1.out.same (fun _ _ => rfl))
      have HF5 := Lib.hid (show Fr G w4 w5 from by rw [← hw5]; exact HST2.out.drew)
      have HBX5 := Lib.hid ((HF5.out.block _ (some_lt HBX4.out) (fun hg => by have := HG.out _ hg; omega)).trans HBX4.out)
      have HA5 := Lib.hid ((HF5.out.block _ (some_lt HA4.out) (fun hg => by have := HG.out _ hg; omega)).trans HA4.out)
      clear hw5 q0 q1 q2 q3 q4 q5 c1 t0 t1 tf
      obtain ⟨q0, q1, q2, q3, q4, q5⟩ := op6 HBX5.out
      obtain ⟨y0, y1, y2, y3, v0, v1, v2, v3⟩ := ans_cells HA5.out
      go_wp2_with fail
      refine bodyPost_ret (results_cell_row rfl _ _ (W.heap.size + 1) 32 #[_, _, _, _] (0, 0) _ rfl (put4_at HA5.out) Tryz.underlying32 rfl (by kernel_rfl)) rfl ?_
      rw [HZ.out]
      exact ⟨T.set x (false, vv), KDo.put4 HB1.out HG.out (KDo.plain ⟨G, ⟨vE, vT, HK5.out⟩, ⟨(Fr.of_below HB4.out).trans HF5.out, fun b h => .inl h⟩⟩ rfl) (by omega) (by omega), HR.out.setB HDX.out, List.length_set⟩
end Go.Proofs.YtaccokghjpcijaaGreatDoor
set_option linter.unusedVariables false
set_option linter.unusedSimpArgs false
namespace Go.Proofs.YtaccokghjpcijaaGreatDoor
open Go Go.RowKit Pp Go.Proofs.YtaccokghjpcijaaGreatDoorW.PrintWords

set_option maxRecDepth 100000 in
set_option maxHeartbeats 8000000 in
theorem ktrunc_calls {W : World} {G : Nat → Prop} {n0 kb : Nat} {E : List (Str × Nat)} {T : List (Bool × Str)} {g : St} (h : KM W G n0 kb E T) (hn0 : n0 ≤ W.heap.size) (hr : KRel g E T) (hI : Inv g) (hE : E.length ≤ 1000000) (hT : T.length ≤ 1000000) (hby : ∀ i, (g.node i).bytes.length ≤ 16384) (o : Ask) (ho : o.do_ = 8) (hp : o.path.length ≤ 4096) :
    Calls Tryz.prog 49 #[.pointer (some ⟨kb, 0, none⟩), opV o] W (fun e W' => ∃ T', KDo W G n0 kb E T' (truncS g o).2 e W' ∧ KRel (truncS g o).1 E T' ∧ T'.length = T.length) := by
  obtain ⟨f0, s1, s2, f3, f4, s5⟩ := o
  simp only at hp ho
  subst ho
  unfold opV
  obtain ⟨W1, hW1⟩ : ∃ W1, (W.alloc (.cells #[.int .i64 8, .string (mk s1), .string (mk s2), .int .i64 f3, .int .i64 f4, .string (mk s5)] 35)).alloc (.cells #[.int .i64 0, .int .i64 0, .string ⟨#[]⟩, .slice none 0 0] 32) = W1 := ⟨_, rfl⟩
  obtain ⟨hb1, hbox, hans⟩ := opans W ⟨8, s1, s2, f3, f4, s5⟩ hW1
  have hsz : W.heap.size + 2 ≤ W1.heap.size := by rw [← hW1]; simp
  have HB1 := Lib.hid hb1
  have HG := Lib.hid (fun b hb => (h.lt b hb).1)
  have HBX := Lib.hid hbox
  have HA := Lib.hid hans
  have HK1 := Lib.hid (h.below hb1)
  have HR := Lib.hid hr
  have HI := Lib.hid hI
  have HW := Lib.hid hW1
  obtain ⟨q0, q1, q2, q3, q4, q5⟩ := op6 hbox
  clear hb1 hbox hans h hr hI hW1
  go_enter Tryz.func49, Tryz.ntmps49
  go_upto_region 1 with fail
  rw [HW.out]
  obtain ⟨r, hrr⟩ : ∃ r, leads g s1 = r := ⟨_, rfl⟩
  have HL := Lib.hid hrr
  clear hrr
  go_wp2_with fail
  refine (kleads_at HK1.out HR.out HI.out hE s1 hp HL.out).mono ?_
  rintro e w3 ⟨rfl, hB3⟩
  have HK3 := Lib.hid (HK1.out.below hB3)
  have HBX3 := Lib.hid (block_keep HBX.out hB3)
  have HA3 := Lib.hid (block_keep HA.out hB3)
  have HB3 := Lib.hid hB3
  clear q0 q1 q2 q3 q4 q5
  obtain ⟨q0, q1, q2, q3, q4, q5⟩ := op6 HBX3.out
  obtain ⟨y0, y1, y2, y3, v0, v1, v2, v3⟩ := ans_cells HA3.out
  clear hB3
  cases r with
  | error ec =>
    have hcb : (ec != 0) = true := bne_iff_ne.2 (by have := leads_err HL.out; omega)
    have HZ : Hid (truncS g ⟨8, s1, s2, f3, f4, s5⟩ = (g, told ec)) := Lib.hid (by unfold truncS kind; simp only [HL.out])
    unfold resN resE
    go_wp2_with fail
    refine bodyPost_ret (results_cell_row rfl _ _ (W.heap.size + 1) 32 #[_, _, _, _] (0, 0) _ rfl (put4_at HA3.out) Tryz.underlying32 rfl (by kernel_rfl)) rfl ?_
    rw [HZ.out]
    exact ⟨T, KDo.put4 HB1.out HG.out (KDo.still HK1.out HB3.out rfl) (by omega) (by omega), HR.out, rfl⟩
  | ok x =>
    have hxl := leads_ne HI.out HL.out
    have hTx := HR.out.at_ x hxl
    have hsm := hby x
    obtain ⟨s, hs⟩ : ∃ s, (g.node x).bytes = s := ⟨_, rfl⟩
    rw [hs] at hTx hsm
    have hmx : x < T.length := (List.getElem?_eq_some_iff.1 hTx).1
    have HTX := Lib.hid hTx
    obtain ⟨ad, d, hdd, c1, t0, t1⟩ := HK3.out.thing hTx
    obtain ⟨m, hm⟩ : ∃ m, T.length = m := ⟨_, rfl⟩
    have HM := Lib.hid hm
    rw [hm] at c1 hdd hmx
    have z3 : (0 : Int) ≤ (x : Int) := by omega
    have z4 : (x : Int) < (m : Int) := by omega
    have z5 : (x : Int) < (d : Int) := by omega
    unfold resN resE
    cases hdx : isDir g x with
    | true =>
      rw [hdx] at t0
      have HZ : Hid (truncS g ⟨8, s1, s2, f3, f4, s5⟩ = (g, told 10)) := Lib.hid (by unfold truncS kind; simp only [HL.out, hdx]; rfl)
      clear hdx hTx hm
      go_wp2_with fail
      refine bodyPost_ret (results_cell_row rfl _ _ (W.heap.size + 1) 32 #[_, _, _, _] (0, 0) _ rfl (put4_at HA3.out) Tryz.underlying32 rfl (by kernel_rfl)) rfl ?_
      rw [HZ.out]
      exact ⟨T, KDo.put4 HB1.out HG.out (KDo.still HK1.out HB3.out rfl) (by omega) (by omega), HR.out, rfl⟩
    | false =>
      rw [hdx] at t0
      have HDX := Lib.hid hdx
      have hk : kind g s1 false = .ok x := by unfold kind; simp only [HL.out, hdx]; simp
      have HZ0 : Hid (truncS g ⟨8, s1, s2, f3, f4, s5⟩ = if f4 < 0 then (g, told 1) else if 16384 < f4 then (g, told 13) else (setB g x (sizedS s f4.toNat), told 0)) := Lib.hid (by unfold truncS; rw [hk, ← hs]; rfl)
      clear hdx hTx hm hk
      have HS := Lib.hid hs
      clear hs
      by_cases hneg : f4 < 0
      · have HZ : Hid (truncS g ⟨8, s1, s2, f3, f4, s5⟩ = (g, told 1)) := Lib.hid (by rw [HZ0.out, if_pos hneg])
        go_wp2_with fail
        refine bodyPost_ret (results_cell_row rfl _ _ (W.heap.size + 1) 32 #[_, _, _, _] (0, 0) _ rfl (put4_at HA3.out) Tryz.underlying32 rfl (by kernel_rfl)) rfl ?_
        rw [HZ.out]
        exact ⟨T, KDo.put4 HB1.out HG.out (KDo.still HK1.out HB3.out rfl) (by omega) (by omega), HR.out, rfl⟩
      by_cases hbig : 16384 < f4
      · have HZ : Hid (truncS g ⟨8, s1, s2, f3, f4, s5⟩ = (g, told 13)) := Lib.hid (by rw [HZ0.out, if_neg hneg, if_pos hbig])
        go_wp2_with fail
        refine bodyPost_ret (results_cell_row rfl _ _ (W.heap.size + 1) 32 #[_, _, _, _] (0, 0) _ rfl (put4_at HA3.out) Tryz.underlying32 rfl (by kernel_rfl)) rfl ?_
        rw [HZ.out]
        exact ⟨T, KDo.put4 HB1.out HG.out (KDo.still HK1.out HB3.out rfl) (by omega) (by omega), HR.out, rfl⟩
      have HZ1 : Hid (truncS g ⟨8, s1, s2, f3, f4, s5⟩ = (setB g x (sizedS s f4.toNat), told 0)) := Lib.hid (by rw [HZ0.out, if_neg hneg, if_neg hbig])
      obtain ⟨b, rfl⟩ : ∃ b : Nat, f4 = b := ⟨f4.toNat, by omega⟩
      rw [Int.toNat_natCast] at HZ1
      have hb16 : b ≤ 16384 := by omega
      have zs : (mk s).size = s.length := mk_size _
      clear hneg hbig
      obtain ⟨u, hu⟩ : ∃ u, s ++ List.replicate b (0 : UInt8) = u := ⟨_, rfl⟩
      have hcat : mk s ++ mk (List.replicate b (0 : UInt8)) = mk u := by rw [mk_append, hu]
      obtain ⟨ul, hul0⟩ : ∃ ul, u.length = ul := ⟨_, rfl⟩
      have zu : (mk u).size = ul := by rw [mk_size, hul0]
      have hul : ul = s.length + b := by rw [← hul0, ← hu, List.length_append, List.length_replicate]
      have zK : (mk (List.replicate b (0 : UInt8))).size = b := by rw [mk_size, List.length_replicate]
      obtain ⟨vv, hvv⟩ : ∃ v, sizedS s b = v := ⟨_, rfl⟩
      have htk : u.take b = vv := by
        rw [← hvv, ← hu]
        unfold sizedS
        by_cases hbs : b ≤ s.length
        · rw [if_pos hbs, List.take_append_of_le_length hbs]
        · rw [if_neg hbs, List.take_append, List.take_of_length_le (by omega), List.take_replicate, Nat.min_eq_left (by omega)]
      have e1 : (mk u).extract 0 b = mk vv := by rw [mk_extract, Nat.sub_zero, List.drop_zero, htk]
      rw [hvv] at HZ1
      have zs1 : (b : Int) ≤ (ul : Int) := by omega
      have zs4 : ul ≤ 40000 := by omega
      have zs5 : (0 : Int) ≤ (b : Int) := by omega
      obtain ⟨vE, vT, hks⟩ := id HK3.out
      obtain ⟨vT, hvT, rfl⟩ : ∃ v, v = Value.slice (some ad) m d ∧ vT = v := ⟨vT, Option.some.inj ((heap_cell hks.root 1 _ rfl).symm.trans c1), rfl⟩
      subst hvT
      have HKS := Lib.hid hks
      have HTX2 : Hid (T[x]? = some (false, s)) := Lib.hid (HDX.out ▸ HTX.out)
      have HZZ := Lib.hid (fun W => zeros_calls b (b : Int) rfl (by omega) W)
      have hfd : isDir g x = false := HDX.out
      clear hks htk hu hul0 hul hvv hfd
      go_wp2_with fail
      go_region_with (first | (go_at_call 15; refine (HZZ.out _).mono ?_; rintro e w4 ⟨rfl, hB⟩; have hB4 : Below w3.heap.size w3 w4 := ⟨hB.os, hB.tape, hB.output, hB.size, hB.block⟩; obtain ⟨c14, t04, t14, tf4, _⟩ := (HKS.out.below hB4).slotAt HTX2.out; have q44 := heap_cell (block_keep HBX3.out hB4) 4 _ rfl))
      all_goals
        have HB4 := Lib.hid hB4
        have HST := Lib.hid (((HKS.out.below hB4).slotAt HTX2.out).2.2.2.2 vv)
        have HBX4 := Lib.hid (block_keep HBX3.out hB4)
        have HA4 := Lib.hid (block_keep HA3.out hB4)
        obtain ⟨w5, hw5⟩ : ∃ w, w4.setCell ⟨(ad.add (x * 2)).block, (ad.add (x * 2)).off + 1, none⟩ (.string (mk vv)) = w := ⟨_, rfl⟩
        rw [hw5] at HST
        rw [hw5]
        have HBX5 := Lib.hid ((HST.out.2.block _ (some_lt HBX4.out) (fun hg => by have := HG.out _ hg; omega)).trans HBX4.out)
        have HA5 := Lib.hid ((HST.out.2.block _ (some_lt HA4.out) (fun hg => by have := HG.out _ hg; omega)).trans HA4.out)
        clear hw5 q0 q1 q2 q3 q4 q5 c14 t04 t14 tf4 q44 c1 t0 t1 hB4 hB
        obtain ⟨q0, q1, q2, q3, q4, q5⟩ := op6 HBX5.out
        obtain ⟨y0, y1, y2, y3, v0, v1, v2, v3⟩ := ans_cells HA5.out
        go_wp2_with fail
        refine bodyPost_ret (results_cell_row rfl _ _ (W.heap.size + 1) 32 #[_, _, _, _] (0, 0) _ rfl (put4_at HA5.out) Tryz.underlying32 rfl (by kernel_rfl)) rfl ?_
        rw [HZ1.out]
        exact ⟨T.set x (false, vv), KDo.put4 HB1.out HG.out (KDo.plain ⟨G, ⟨vE, _, HST.out.1⟩, ⟨(Fr.of_below (bstep HB3.out HB4.out)).trans HST.out.2, fun b h => .inl h⟩⟩ rfl) (by omega) (by omega), HR.out.setB HDX.out, List.length_set⟩
end Go.Proofs.YtaccokghjpcijaaGreatDoor
set_option linter.unusedVariables false
set_option linter.unusedSimpArgs false
namespace Go.Proofs.YtaccokghjpcijaaGreatDoor
open Go Go.RowKit Pp Go.Proofs.YtaccokghjpcijaaGreatDoorW.PrintWords

theorem digit_conv (r : Nat) (hr : r < 10) (w : World) : (Go.convert 64 9 (.slice (some ⟨w.heap.size, 0, none⟩) 1 1)).run Tryz.prog (w.alloc (.cells #[.int .u8 (48 + (r : Int))] 5)) = .ok (.string (mk [UInt8.ofNat (48 + r)])) (w.alloc (.cells #[.int .u8 (48 + (r : Int))] 5)) := by
  refine run_convert_bytes_back (P := Tryz.prog) _ 64 9 5 ⟨w.heap.size, 0, none⟩ 1 [UInt8.ofNat (48 + r)] Tryz.underlying64 Tryz.underlying5 Tryz.underlying9 ?_
  intro j hj
  have hj0 : j = 0 := by simpa using hj
  subst hj0
  have e : (UInt8.ofNat (48 + r)).toNat = 48 + r := by rw [UInt8.toNat_ofNat']; omega
  show (w.alloc _).cell? ⟨w.heap.size, 0, none⟩ = _
  rw [World.cell?_alloc_new]
  simp [e]
  omega
set_option maxRecDepth 100000 in
set_option maxHeartbeats 4000000 in
theorem kdigits1 (W : World) (d : Nat) (hd : d < 10) : Calls Tryz.prog 75 #[.int .i64 d] W fun e W' => e = .returned (.string (mk (Lib.decDigits d))) ∧ Below W.heap.size W W' := by
  have z1 : (d : Int) < 10 := by omega
  have z2 : (d : Int).tmod 10 = (d : Int) := by rw [Int.tmod_eq_emod_of_nonneg (by omega)]; omega
  have hcv := digit_conv d hd W
  obtain ⟨S, hS⟩ : ∃ S, mk [UInt8.ofNat (48 + d)] = S := ⟨_, rfl⟩
  rw [hS] at hcv
  have HD := Lib.hid (show mk (Lib.decDigits d) = S by rw [Lib.decDigits_one hd, hS])
  clear hS
  go_enter Tryz.func75, Tryz.ntmps75
  go_wp2_with fail
  go_ret
  exact ⟨by rw [HD.out]; rfl, balloc (Below.refl _ _)⟩
theorem ndig_le (u : Nat) : Lib.nDigits u ≤ u + 1 := by
  induction u using Nat.strongRecOn with
  | _ u ih =>
    by_cases h : u < 10
    · rw [Lib.nDigits_small h]; omega
    · rw [Lib.nDigits_big h]
      have := ih (u / 10) (by omega)
      omega
set_option maxRecDepth 100000 in
set_option maxHeartbeats 4000000 in
theorem kdigits (d : Nat) : ∀ (hd : d ≤ 1000000) (W : World), Calls Tryz.prog 75 #[.int .i64 d] W fun e W' => e = .returned (.string (mk (Lib.decDigits d))) ∧ Below W.heap.size W W' := by
  induction d using Nat.strongRecOn with
  | _ d ih =>
  intro hd W
  by_cases hlt : d < 10
  · exact kdigits1 W d hlt
  obtain ⟨r, hr⟩ : ∃ r, d % 10 = r := ⟨_, rfl⟩
  obtain ⟨q, hq⟩ : ∃ q, d / 10 = q := ⟨_, rfl⟩
  have z1 : (10 : Int) ≤ (d : Int) := by omega
  have z2 : (d : Int).tmod 10 = (r : Int) := by rw [Int.tmod_eq_emod_of_nonneg (by omega)]; omega
  have z3 : (d : Int).tdiv 10 = (q : Int) := by rw [Int.tdiv_eq_ediv_of_nonneg (by omega)]; omega
  have z4 : (r : Int) < 10 := by omega
  have zw : wrap64 (q : Int) = (q : Int) := by rw [← Go.IntWalk.i64_left, Go.IntWalk.i64_in _ (by omega)]
  have hcv := digit_conv r (by omega) W
  have HQ := Lib.hid (fun w => ih q (by omega) (by omega) w)
  have hl2 : Lib.decDigits d = Lib.decDigits q ++ [UInt8.ofNat (48 + r)] := by rw [Lib.decDigits, dif_neg hlt, hq, hr]
  have hn1 := ndig_le q
  rw [← Lib.decDigits_length] at hn1
  obtain ⟨S, hS⟩ : ∃ S, mk [UInt8.ofNat (48 + r)] = S := ⟨_, rfl⟩
  obtain ⟨D1, hD1⟩ : ∃ S, mk (Lib.decDigits q) = S := ⟨_, rfl⟩
  obtain ⟨D2, hD2⟩ : ∃ S, mk (Lib.decDigits d) = S := ⟨_, rfl⟩
  have e1 : D1 ++ S = D2 := by
    have h := mk_append (Lib.decDigits q) [UInt8.ofNat (48 + r)]
    rw [← hD1, ← hS, ← hD2, hl2]
    exact h
  obtain ⟨m, hm⟩ : ∃ m, D1.size = m := ⟨_, rfl⟩
  have hm2 : m ≤ 1000001 := by rw [← hm, ← hD1, mk_size]; omega
  have e3 : S.size = 1 := by rw [← hS, mk_size]; exact List.length_singleton
  rw [hS] at hcv
  rw [hD1] at HQ
  rw [hD2]
  have HE := Lib.hid (And.intro hD1 hD2)
  clear hS hD1 hD2 hl2 hn1 ih
  clear hr hq hlt hd
  go_enter Tryz.func75, Tryz.ntmps75
  go_wp2_with fail
  refine (HQ.out _).mono ?_
  rintro e w1 ⟨rfl, hB⟩
  go_wp2_with fail
  go_ret
  exact ⟨rfl, bstep (balloc (Below.refl _ _)) hB⟩
end Go.Proofs.YtaccokghjpcijaaGreatDoor
set_option linter.unusedVariables false
set_option linter.unusedSimpArgs false
namespace Go.Proofs.YtaccokghjpcijaaGreatDoor
open Go Go.RowKit Pp

theorem parent_join {ini : List Str} {nm : Str} (h : okNs (ini ++ [nm])) : (parentV (join (ini ++ [nm]))).1 = join ini ∧ (parentV (join (ini ++ [nm]))).2.1 = nm := by
  rw [parentV_snoc (split_join h)]
  exact ⟨rfl, rfl⟩
theorem namesP_perm {g : St} {E : List (Str × Nat)} {T : List (Bool × Str)} (r : KRel g E T) (h : Inv g) {p : Str} {x : Nat} (hl : leads g p = .ok x) : (namesP E p).Perm ((entsOf g x).map (·.1)) := by
  obtain ⟨⟨En, hR, rfl⟩, _, _⟩ := r
  obtain ⟨l, hs, hg⟩ := leads_go.1 hl
  have hpl : p = join l := (join_split hs).symm
  have hol : okNs l := go_names h hg
  have hf : namesP (jE En) p = ((En.filter fun e => decide ((parentV (join e.1)).1 = p)).map fun e => (parentV (join e.1)).2.1) := by
    unfold namesP jE
    rw [List.filter_map, List.map_map]
    rfl
  have key : ∀ e ∈ En, (parentV (join e.1)).1 = p → ∃ nm, e.1 = l ++ [nm] ∧ (parentV (join e.1)).2.1 = nm ∧ okNs e.1 := fun e he hp => by
    have hok := hR.ok h he
    have hne := ((hR.mem e.1 e.2).1 he).1
    obtain ⟨ini, nm, e1⟩ := snoc_of hne
    rw [e1] at hok hp ⊢
    obtain ⟨p1, p2⟩ := parent_join hok
    have hi : okNs ini := fun q hq => hok q (List.mem_append_left _ hq)
    have : ini = l := join_inj hi hol (by rw [← p1, hp, hpl])
    subst this
    exact ⟨nm, rfl, p2, hok⟩
  rw [hf]
  refine (List.perm_ext_iff_of_nodup ?_ (h.nodup x)).2 fun nm => ⟨fun hm => ?_, fun hm => ?_⟩
  · have hnd : En.Nodup := List.Pairwise.of_map (fun e => e.1) (fun a b hab e => hab (by rw [e])) hR.nodup
    refine nodup_on (hnd.filter _) fun a b ha hb e => ?_
    obtain ⟨ha1, ha2⟩ := List.mem_filter.1 ha
    obtain ⟨hb1, hb2⟩ := List.mem_filter.1 hb
    obtain ⟨n1, a1, a2, _⟩ := key a ha1 (of_decide_eq_true ha2)
    obtain ⟨n2, b1, b2, _⟩ := key b hb1 (of_decide_eq_true hb2)
    have hn : n1 = n2 := by rw [← a2, ← b2]; exact e
    have h1 : a.1 = b.1 := by rw [a1, b1, hn]
    have g1 := ((hR.mem a.1 a.2).1 ha1).2
    have g2 := ((hR.mem b.1 b.2).1 hb1).2
    rw [h1, g2] at g1
    exact Prod.ext h1 (Option.some.inj g1).symm
  · obtain ⟨e, he, rfl⟩ := List.mem_map.1 hm
    obtain ⟨he1, he2⟩ := List.mem_filter.1 he
    obtain ⟨n1, a1, a2, _⟩ := key e he1 (of_decide_eq_true he2)
    rw [a2]
    have g1 := ((hR.mem e.1 e.2).1 he1).2
    rw [a1, go_snoc, hg] at g1
    exact List.mem_map.2 ⟨(n1, e.2), look_mem g1, rfl⟩
  · obtain ⟨q, hq, rfl⟩ := List.mem_map.1 hm
    have hlk : look (entsOf g x) q.1 = some q.2 := (look_iff (h.nodup x)).2 hq
    have hgo : go g 0 (l ++ [q.1]) = some q.2 := by rw [go_snoc, hg]; exact hlk
    have hin : (l ++ [q.1], q.2) ∈ En := (hR.mem _ _).2 ⟨by simp, hgo⟩
    obtain ⟨p1, p2⟩ := parent_join (hR.ok h hin)
    exact List.mem_map.2 ⟨(l ++ [q.1], q.2), List.mem_filter.2 ⟨hin, decide_eq_true (by rw [p1, hpl])⟩, p2⟩
/-- Sorted, and the same names: the same list. -/
theorem sorted_eq {D L : List Str} (hs : D.Pairwise (fun x y => x ≤ y)) (hp : D.Perm L) : D = sortS L := by
  rw [← sortS_perm hp]
  refine List.Perm.eq_of_pairwise (le := fun a b => a ≤ b) (fun a b _ _ h1 h2 => List.le_antisymm h1 h2) hs ?_ (List.mergeSort_perm D _).symm
  have tr : ∀ a b c : Str, decide (a ≤ b) = true → decide (b ≤ c) = true → decide (a ≤ c) = true := fun a b c h1 h2 => decide_eq_true (List.le_trans (of_decide_eq_true h1) (of_decide_eq_true h2))
  have tot : ∀ a b : Str, (decide (a ≤ b) || decide (b ≤ a)) = true := fun a b => by
    rcases List.le_total a b with h | h
    · simp [h]
    · simp [h]
  exact (List.pairwise_mergeSort tr tot D).imp fun h => of_decide_eq_true h
theorem names_eq {g : St} {E : List (Str × Nat)} {T : List (Bool × Str)} (r : KRel g E T) (h : Inv g) {p : Str} {x : Nat} (hl : leads g p = .ok x) {D : List Str} (hs : D.Pairwise (fun x y => x ≤ y)) (hp : D.Perm (namesP E p)) : D = sortS ((entsOf g x).map (·.1)) := sorted_eq hs (hp.trans (namesP_perm r h hl))
theorem sortS_length (l : List Str) : (sortS l).length = l.length := (List.mergeSort_perm l _).length_eq
end Go.Proofs.YtaccokghjpcijaaGreatDoor
set_option linter.unusedVariables false
set_option linter.unusedSimpArgs false
namespace Go.Proofs.YtaccokghjpcijaaGreatDoor
open Go Go.RowKit Pp Go.Proofs.YtaccokghjpcijaaGreatDoorW.PrintWords

set_option maxRecDepth 100000 in
set_option maxHeartbeats 8000000 in
theorem klist_calls {W : World} {G : Nat → Prop} {n0 kb : Nat} {E : List (Str × Nat)} {T : List (Bool × Str)} {g : St} (h : KM W G n0 kb E T) (hn0 : n0 ≤ W.heap.size) (hr : KRel g E T) (hI : Inv g) (hE : E.length ≤ 1000000) (hT : T.length ≤ 1000000) (hm : ∀ e ∈ E, e.1.length ≤ 1000000) (o : Ask) (ho : o.do_ = 10) (hp : o.path.length ≤ 4096) :
    Calls Tryz.prog 50 #[.pointer (some ⟨kb, 0, none⟩), opV o] W (KDo W G n0 kb E T (listS g o).2) := by
  obtain ⟨f0, s1, s2, f3, f4, s5⟩ := o
  simp only at hp ho
  subst ho
  unfold opV
  obtain ⟨W1, hW1⟩ : ∃ W1, (W.alloc (.cells #[.int .i64 10, .string (mk s1), .string (mk s2), .int .i64 f3, .int .i64 f4, .string (mk s5)] 35)).alloc (.cells #[.int .i64 0, .int .i64 0, .string ⟨#[]⟩, .slice none 0 0] 32) = W1 := ⟨_, rfl⟩
  obtain ⟨hb1, hbox, hans⟩ := opans W ⟨10, s1, s2, f3, f4, s5⟩ hW1
  have hsz : W.heap.size + 2 ≤ W1.heap.size := by rw [← hW1]; simp
  have HB1 := Lib.hid hb1
  have HG := Lib.hid (fun b hb => (h.lt b hb).1)
  have HBX := Lib.hid hbox
  have HA := Lib.hid hans
  have HK1 := Lib.hid (h.below hb1)
  have HR := Lib.hid hr
  have HI := Lib.hid hI
  have HW := Lib.hid hW1
  obtain ⟨q0, q1, q2, q3, q4, q5⟩ := op6 hbox
  clear hb1 hbox hans h hr hI hW1
  go_enter Tryz.func50, Tryz.ntmps50
  go_upto_region 1 with fail
  rw [HW.out]
  obtain ⟨r, hrr⟩ : ∃ r, leads g s1 = r := ⟨_, rfl⟩
  have HL := Lib.hid hrr
  clear hrr
  go_wp2_with fail
  refine (kleads_at HK1.out HR.out HI.out hE s1 hp HL.out).mono ?_
  rintro e w3 ⟨rfl, hB3⟩
  have HK3 := Lib.hid (HK1.out.below hB3)
  have HBX3 := Lib.hid (block_keep HBX.out hB3)
  have HA3 := Lib.hid (block_keep HA.out hB3)
  have HB3 := Lib.hid hB3
  clear q0 q1 q2 q3 q4 q5
  obtain ⟨q0, q1, q2, q3, q4, q5⟩ := op6 HBX3.out
  obtain ⟨y0, y1, y2, y3, v0, v1, v2, v3⟩ := ans_cells HA3.out
  clear hB3
  have HMM := Lib.hid hm
  clear hm
  cases r with
  | error ec =>
    have hcb : (ec != 0) = true := bne_iff_ne.2 (by have := leads_err HL.out; omega)
    have HZ : Hid ((listS g ⟨10, s1, s2, f3, f4, s5⟩).2 = told ec) := Lib.hid (by unfold listS kind; simp only [HL.out])
    unfold resN resE
    go_wp2_with fail
    refine bodyPost_ret (results_cell_row rfl _ _ (W.heap.size + 1) 32 #[_, _, _, _] (0, 0) _ rfl (put4_at HA3.out) Tryz.underlying32 rfl (by kernel_rfl)) rfl ?_
    rw [HZ.out]
    exact KDo.put4 HB1.out HG.out (KDo.still HK1.out HB3.out rfl) (by omega) (by omega)
  | ok x =>
    have hxl := leads_ne HI.out HL.out
    have hTx := HR.out.at_ x hxl
    unfold resN resE
    go_wp2_with fail
    refine (knames_calls HK3.out hE HMM.out s1).mono ?_
    rintro e w4 ⟨D, s, rfl, hN⟩
    obtain ⟨A, c, hs, hc⟩ := own_form hN.own
    subst hs
    have hD := names_eq HR.out HI.out HL.out hN.sorted hN.perm
    have hDl : D.length ≤ 1000000 := by
      rw [hN.perm.length_eq]
      unfold namesP
      rw [List.length_map]
      exact Nat.le_trans (List.length_filter_le _ _) hE
    have HS := Lib.hid (Strs.of_row hN.own (by omega))
    have HV := Lib.hid (fun (bk o : Nat) (hA : A = some ⟨bk, o, none⟩) => hN.own.lt bk (by rw [hA]; rfl))
    have HK4 := Lib.hid (HK3.out.below hN.below)
    have HBX4 := Lib.hid (block_keep HBX3.out hN.below)
    have HA4 := Lib.hid (block_keep HA3.out hN.below)
    have HZ4 := Lib.hid (show W.heap.size ≤ w3.heap.size from Nat.le_trans HB1.out.size HB3.out.size)
    have HZ5 := Lib.hid HB3.out.size
    have HB4 := Lib.hid (bstep HB3.out hN.below)
    clear hN q0 q1 q2 q3 q4 q5 y0 y1 y2 y3 v0 v1 v2 v3
    obtain ⟨nd, hnd⟩ : ∃ nd, D.length = nd := ⟨_, rfl⟩
    have HND := Lib.hid hnd
    have HD := Lib.hid hD
    rw [hnd] at hc hDl ⊢
    clear hnd hD
    obtain ⟨q0, q1, q2, q3, q4, q5⟩ := op6 HBX4.out
    obtain ⟨y0, y1, y2, y3, v0, v1, v2, v3⟩ := ans_cells HA4.out
    have hmx : x < T.length := (List.getElem?_eq_some_iff.1 hTx).1
    have HTX := Lib.hid hTx
    obtain ⟨ad, d, hdd, c1, t0, t1⟩ := HK4.out.thing hTx
    obtain ⟨m, hm⟩ : ∃ m, T.length = m := ⟨_, rfl⟩
    have HM := Lib.hid hm
    rw [hm] at c1 hdd hmx
    have z3 : (0 : Int) ≤ (x : Int) := by omega
    have z4 : (x : Int) < (m : Int) := by omega
    have z5 : (x : Int) < (d : Int) := by omega
    clear hm hTx
    cases hdx : isDir g x with
    | false =>
      rw [hdx] at t0
      have HZ : Hid ((listS g ⟨10, s1, s2, f3, f4, s5⟩).2 = told 11) := Lib.hid (by unfold listS kind; simp only [HL.out, hdx]; rfl)
      clear hdx
      go_wp2_with fail
      refine bodyPost_ret (results_cell_row rfl _ _ (W.heap.size + 1) 32 #[_, _, _, _] (0, 0) _ rfl (put4_at HA4.out) Tryz.underlying32 rfl (by kernel_rfl)) rfl ?_
      rw [HZ.out]
      exact KDo.put4 HB1.out HG.out (KDo.still HK1.out HB4.out rfl) (by omega) (by omega)
    | true =>
      rw [hdx] at t0
      have HZ : Hid ((listS g ⟨10, s1, s2, f3, f4, s5⟩).2 = ⟨0, 0, [], D⟩) := Lib.hid (by unfold listS kind; simp only [HL.out, hdx, HD.out]; rfl)
      clear hdx
      go_wp2_with fail
      refine bodyPost_ret (results_cell_row rfl _ _ (W.heap.size + 1) 32 #[_, _, _, _] (0, 0) _ rfl (put4_at HA4.out) Tryz.underlying32 rfl (by kernel_rfl)) rfl ?_
      rw [HZ.out]
      have hnd := HND.out
      subst hnd
      refine KDo.put4 HB1.out HG.out ⟨G, A, c, rfl, HK4.out, Ext.of_below HB4.out, HS.out, fun hne bk o hA => ?_⟩ (by omega) (by omega)
      have h1 := HV.out bk o hA
      have h2 := HZ5.out
      have h3 := HZ4.out
      exact ⟨fun hg => by have := HG.out _ hg; omega, by omega, by omega⟩
end Go.Proofs.YtaccokghjpcijaaGreatDoor
set_option linter.unusedVariables false
set_option linter.unusedSimpArgs false
namespace Go.Proofs.YtaccokghjpcijaaGreatDoor
open Go Go.RowKit Pp Go.Proofs.YtaccokghjpcijaaGreatDoorW.PrintWords

set_option maxRecDepth 100000 in
set_option maxHeartbeats 8000000 in
theorem kstat_calls {W : World} {G : Nat → Prop} {n0 kb : Nat} {E : List (Str × Nat)} {T : List (Bool × Str)} {g : St} (h : KM W G n0 kb E T) (hn0 : n0 ≤ W.heap.size) (hr : KRel g E T) (hI : Inv g) (hE : E.length ≤ 1000000) (hT : T.length ≤ 1000000) (hm : ∀ e ∈ E, e.1.length ≤ 1000000) (hlk : ∀ i, 0 ≤ (g.node i).links ∧ (g.node i).links ≤ 1000000) (o : Ask) (ho : o.do_ = 9) (hp : o.path.length ≤ 4096) :
    Calls Tryz.prog 50 #[.pointer (some ⟨kb, 0, none⟩), opV o] W (KDo W G n0 kb E T (statS g o).2) := by
  obtain ⟨f0, s1, s2, f3, f4, s5⟩ := o
  simp only at hp ho
  subst ho
  unfold opV
  obtain ⟨W1, hW1⟩ : ∃ W1, (W.alloc (.cells #[.int .i64 9, .string (mk s1), .string (mk s2), .int .i64 f3, .int .i64 f4, .string (mk s5)] 35)).alloc (.cells #[.int .i64 0, .int .i64 0, .string ⟨#[]⟩, .slice none 0 0] 32) = W1 := ⟨_, rfl⟩
  obtain ⟨hb1, hbox, hans⟩ := opans W ⟨9, s1, s2, f3, f4, s5⟩ hW1
  have hsz : W.heap.size + 2 ≤ W1.heap.size := by rw [← hW1]; simp
  have HB1 := Lib.hid hb1
  have HG := Lib.hid (fun b hb => (h.lt b hb).1)
  have HBX := Lib.hid hbox
  have HA := Lib.hid hans
  have HK1 := Lib.hid (h.below hb1)
  have HR := Lib.hid hr
  have HI := Lib.hid hI
  have HW := Lib.hid hW1
  obtain ⟨q0, q1, q2, q3, q4, q5⟩ := op6 hbox
  clear hb1 hbox hans h hr hI hW1
  go_enter Tryz.func50, Tryz.ntmps50
  go_upto_region 1 with fail
  rw [HW.out]
  obtain ⟨r, hrr⟩ : ∃ r, leads g s1 = r := ⟨_, rfl⟩
  have HL := Lib.hid hrr
  clear hrr
  go_wp2_with fail
  refine (kleads_at HK1.out HR.out HI.out hE s1 hp HL.out).mono ?_
  rintro e w3 ⟨rfl, hB3⟩
  have HK3 := Lib.hid (HK1.out.below hB3)
  have HBX3 := Lib.hid (block_keep HBX.out hB3)
  have HA3 := Lib.hid (block_keep HA.out hB3)
  have HB3 := Lib.hid hB3
  clear q0 q1 q2 q3 q4 q5
  obtain ⟨q0, q1, q2, q3, q4, q5⟩ := op6 HBX3.out
  obtain ⟨y0, y1, y2, y3, v0, v1, v2, v3⟩ := ans_cells HA3.out
  clear hB3
  have HMM := Lib.hid hm
  clear hm
  cases r with
  | error ec =>
    have hcb : (ec != 0) = true := bne_iff_ne.2 (by have := leads_err HL.out; omega)
    have HZ : Hid ((statS g ⟨9, s1, s2, f3, f4, s5⟩).2 = told ec) := Lib.hid (by unfold statS; simp only [HL.out])
    unfold resN resE
    go_wp2_with fail
    refine bodyPost_ret (results_cell_row rfl _ _ (W.heap.size + 1) 32 #[_, _, _, _] (0, 0) _ rfl (put4_at HA3.out) Tryz.underlying32 rfl (by kernel_rfl)) rfl ?_
    rw [HZ.out]
    exact KDo.put4 HB1.out HG.out (KDo.still HK1.out HB3.out rfl) (by omega) (by omega)
  | ok x =>
    have hxl := leads_ne HI.out HL.out
    have hTx := HR.out.at_ x hxl
    unfold resN resE
    go_wp2_with fail
    refine (knames_calls HK3.out hE HMM.out s1).mono ?_
    rintro e w4 ⟨D, s, rfl, hN⟩
    obtain ⟨A, c, hs, hc⟩ := own_form hN.own
    subst hs
    have hD := names_eq HR.out HI.out HL.out hN.sorted hN.perm
    have hDl : D.length ≤ 1000000 := by
      rw [hN.perm.length_eq]
      unfold namesP
      rw [List.length_map]
      exact Nat.le_trans (List.length_filter_le _ _) hE
    have HS := Lib.hid (Strs.of_row hN.own (by omega))
    have HV := Lib.hid (fun (bk o : Nat) (hA : A = some ⟨bk, o, none⟩) => hN.own.lt bk (by rw [hA]; rfl))
    have HK4 := Lib.hid (HK3.out.below hN.below)
    have HBX4 := Lib.hid (block_keep HBX3.out hN.below)
    have HA4 := Lib.hid (block_keep HA3.out hN.below)
    have HZ4 := Lib.hid (show W.heap.size ≤ w3.heap.size from Nat.le_trans HB1.out.size HB3.out.size)
    have HZ5 := Lib.hid HB3.out.size
    have HB4 := Lib.hid (bstep HB3.out hN.below)
    clear hN q0 q1 q2 q3 q4 q5 y0 y1 y2 y3 v0 v1 v2 v3
    obtain ⟨nd, hnd⟩ : ∃ nd, D.length = nd := ⟨_, rfl⟩
    have HND := Lib.hid hnd
    have HD := Lib.hid hD
    rw [hnd] at hc hDl ⊢
    clear hnd hD
    obtain ⟨q0, q1, q2, q3, q4, q5⟩ := op6 HBX4.out
    obtain ⟨y0, y1, y2, y3, v0, v1, v2, v3⟩ := ans_cells HA4.out
    have hmx : x < T.length := (List.getElem?_eq_some_iff.1 hTx).1
    have HTX := Lib.hid hTx
    obtain ⟨ad, d, hdd, c1, t0, t1⟩ := HK4.out.thing hTx
    obtain ⟨m, hm⟩ : ∃ m, T.length = m := ⟨_, rfl⟩
    have HM := Lib.hid hm
    rw [hm] at c1 hdd hmx
    have z3 : (0 : Int) ≤ (x : Int) := by omega
    have z4 : (x : Int) < (m : Int) := by omega
    have z5 : (x : Int) < (d : Int) := by omega
    clear hm hTx
    cases hdx : isDir g x with
    | true =>
      rw [hdx] at t0
      have HZ : Hid ((statS g ⟨9, s1, s2, f3, f4, s5⟩).2 = ⟨0, nd, dirT, []⟩) := Lib.hid (by unfold statS; simp only [HL.out, hdx, if_true]; rw [← HND.out, HD.out, sortS_length, List.length_map])
      clear hdx
      go_wp2_with fail
      refine bodyPost_ret (results_cell_row rfl _ _ (W.heap.size + 1) 32 #[_, _, _, _] (0, 0) _ rfl (put4_at HA4.out) Tryz.underlying32 rfl (by kernel_rfl)) rfl ?_
      rw [HZ.out]
      exact KDo.put4 HB1.out HG.out (KDo.still (a := ⟨0, nd, dirT, []⟩) HK1.out HB4.out rfl) (by omega) (by omega)
    | false =>
      rw [hdx] at t0
      have hl1 := (HR.out.links x).symm
      obtain ⟨nl, hnl⟩ : ∃ nl, cntR E x = nl := ⟨_, rfl⟩
      rw [hnl] at hl1
      have hl2 := hlk x
      rw [hl1] at hl2
      obtain ⟨s, hs⟩ : ∃ s, (g.node x).bytes = s := ⟨_, rfl⟩
      rw [hs] at t1
      have zs : (mk s).size = s.length := mk_size _
      have HZ : Hid ((statS g ⟨9, s1, s2, f3, f4, s5⟩).2 = ⟨0, s.length, fileT, [Lib.decDigits nl]⟩) := Lib.hid (by unfold statS; simp only [HL.out, hdx, Bool.false_eq_true, if_false, hs, hl1, Int.toNat_natCast])
      have HLK : Hid (∀ w : World, KM w G n0 kb E T → Calls Tryz.prog 52 #[.pointer (some ⟨kb, 0, none⟩), .int .i64 x] w fun e W' => e = .returned (.int .i64 nl) ∧ W' = w) := Lib.hid (fun w h => by rw [← hnl]; exact klinks_calls h hE x)
      have HDG := Lib.hid (fun (w : World) => kdigits nl (by omega) w)
      obtain ⟨vE, vT, hks⟩ := id HK4.out
      obtain ⟨vT, hvT, rfl⟩ : ∃ v, v = Value.slice (some ad) m d ∧ vT = v := ⟨vT, Option.some.inj ((heap_cell hks.root 1 _ rfl).symm.trans c1), rfl⟩
      subst hvT
      have HKS := Lib.hid hks
      have HTX2 : Hid (T[x]? = some (false, s)) := Lib.hid (by rw [HTX.out, hdx, hs])
      clear hks hdx hnl hl1 hl2 hs hlk
      go_wp2_with fail
      go_region_with (first | (go_at_call 52; refine (HLK.out _ (by exact HK4.out.same (fun _ _ => rfl))).mono ?_; rintro e w5 ⟨rfl, rfl⟩) | (go_at_call 75; refine (HDG.out _).mono ?_; rintro e w6 ⟨rfl, hB⟩; have hB6 : Below w4.heap.size w4 w6 := ⟨hB.os, hB.tape, hB.output, hB.size, hB.block⟩; obtain ⟨c16, t06, t16, _, _⟩ := (HKS.out.below hB6).slotAt HTX2.out; obtain ⟨y06, y16, y26, y36, v06, v16, v26, v36⟩ := ans_cells (block_keep HA4.out hB6); have zb6 : W.heap.size + 1 < w6.heap.size := some_lt (block_keep HA4.out hB6); have k1 : ∀ o, (w6.alloc o).cell? ⟨kb, 1, none⟩ = some (.slice (some ad) m d) := fun o => (World.cell?_alloc_some _ _ _ (by rw [c16]; rfl)).trans c16; have k2 : ∀ o, (w6.alloc o).cell? ⟨(ad.add (x * 2)).block, (ad.add (x * 2)).off + 1, none⟩ = some (.string (mk s)) := fun o => (World.cell?_alloc_some _ _ _ (by rw [t16]; rfl)).trans t16))
      all_goals
        have HB6 := Lib.hid hB6
        have HA7 := Lib.hid (block_keep HA4.out (bstep hB6 (balloc (o := .cells #[.string (mk (Lib.decDigits nl))] 9) (Below.refl _ _))))
        clear c16 t06 t16 k1 k2 hB hB6
        go_wp2_with fail
        change bodyPost _ _ _ _ _ (World.alloc (put4 w6 (W.heap.size + 1) (.int .i64 0) (.int .i64 (s.length : Int)) (.string ⟨#[102, 105, 108, 101]⟩) (.slice (some ⟨w6.heap.size, 0, none⟩) 1 1)) (.cells #[.string (mk (Lib.decDigits nl))] 9))
        rw [put4_alloc0 zb6]
        refine bodyPost_ret (results_cell_row rfl _ _ (W.heap.size + 1) 32 #[_, _, _, _] (0, 0) _ rfl (put4_at HA7.out) Tryz.underlying32 rfl (by kernel_rfl)) rfl ?_
        rw [HZ.out]
        refine KDo.put4 HB1.out HG.out ⟨G, some ⟨w6.heap.size, 0, none⟩, 1, rfl, HK4.out.below (balloc HB6.out), Ext.of_below (balloc (bstep HB4.out HB6.out)), Strs.one (k := 0) (heap_alloc_new w6 _), fun hne bk o hA => ?_⟩ (by omega) (by omega)
        injection hA with hA
        injection hA with hA _
        subst hA
        have h1 := HB4.out.size
        have h2 := HB6.out.size
        exact ⟨fun hg => by have := HG.out _ hg; omega, by omega, by rw [World.size_alloc]; omega⟩
end Go.Proofs.YtaccokghjpcijaaGreatDoor
set_option linter.unusedVariables false
set_option linter.unusedSimpArgs false
namespace Go.Proofs.YtaccokghjpcijaaGreatDoor
open Go Go.RowKit Pp

/-! ### ref17's lists behind each op -/
theorem jE_add {En : Ents} {ns : List Str} {x : Nat} {s : Str} (hs : split s = some ns) : jE (addE En ns x) = jE En ++ [(s, x)] := by
  unfold jE addE
  rw [List.map_append, ← join_split hs]
  rfl
theorem KRel.made {g : St} {E : List (Str × Nat)} {T : List (Bool × Str)} (r : KRel g E T) (h : Inv g) (hE : E.length ≤ 1000000) {s nm : Str} {n : Node} {d : Nat} (hn : n.ents = none ∨ n.ents = some []) (hl0 : n.links = 0) (hb0 : n.bytes = []) (hf : free g s = .ok (d, nm)) :
    KRel (addLink (addEnt (fresh g n) d nm g.next) g.next 1) (E ++ [(s, T.length)]) (T ++ [(n.ents.isSome, [])]) := by
  obtain ⟨⟨En, hR, rfl⟩, hl, ha⟩ := r
  have hlen : En.length ≤ 4611686018427387904 := by
    unfold jE at hE
    rw [List.length_map] at hE
    omega
  obtain ⟨ns, hs, hR'⟩ := hR.made h hlen hn hl0 hf
  obtain ⟨_, _, _, hd, _, _⟩ := free_spec hf
  have hdl := dir_lt h hd
  have hd' : isDir (fresh g n) d = true := by rw [isDir_fresh (by omega)]; exact hd
  refine ⟨⟨_, hR', by rw [jE_add hs, hl]⟩, by rw [List.length_append, hl]; rfl, fun i hi => ?_⟩
  have hi' : i < g.next + 1 := hi
  have hdir : isDir (addLink (addEnt (fresh g n) d nm g.next) g.next 1) i = isDir (fresh g n) i := isDir_lay hd' i
  have hby : ((addLink (addEnt (fresh g n) d nm g.next) g.next 1).node i).bytes = ((fresh g n).node i).bytes := by rw [bytes_addLink, bytes_addEnt]
  rw [hdir, hby]
  by_cases hx : i = g.next
  · subst hx
    rw [List.getElem?_append_right (by omega), hl, Nat.sub_self, isDir_fresh_new]
    have : ((fresh g n).node g.next).bytes = [] := by unfold fresh; simp only [upd_at]; exact hb0
    rw [this]
    rfl
  · rw [List.getElem?_append_left (by omega), isDir_fresh hx]
    have : ((fresh g n).node i).bytes = (g.node i).bytes := by unfold fresh; simp only [upd_ne _ _ hx]
    rw [this]
    exact ha i (by omega)
theorem KRel.layed {g : St} {E : List (Str × Nat)} {T : List (Bool × Str)} (r : KRel g E T) (h : Inv g) (hE : E.length ≤ 1000000) {s nm : Str} {d x : Nat} (hx : isDir g x = false) (hf : free g s = .ok (d, nm)) :
    KRel (addLink (addEnt g d nm x) x 1) (E ++ [(s, x)]) T := by
  obtain ⟨⟨En, hR, rfl⟩, hl, ha⟩ := r
  have hlen : En.length ≤ 4611686018427387904 := by
    unfold jE at hE
    rw [List.length_map] at hE
    omega
  obtain ⟨ns, hs, hR'⟩ := hR.layed h hlen hx hf
  obtain ⟨_, _, _, hd, _, _⟩ := free_spec hf
  refine ⟨⟨_, hR', by rw [jE_add hs]⟩, hl, fun i hi => ?_⟩
  rw [isDir_lay hd, bytes_addLink, bytes_addEnt]
  exact ha i hi
theorem jE_del {g : St} {En : Ents} (hR : Rel g En) (h : Inv g) {ns : List Str} {s : Str} (hs : split s = some ns) (hn : okNs ns) : jE (delE En ns) = dropR (jE En) s := by
  unfold jE delE dropR
  rw [List.filter_map, ← join_split hs]
  congr 1
  refine List.filter_congr fun e he => ?_
  have hiff : e.1 = ns ↔ join e.1 = join ns := ⟨fun e1 => by rw [e1], fun e1 => join_inj (hR.ok h he) hn e1⟩
  simp only [Function.comp_apply, decide_eq_decide.2 hiff]
theorem KRel.cut {g : St} {E : List (Str × Nat)} {T : List (Bool × Str)} (r : KRel g E T) (h : Inv g) (hE : E.length ≤ 1000000) {s : Str} {x : Nat} (hl : leads g s = .ok x) (hs : s ≠ [47]) (hxe : entsOf g x = []) : KRel (Go.Proofs.YtaccokghjpcijaaGreatDoor.cut g s) (dropR E s) T := by
  obtain ⟨⟨En, hR, rfl⟩, hlT, ha⟩ := r
  have hlen : En.length ≤ 4611686018427387904 := by
    unfold jE at hE
    rw [List.length_map] at hE
    omega
  obtain ⟨ns, hsp, hR'⟩ := hR.cut h hlen hl hs hxe
  obtain ⟨ns', hsp', hg⟩ := leads_go.1 hl
  rw [hsp] at hsp'
  injection hsp' with hsp'
  subst hsp'
  obtain ⟨p, n, ini, d, hp, _, hlp, _, hd, hlk, _⟩ := leads_last h hl hs
  refine ⟨⟨_, hR', (jE_del hR h hsp (go_names h hg)).symm⟩, ?_, fun i hi => ?_⟩
  · rw [cut_eq hp hlp hlk]; exact hlT
  · rw [cut_eq hp hlp hlk] at hi ⊢
    rw [isDir_delEnt (by rw [isDir_addLink]; exact hd), isDir_addLink, bytes_delEnt, bytes_addLink]
    exact ha i hi
theorem join_fl {ns : List Str} (h : ns ≠ []) : join ns = Lib.joinTail [47] ns := by
  cases ns with
  | nil => exact absurd rfl h
  | cons a r =>
    unfold join
    rw [Lib.join_cons]
    unfold Lib.joinTail
    rfl
theorem fl_append (a b : List Str) : Lib.joinTail [47] (a ++ b) = Lib.joinTail [47] a ++ Lib.joinTail [47] b := by
  unfold Lib.joinTail
  rw [List.map_append, List.flatten_append]
theorem renE_mov {K L ns : List Str} {a b : Str} {x : Nat} (ha : split a = some K) (hb : split b = some L) (hK : K ≠ []) (hL : L ≠ []) (hn : okNs ns) : renE a b (join ns, x) = (join (movK K L ns), x) := by
  have hw : within a (join ns) = K.isPrefixOf ns := by unfold within; rw [ha, split_join hn]
  unfold renE movK
  simp only
  rw [hw]
  by_cases hp : K <+: ns
  · rw [if_pos (List.isPrefixOf_iff_prefix.2 hp), if_pos hp]
    obtain ⟨M, rfl⟩ := hp
    rw [List.drop_left, ← join_split ha, ← join_split hb, join_fl (ns := K ++ M) (by simp [hK]), join_fl (ns := L ++ M) (by simp [hL]), join_fl hK, join_fl hL, fl_append, fl_append, List.drop_left]
  · rw [if_neg (fun e => hp (List.isPrefixOf_iff_prefix.1 e)), if_neg hp]
theorem KRel.mov {g g' : St} {E : List (Str × Nat)} {T : List (Bool × Str)} (r : KRel g E T) (h : Inv g) (hE : E.length ≤ 1000000) {a b : Str} {k l : List Str} {x d1 d2 : Nat} {n1 n2 : Str} (ha : split a = some (k ++ [n1])) (hb : split b = some (l ++ [n2])) (m : Moved g g' k l x d1 d2 n1 n2) : KRel g' (E.map (renE a b)) T := by
  obtain ⟨⟨En, hR, rfl⟩, hlT, hat⟩ := r
  have hlen : En.length ≤ 4611686018427387904 := by
    unfold jE at hE
    rw [List.length_map] at hE
    omega
  refine ⟨⟨_, hR.mov h hlen m, ?_⟩, by rw [m.next]; exact hlT, fun i hi => ?_⟩
  · unfold jE movE
    rw [List.map_map, List.map_map]
    refine List.map_congr_left fun e he => ?_
    exact renE_mov ha hb (by simp) (by simp) (hR.ok h he)
  · rw [m.dirs, m.bytes]
    exact hat i (by rw [← m.next]; exact hi)
/-- An op of make's kind. -/
theorem step_make {g : St} {E : List (Str × Nat)} {T : List (Bool × Str)} (r : KRel g E T) (h : Inv g) (hE : E.length ≤ 1000000) (o : Ask) (ho : o.do_ = 0 ∨ o.do_ = 1 ∨ o.do_ = 2) : (step g o).2 = told (makeR g E T o).1 ∧ KRel (step g o).1 (makeR g E T o).2.1 (makeR g E T o).2.2 := by
  have hmade : ∀ n : Node, (n.ents = none ∨ n.ents = some []) → n.links = 0 → n.bytes = [] → n.ents.isSome = decide (o.do_ = 1) → o.do_ ≠ 2 → (made g o.path n).2 = told (makeR g E T o).1 ∧ KRel (made g o.path n).1 (makeR g E T o).2.1 (makeR g E T o).2.2 := fun n hn hl0 hb0 hd h2 => by
    unfold makeR
    rw [if_neg h2]
    rcases made_cases h o.path hn with ⟨c, hc, hf, e⟩ | ⟨d, nm, hf, e⟩
    · rw [e, hf]
      refine ⟨rfl, ?_⟩
      show KRel g (if c = 0 then _ else E) (if c = 0 then _ else T)
      rw [if_neg hc, if_neg hc]
      exact r
    · rw [e, hf]
      refine ⟨rfl, ?_⟩
      have := r.made h hE hn hl0 hb0 hf
      rw [hd] at this
      exact this
  rcases ho with h0 | h0 | h0
  · unfold step
    rw [if_pos h0]
    exact hmade _ (.inl rfl) rfl rfl (by rw [h0]; rfl) (by omega)
  · unfold step
    rw [if_neg (by omega), if_pos h0]
    exact hmade _ (.inr rfl) rfl rfl (by rw [h0]; rfl) (by omega)
  · unfold step makeR linkS kind
    rw [if_neg (by omega), if_neg (by omega), if_pos h0, if_pos h0]
    cases hl : leads g o.path with
    | error c => exact ⟨rfl, r⟩
    | ok x =>
      cases hd : isDir g x with
      | true => simp only [hd]; exact ⟨rfl, r⟩
      | false =>
        simp only [hd]
        unfold lay
        cases hf : free g o.dst with
        | error c =>
          simp only [hf]
          have hc : c ≠ 0 := free_err hf
          refine ⟨rfl, ?_⟩
          show KRel g (if c = 0 then _ else E) T
          rw [if_neg hc]
          exact r
        | ok q =>
          simp only [hf]
          exact ⟨rfl, r.layed h hE hd (d := q.1) (nm := q.2) hf⟩
/-- An op of take's kind. -/
theorem step_take {g : St} {E : List (Str × Nat)} {T : List (Bool × Str)} (r : KRel g E T) (h : Inv g) (hE : E.length ≤ 1000000) (o : Ask) (ho : o.do_ = 3 ∨ o.do_ = 4 ∨ o.do_ = 5) : (step g o).2 = told (takeR g E o).1 ∧ KRel (step g o).1 (takeR g E o).2 T := by
  have hnm : ∀ x, leads g o.path = .ok x → (namesP E o.path).length = (entsOf g x).length := fun x hl => by rw [(namesP_perm r h hl).length_eq, List.length_map]
  rcases ho with h0 | h0 | h0
  · unfold step takeR unlinkS kind
    rw [if_neg (by omega), if_neg (by omega), if_neg (by omega), if_pos h0, if_neg (by omega)]
    cases hl : leads g o.path with
    | error c => exact ⟨rfl, r⟩
    | ok x =>
      cases hd : isDir g x with
      | true => simp [hd, h0]; exact r
      | false =>
        have hs : o.path ≠ [47] := kind_root h (x := x) (by unfold kind; rw [hl]; simp [hd])
        simp [hd, h0]
        exact r.cut h hE hl hs (entsOf_file hd)
  · unfold step takeR rmdirS kind
    rw [if_neg (by omega), if_neg (by omega), if_neg (by omega), if_neg (by omega), if_pos h0]
    by_cases hr : o.path = [47]
    · rw [if_pos hr, if_pos ⟨by omega, hr⟩]
      exact ⟨rfl, r⟩
    · rw [if_neg hr, if_neg (fun e => hr e.2)]
      cases hl : leads g o.path with
      | error c => exact ⟨rfl, r⟩
      | ok x =>
        cases hd : isDir g x with
        | false => simp [hd, h0]; exact r
        | true =>
          simp only [hd, h0, hnm x hl]
          by_cases he : 0 < (entsOf g x).length
          · simp [he]; exact r
          · simp [he]
            exact r.cut h hE hl hr (List.eq_nil_of_length_eq_zero (by omega))
  · have hst : step g o = renameS g o := by unfold step; rw [if_neg (by omega), if_neg (by omega), if_neg (by omega), if_neg (by omega), if_neg (by omega), if_pos h0]
    rw [hst]
    have htk : takeR g E o = if o.path = [47] then (1, E) else match leads g o.path with
      | .error c => (c, E)
      | .ok x => if within o.path o.dst = true then (1, E) else (resFE (free g o.dst), if resFE (free g o.dst) = 0 then E.map (renE o.path o.dst) else E) := by
      unfold takeR
      by_cases hr : o.path = [47]
      · rw [if_pos ⟨by omega, hr⟩, if_pos hr]
      · rw [if_neg (fun e => hr e.2), if_neg hr]
        simp only [if_pos h0]
        cases leads g o.path <;> rfl
    rw [htk]
    by_cases hr : o.path = [47]
    · unfold renameS
      rw [if_pos hr, if_pos hr]
      exact ⟨rfl, r⟩
    rw [if_neg hr]
    cases hl : leads g o.path with
    | error c =>
      unfold renameS
      rw [if_neg hr, hl]
      exact ⟨rfl, r⟩
    | ok x =>
      simp only
      by_cases hw : within o.path o.dst = true
      · unfold renameS
        rw [if_neg hr, hl]
        simp only
        rw [if_pos hw, if_pos hw]
        exact ⟨rfl, r⟩
      rw [if_neg hw]
      cases hf : free g o.dst with
      | error c =>
        have hc : c ≠ 0 := free_err hf
        have e : renameS g o = (g, told c) := by
          unfold renameS lay
          rw [if_neg hr, hl]
          simp only [hw, hf, hc, if_false]
          simp
        rw [e]
        refine ⟨rfl, ?_⟩
        show KRel g (if c = 0 then _ else E) T
        rw [if_neg hc]
        exact r
      | ok q =>
        rcases rename_cases h o with ⟨c, hc, e⟩ | ⟨g', k, l, x', d1, d2, n1, n2, e, hs1, hs2, _, _, m⟩
        · exfalso
          unfold renameS lay at e
          rw [if_neg hr, hl] at e
          simp only [hw, hf, if_true] at e
          have e2 := congrArg (fun z => z.2.code) e
          simp [told] at e2
          exact hc e2.symm
        · rw [e]
          exact ⟨rfl, r.mov h hE hs1 hs2 m⟩
end Go.Proofs.YtaccokghjpcijaaGreatDoor
set_option linter.unusedVariables false
set_option linter.unusedSimpArgs false
namespace Go.Proofs.YtaccokghjpcijaaGreatDoor
open Go Go.RowKit Pp Go.Proofs.YtaccokghjpcijaaGreatDoorW.PrintWords

/-- A step of ref17's tree. -/
def KStep (W : World) (G : Nat → Prop) (n0 kb : Nat) (g : St) (E : List (Str × Nat)) (T : List (Bool × Str)) (M : Nat) (o : Ask) (e : Ending) (W' : World) : Prop :=
  ∃ E' T', KDo W G n0 kb E' T' (step g o).2 e W' ∧ KRel (step g o).1 E' T' ∧ E'.length ≤ E.length + 1 ∧ T'.length ≤ T.length + 1 ∧ ∀ x ∈ E', x.1.length ≤ M + 4096
theorem makeR_grow {g : St} {E : List (Str × Nat)} {T : List (Bool × Str)} {M : Nat} (hm : ∀ x ∈ E, x.1.length ≤ M) (o : Ask) (hp : o.path.length ≤ 4096) (hd : o.dst.length ≤ 4096) : (makeR g E T o).2.1.length ≤ E.length + 1 ∧ (makeR g E T o).2.2.length ≤ T.length + 1 ∧ ∀ x ∈ (makeR g E T o).2.1, x.1.length ≤ M + 4096 := by
  have h0 : ∀ x ∈ E, x.1.length ≤ M + 4096 := fun x hx => Nat.le_trans (hm x hx) (by omega)
  have h1 : ∀ (s : Str) (i : Nat), s.length ≤ 4096 → ∀ x ∈ E ++ [(s, i)], x.1.length ≤ M + 4096 := fun s i hs x hx => by
    rcases List.mem_append.1 hx with h | h
    · exact h0 x h
    · rw [List.mem_singleton.1 h]
      show s.length ≤ M + 4096
      omega
  unfold makeR
  split
  · split
    · exact ⟨Nat.le_succ _, Nat.le_succ _, h0⟩
    · split
      · exact ⟨Nat.le_succ _, Nat.le_succ _, h0⟩
      · simp only
        split
        · exact ⟨by simp, Nat.le_succ _, h1 _ _ hd⟩
        · exact ⟨Nat.le_succ _, Nat.le_succ _, h0⟩
  · simp only
    split
    · exact ⟨by simp, by simp, h1 _ _ hp⟩
    · exact ⟨Nat.le_succ _, Nat.le_succ _, h0⟩
theorem takeR_grow {g : St} {E : List (Str × Nat)} {M : Nat} (hm : ∀ x ∈ E, x.1.length ≤ M) (o : Ask) (hd : o.dst.length ≤ 4096) : (takeR g E o).2.length ≤ E.length + 1 ∧ ∀ x ∈ (takeR g E o).2, x.1.length ≤ M + 4096 := by
  have h0 : E.length ≤ E.length + 1 ∧ ∀ x ∈ E, x.1.length ≤ M + 4096 := ⟨Nat.le_succ _, fun x hx => Nat.le_trans (hm x hx) (by omega)⟩
  unfold takeR
  split
  · exact h0
  split
  · exact h0
  split
  · split
    · exact h0
    · simp only
      split
      · refine ⟨by rw [List.length_map]; omega, fun x hx => ?_⟩
        obtain ⟨y, hy, rfl⟩ := List.mem_map.1 hx
        have hyl := hm y hy
        unfold renE
        split
        · simp only [List.length_append, List.length_drop]
          omega
        · omega
      · exact h0
  split
  · exact h0
  split
  · exact h0
  split
  · exact h0
  · refine ⟨?_, fun x hx => ?_⟩
    · unfold dropR
      exact Nat.le_trans (List.length_filter_le (fun e : Str × Nat => !decide (e.1 = o.path)) E) (Nat.le_succ _)
    · unfold dropR at hx
      exact h0.2 x (List.mem_filter.1 hx).1
section
variable {W : World} {G : Nat → Prop} {n0 kb : Nat} {E : List (Str × Nat)} {T : List (Bool × Str)} {g : St}
theorem ktake_calls (h : KM W G n0 kb E T) (hn0 : n0 ≤ W.heap.size) (hr : KRel g E T) (hI : Inv g) (hE : E.length ≤ 1000000) (hT : T.length ≤ 1000000) (hm : ∀ e ∈ E, e.1.length ≤ 1000000) (o : Ask) (ho : o.do_ = 3 ∨ o.do_ = 4 ∨ o.do_ = 5) (hp : o.path.length ≤ 4096) (hd : o.dst.length ≤ 4096) :
    Calls Tryz.prog 48 #[.pointer (some ⟨kb, 0, none⟩), opV o] W fun e W' => e = .returned (.int .i64 (takeR g E o).1) ∧ KPost W G n0 kb (takeR g E o).2 T W' := by
  rcases ho with h0 | h0 | h0
  · exact ktake3_calls h hn0 hr hI hE hT hm o h0 hp hd
  · exact ktake4_calls h hn0 hr hI hE hT hm o h0 hp hd
  · exact ktake5_calls h hn0 hr hI hE hT hm o h0 hp hd
theorem kbytes_calls (h : KM W G n0 kb E T) (hn0 : n0 ≤ W.heap.size) (hr : KRel g E T) (hI : Inv g) (hE : E.length ≤ 1000000) (hT : T.length ≤ 1000000) (hby : ∀ i, (g.node i).bytes.length ≤ 16384) (o : Ask) (ho : o.do_ = 6 ∨ o.do_ = 7 ∨ o.do_ = 8) (hp : o.path.length ≤ 4096) (hda : o.data.length ≤ 1048576) :
    Calls Tryz.prog 49 #[.pointer (some ⟨kb, 0, none⟩), opV o] W fun e W' => ∃ T', KDo W G n0 kb E T' (step g o).2 e W' ∧ KRel (step g o).1 E T' ∧ T'.length = T.length := by
  rcases ho with h0 | h0 | h0
  · have hst : step g o = readS g o := by unfold step; rw [if_neg (by omega), if_neg (by omega), if_neg (by omega), if_neg (by omega), if_neg (by omega), if_neg (by omega), if_pos h0]
    rw [hst]
    refine (kread_calls h hn0 hr hI hE hT hby o h0 hp).mono ?_
    intro e W' hk
    exact ⟨T, hk, by rw [read_same]; exact hr, rfl⟩
  · have hst : step g o = writeS g o := by unfold step; rw [if_neg (by omega), if_neg (by omega), if_neg (by omega), if_neg (by omega), if_neg (by omega), if_neg (by omega), if_neg (by omega), if_pos h0]
    rw [hst]
    exact kwrite_calls h hn0 hr hI hE hT hby o h0 hp hda
  · have hst : step g o = truncS g o := by unfold step; rw [if_neg (by omega), if_neg (by omega), if_neg (by omega), if_neg (by omega), if_neg (by omega), if_neg (by omega), if_neg (by omega), if_neg (by omega), if_pos h0]
    rw [hst]
    exact ktrunc_calls h hn0 hr hI hE hT hby o h0 hp
theorem ktell_calls (h : KM W G n0 kb E T) (hn0 : n0 ≤ W.heap.size) (hr : KRel g E T) (hI : Inv g) (hE : E.length ≤ 1000000) (hT : T.length ≤ 1000000) (hm : ∀ e ∈ E, e.1.length ≤ 1000000) (hlk : ∀ i, 0 ≤ (g.node i).links ∧ (g.node i).links ≤ 1000000) (o : Ask) (ho : o.do_ = 9 ∨ o.do_ = 10) (hp : o.path.length ≤ 4096) :
    Calls Tryz.prog 50 #[.pointer (some ⟨kb, 0, none⟩), opV o] W fun e W' => KDo W G n0 kb E T (step g o).2 e W' ∧ (step g o).1 = g := by
  rcases ho with h0 | h0
  · have hst : step g o = statS g o := by unfold step; rw [if_neg (by omega), if_neg (by omega), if_neg (by omega), if_neg (by omega), if_neg (by omega), if_neg (by omega), if_neg (by omega), if_neg (by omega), if_neg (by omega), if_pos h0]
    rw [hst]
    refine (kstat_calls h hn0 hr hI hE hT hm hlk o h0 hp).mono ?_
    intro e W' hk
    exact ⟨hk, stat_same g o⟩
  · have hst : step g o = listS g o := by unfold step; rw [if_neg (by omega), if_neg (by omega), if_neg (by omega), if_neg (by omega), if_neg (by omega), if_neg (by omega), if_neg (by omega), if_neg (by omega), if_neg (by omega), if_neg (by omega), if_pos h0]
    rw [hst]
    refine (klist_calls h hn0 hr hI hE hT hm o h0 hp).mono ?_
    intro e W' hk
    exact ⟨hk, list_same g o⟩
end
end Go.Proofs.YtaccokghjpcijaaGreatDoor
set_option linter.unusedVariables false
set_option linter.unusedSimpArgs false
namespace Go.Proofs.YtaccokghjpcijaaGreatDoor
open Go Go.RowKit Pp Go.Proofs.YtaccokghjpcijaaGreatDoorW.PrintWords

set_option maxRecDepth 100000 in
set_option maxHeartbeats 8000000 in
theorem kdo_make {W : World} {G : Nat → Prop} {n0 kb : Nat} {E : List (Str × Nat)} {T : List (Bool × Str)} {g : St} {M : Nat} (h : KM W G n0 kb E T) (hn0 : n0 ≤ W.heap.size) (hr : KRel g E T) (hI : Inv g) (hE : E.length ≤ 1000000) (hT : T.length ≤ 1000000) (hm : ∀ e ∈ E, e.1.length ≤ M) (hM : M ≤ 1000000) (hby : ∀ i, (g.node i).bytes.length ≤ 16384) (hlk : ∀ i, 0 ≤ (g.node i).links ∧ (g.node i).links ≤ 1000000) (o : Ask) (ho : o.do_ = 0 ∨ o.do_ = 1 ∨ o.do_ = 2) (hp : o.path.length ≤ 4096) (hd : o.dst.length ≤ 4096) (hda : o.data.length ≤ 1048576) :
    Calls Tryz.prog 22 #[.pointer (some ⟨kb, 0, none⟩), opV o] W (KStep W G n0 kb g E T M o) := by
  have hm6 : ∀ e ∈ E, e.1.length ≤ 1000000 := fun e he => Nat.le_trans (hm e he) hM
  have hst := step_make hr hI hE o ho
  have hgr := makeR_grow (g := g) (T := T) hm o hp hd
  have hcall := fun (w : World) (hk : KM w G n0 kb E T) (hn : n0 ≤ w.heap.size) => kmake_calls hk hn hr hI hE hT o hp hd
  obtain ⟨f0, s1, s2, f3, f4, s5⟩ := o
  simp only at hp hd hda ho
  unfold opV
  obtain ⟨W1, hW1⟩ : ∃ W1, (W.alloc (.cells #[.int .i64 f0, .string (mk s1), .string (mk s2), .int .i64 f3, .int .i64 f4, .string (mk s5)] 35)).alloc (.cells #[.int .i64 0, .int .i64 0, .string ⟨#[]⟩, .slice none 0 0] 32) = W1 := ⟨_, rfl⟩
  obtain ⟨hb1, hbox, hans⟩ := opans W ⟨f0, s1, s2, f3, f4, s5⟩ hW1
  have hsz : W.heap.size + 2 ≤ W1.heap.size := by rw [← hW1]; simp
  have HC := Lib.hid (hcall W1 (h.below hb1) (Nat.le_trans hn0 hb1.size))
  have HB1 := Lib.hid hb1
  have HG := Lib.hid (fun b hb => (h.lt b hb).1)
  have HA := Lib.hid hans
  have HW := Lib.hid hW1
  have HST := Lib.hid hst
  have HGR := Lib.hid hgr
  obtain ⟨q0, q1, q2, q3, q4, q5⟩ := op6 hbox
  clear hb1 hbox hans h hr hI hW1 hcall hst hgr hm hm6 hby hlk hM hE hT hn0
  unfold opV at HC
  rcases ho with rfl | rfl | rfl
  all_goals
    go_enter Tryz.func22, Tryz.ntmps22
    go_upto_region 1 with fail
    rw [HW.out]
    go_wp2_with fail
    refine HC.out.mono ?_
    rintro e w5 ⟨rfl, hP⟩
    obtain ⟨G5, hK5, hX5⟩ := id hP
    have HA5 := Lib.hid ((hX5.fr.block _ (some_lt HA.out) (fun hg => by have := HG.out _ hg; omega)).trans HA.out)
    have HP := Lib.hid hP
    clear hP hK5 hX5
    obtain ⟨y0, y1, y2, y3, v0, v1, v2, v3⟩ := ans_cells HA5.out
    go_wp2_with fail
    refine bodyPost_ret (results_cell_row rfl _ _ (W.heap.size + 1) 32 #[_, _, _, _] (0, 0) _ rfl (put4_at HA5.out) Tryz.underlying32 rfl (by kernel_rfl)) rfl ?_
    refine ⟨_, _, ?_, HST.out.2, HGR.out.1, HGR.out.2.1, HGR.out.2.2⟩
    rw [HST.out.1]
    exact KDo.put4 HB1.out HG.out (KDo.plain HP.out rfl) (by omega) (by omega)
set_option maxRecDepth 100000 in
set_option maxHeartbeats 8000000 in
theorem kdo_take {W : World} {G : Nat → Prop} {n0 kb : Nat} {E : List (Str × Nat)} {T : List (Bool × Str)} {g : St} {M : Nat} (h : KM W G n0 kb E T) (hn0 : n0 ≤ W.heap.size) (hr : KRel g E T) (hI : Inv g) (hE : E.length ≤ 1000000) (hT : T.length ≤ 1000000) (hm : ∀ e ∈ E, e.1.length ≤ M) (hM : M ≤ 1000000) (hby : ∀ i, (g.node i).bytes.length ≤ 16384) (hlk : ∀ i, 0 ≤ (g.node i).links ∧ (g.node i).links ≤ 1000000) (o : Ask) (ho : o.do_ = 3 ∨ o.do_ = 4 ∨ o.do_ = 5) (hp : o.path.length ≤ 4096) (hd : o.dst.length ≤ 4096) (hda : o.data.length ≤ 1048576) :
    Calls Tryz.prog 22 #[.pointer (some ⟨kb, 0, none⟩), opV o] W (KStep W G n0 kb g E T M o) := by
  have hm6 : ∀ e ∈ E, e.1.length ≤ 1000000 := fun e he => Nat.le_trans (hm e he) hM
  have hst := step_take hr hI hE o ho
  have hgr := takeR_grow (g := g) hm o hd
  have hcall := fun (w : World) (hk : KM w G n0 kb E T) (hn : n0 ≤ w.heap.size) => ktake_calls hk hn hr hI hE hT hm6 o ho hp hd
  obtain ⟨f0, s1, s2, f3, f4, s5⟩ := o
  simp only at hp hd hda ho
  unfold opV
  obtain ⟨W1, hW1⟩ : ∃ W1, (W.alloc (.cells #[.int .i64 f0, .string (mk s1), .string (mk s2), .int .i64 f3, .int .i64 f4, .string (mk s5)] 35)).alloc (.cells #[.int .i64 0, .int .i64 0, .string ⟨#[]⟩, .slice none 0 0] 32) = W1 := ⟨_, rfl⟩
  obtain ⟨hb1, hbox, hans⟩ := opans W ⟨f0, s1, s2, f3, f4, s5⟩ hW1
  have hsz : W.heap.size + 2 ≤ W1.heap.size := by rw [← hW1]; simp
  have HC := Lib.hid (hcall W1 (h.below hb1) (Nat.le_trans hn0 hb1.size))
  have HB1 := Lib.hid hb1
  have HG := Lib.hid (fun b hb => (h.lt b hb).1)
  have HA := Lib.hid hans
  have HW := Lib.hid hW1
  have HST := Lib.hid hst
  have HGR := Lib.hid hgr
  obtain ⟨q0, q1, q2, q3, q4, q5⟩ := op6 hbox
  clear hb1 hbox hans h hr hI hW1 hcall hst hgr hm hm6 hby hlk hM hE hT hn0
  unfold opV at HC
  rcases ho with rfl | rfl | rfl
  all_goals
    go_enter Tryz.func22, Tryz.ntmps22
    go_upto_region 1 with fail
    rw [HW.out]
    go_wp2_with fail
    refine HC.out.mono ?_
    rintro e w5 ⟨rfl, hP⟩
    obtain ⟨G5, hK5, hX5⟩ := id hP
    have HA5 := Lib.hid ((hX5.fr.block _ (some_lt HA.out) (fun hg => by have := HG.out _ hg; omega)).trans HA.out)
    have HP := Lib.hid hP
    clear hP hK5 hX5
    obtain ⟨y0, y1, y2, y3, v0, v1, v2, v3⟩ := ans_cells HA5.out
    go_wp2_with fail
    refine bodyPost_ret (results_cell_row rfl _ _ (W.heap.size + 1) 32 #[_, _, _, _] (0, 0) _ rfl (put4_at HA5.out) Tryz.underlying32 rfl (by kernel_rfl)) rfl ?_
    refine ⟨_, _, ?_, HST.out.2, HGR.out.1, Nat.le_succ _, HGR.out.2⟩
    rw [HST.out.1]
    exact KDo.put4 HB1.out HG.out (KDo.plain HP.out rfl) (by omega) (by omega)
end Go.Proofs.YtaccokghjpcijaaGreatDoor
set_option linter.unusedVariables false
set_option linter.unusedSimpArgs false
namespace Go.Proofs.YtaccokghjpcijaaGreatDoor
open Go Go.RowKit Pp Go.Proofs.YtaccokghjpcijaaGreatDoorW.PrintWords

set_option maxRecDepth 100000 in
set_option maxHeartbeats 8000000 in
theorem kdo_bytes {W : World} {G : Nat → Prop} {n0 kb : Nat} {E : List (Str × Nat)} {T : List (Bool × Str)} {g : St} {M : Nat} (h : KM W G n0 kb E T) (hn0 : n0 ≤ W.heap.size) (hr : KRel g E T) (hI : Inv g) (hE : E.length ≤ 1000000) (hT : T.length ≤ 1000000) (hm : ∀ e ∈ E, e.1.length ≤ M) (hM : M ≤ 1000000) (hby : ∀ i, (g.node i).bytes.length ≤ 16384) (hlk : ∀ i, 0 ≤ (g.node i).links ∧ (g.node i).links ≤ 1000000) (o : Ask) (ho : o.do_ = 6 ∨ o.do_ = 7 ∨ o.do_ = 8) (hp : o.path.length ≤ 4096) (hd : o.dst.length ≤ 4096) (hda : o.data.length ≤ 1048576) :
    Calls Tryz.prog 22 #[.pointer (some ⟨kb, 0, none⟩), opV o] W (KStep W G n0 kb g E T M o) := by
  have hm6 : ∀ e ∈ E, e.1.length ≤ 1000000 := fun e he => Nat.le_trans (hm e he) hM
  have hst := hr
  have hgr := fun (x : Str × Nat) (hx : x ∈ E) => Nat.le_trans (hm x hx) (Nat.le_add_right M 4096)
  have hcall := fun (w : World) (hk : KM w G n0 kb E T) (hn : n0 ≤ w.heap.size) => kbytes_calls hk hn hr hI hE hT hby o ho hp hda
  obtain ⟨f0, s1, s2, f3, f4, s5⟩ := o
  simp only at hp hd hda ho
  unfold opV
  obtain ⟨W1, hW1⟩ : ∃ W1, (W.alloc (.cells #[.int .i64 f0, .string (mk s1), .string (mk s2), .int .i64 f3, .int .i64 f4, .string (mk s5)] 35)).alloc (.cells #[.int .i64 0, .int .i64 0, .string ⟨#[]⟩, .slice none 0 0] 32) = W1 := ⟨_, rfl⟩
  obtain ⟨hb1, hbox, hans⟩ := opans W ⟨f0, s1, s2, f3, f4, s5⟩ hW1
  have hsz : W.heap.size + 2 ≤ W1.heap.size := by rw [← hW1]; simp
  have HC := Lib.hid (hcall W1 (h.below hb1) (Nat.le_trans hn0 hb1.size))
  have HB1 := Lib.hid hb1
  have HG := Lib.hid (fun b hb => (h.lt b hb).1)
  have HA := Lib.hid hans
  have HW := Lib.hid hW1
  have HST := Lib.hid hst
  have HGR := Lib.hid hgr
  obtain ⟨q0, q1, q2, q3, q4, q5⟩ := op6 hbox
  clear hb1 hbox hans h hr hI hW1 hcall hst hgr hm hm6 hby hlk hM hE hT hn0
  unfold opV at HC
  rcases ho with rfl | rfl | rfl
  all_goals
    go_enter Tryz.func22, Tryz.ntmps22
    go_upto_region 1 with fail
    rw [HW.out]
    go_wp2_with fail
    refine HC.out.mono ?_
    rintro e w5 ⟨T', hD, hR', hT'⟩
    have HR' := Lib.hid hR'
    have HT' := Lib.hid hT'
    clear hR' hT'
    obtain ⟨G5, A, c, rfl, hK5, hX5, _, _⟩ := id hD
    have HA5 := Lib.hid ((hX5.fr.block _ (some_lt HA.out) (fun hg => by have := HG.out _ hg; omega)).trans HA.out)
    have HD := Lib.hid hD
    clear hD hK5 hX5
    obtain ⟨y0, y1, y2, y3, v0, v1, v2, v3⟩ := ans_cells HA5.out
    unfold ansV
    go_wp2_with fail
    refine bodyPost_ret (results_cell_row rfl _ _ (W.heap.size + 1) 32 #[_, _, _, _] (0, 0) _ rfl (put4_at HA5.out) Tryz.underlying32 rfl (by kernel_rfl)) rfl ?_
    exact ⟨_, _, KDo.put4 HB1.out HG.out HD.out (by omega) (by omega), HR'.out, Nat.le_succ _, by rw [HT'.out]; exact Nat.le_succ _, HGR.out⟩
set_option maxRecDepth 100000 in
set_option maxHeartbeats 8000000 in
theorem kdo_tell {W : World} {G : Nat → Prop} {n0 kb : Nat} {E : List (Str × Nat)} {T : List (Bool × Str)} {g : St} {M : Nat} (h : KM W G n0 kb E T) (hn0 : n0 ≤ W.heap.size) (hr : KRel g E T) (hI : Inv g) (hE : E.length ≤ 1000000) (hT : T.length ≤ 1000000) (hm : ∀ e ∈ E, e.1.length ≤ M) (hM : M ≤ 1000000) (hby : ∀ i, (g.node i).bytes.length ≤ 16384) (hlk : ∀ i, 0 ≤ (g.node i).links ∧ (g.node i).links ≤ 1000000) (o : Ask) (ho : o.do_ = 9 ∨ o.do_ = 10) (hp : o.path.length ≤ 4096) (hd : o.dst.length ≤ 4096) (hda : o.data.length ≤ 1048576) :
    Calls Tryz.prog 22 #[.pointer (some ⟨kb, 0, none⟩), opV o] W (KStep W G n0 kb g E T M o) := by
  have hm6 : ∀ e ∈ E, e.1.length ≤ 1000000 := fun e he => Nat.le_trans (hm e he) hM
  have hst := hr
  have hgr := fun (x : Str × Nat) (hx : x ∈ E) => Nat.le_trans (hm x hx) (Nat.le_add_right M 4096)
  have hcall := fun (w : World) (hk : KM w G n0 kb E T) (hn : n0 ≤ w.heap.size) => ktell_calls hk hn hr hI hE hT hm6 hlk o ho hp
  obtain ⟨f0, s1, s2, f3, f4, s5⟩ := o
  simp only at hp hd hda ho
  unfold opV
  obtain ⟨W1, hW1⟩ : ∃ W1, (W.alloc (.cells #[.int .i64 f0, .string (mk s1), .string (mk s2), .int .i64 f3, .int .i64 f4, .string (mk s5)] 35)).alloc (.cells #[.int .i64 0, .int .i64 0, .string ⟨#[]⟩, .slice none 0 0] 32) = W1 := ⟨_, rfl⟩
  obtain ⟨hb1, hbox, hans⟩ := opans W ⟨f0, s1, s2, f3, f4, s5⟩ hW1
  have hsz : W.heap.size + 2 ≤ W1.heap.size := by rw [← hW1]; simp
  have HC := Lib.hid (hcall W1 (h.below hb1) (Nat.le_trans hn0 hb1.size))
  have HB1 := Lib.hid hb1
  have HG := Lib.hid (fun b hb => (h.lt b hb).1)
  have HA := Lib.hid hans
  have HW := Lib.hid hW1
  have HST := Lib.hid hst
  have HGR := Lib.hid hgr
  obtain ⟨q0, q1, q2, q3, q4, q5⟩ := op6 hbox
  clear hb1 hbox hans h hr hI hW1 hcall hst hgr hm hm6 hby hlk hM hE hT hn0
  unfold opV at HC
  rcases ho with rfl | rfl
  all_goals
    go_enter Tryz.func22, Tryz.ntmps22
    go_upto_region 1 with fail
    rw [HW.out]
    go_wp2_with fail
    refine HC.out.mono ?_
    rintro e w5 ⟨hD, hg'⟩
    have HG' := Lib.hid hg'
    clear hg'
    obtain ⟨G5, A, c, rfl, hK5, hX5, _, _⟩ := id hD
    have HA5 := Lib.hid ((hX5.fr.block _ (some_lt HA.out) (fun hg => by have := HG.out _ hg; omega)).trans HA.out)
    have HD := Lib.hid hD
    clear hD hK5 hX5
    obtain ⟨y0, y1, y2, y3, v0, v1, v2, v3⟩ := ans_cells HA5.out
    unfold ansV
    go_wp2_with fail
    refine bodyPost_ret (results_cell_row rfl _ _ (W.heap.size + 1) 32 #[_, _, _, _] (0, 0) _ rfl (put4_at HA5.out) Tryz.underlying32 rfl (by kernel_rfl)) rfl ?_
    exact ⟨_, _, KDo.put4 HB1.out HG.out HD.out (by omega) (by omega), by rw [HG'.out]; exact HST.out, Nat.le_succ _, Nat.le_succ _, HGR.out⟩
end Go.Proofs.YtaccokghjpcijaaGreatDoor
set_option linter.unusedVariables false
set_option linter.unusedSimpArgs false
namespace Go.Proofs.YtaccokghjpcijaaGreatDoor
open Go Go.RowKit Pp Go.Proofs.YtaccokghjpcijaaGreatDoorW.PrintWords

set_option maxRecDepth 100000 in
set_option maxHeartbeats 8000000 in
theorem kdo_other {W : World} {G : Nat → Prop} {n0 kb : Nat} {E : List (Str × Nat)} {T : List (Bool × Str)} {g : St} {M : Nat} (h : KM W G n0 kb E T) (hn0 : n0 ≤ W.heap.size) (hr : KRel g E T) (hI : Inv g) (hE : E.length ≤ 1000000) (hT : T.length ≤ 1000000) (hm : ∀ e ∈ E, e.1.length ≤ M) (hM : M ≤ 1000000) (hby : ∀ i, (g.node i).bytes.length ≤ 16384) (hlk : ∀ i, 0 ≤ (g.node i).links ∧ (g.node i).links ≤ 1000000) (o : Ask) (ho : o.do_ < 0 ∨ 10 < o.do_) (hp : o.path.length ≤ 4096) (hd : o.dst.length ≤ 4096) (hda : o.data.length ≤ 1048576) :
    Calls Tryz.prog 22 #[.pointer (some ⟨kb, 0, none⟩), opV o] W (KStep W G n0 kb g E T M o) := by
  have hm6 : ∀ e ∈ E, e.1.length ≤ 1000000 := fun e he => Nat.le_trans (hm e he) hM
  have hst : step g o = (g, told 1) := by unfold step; rw [if_neg (by omega), if_neg (by omega), if_neg (by omega), if_neg (by omega), if_neg (by omega), if_neg (by omega), if_neg (by omega), if_neg (by omega), if_neg (by omega), if_neg (by omega), if_neg (by omega)]
  have hgr := fun (x : Str × Nat) (hx : x ∈ E) => Nat.le_trans (hm x hx) (Nat.le_add_right M 4096)
  have hcall := fun (w : World) (hk : KM w G n0 kb E T) (hn : n0 ≤ w.heap.size) => And.intro hk hr
  obtain ⟨f0, s1, s2, f3, f4, s5⟩ := o
  simp only at hp hd hda ho
  unfold opV
  obtain ⟨W1, hW1⟩ : ∃ W1, (W.alloc (.cells #[.int .i64 f0, .string (mk s1), .string (mk s2), .int .i64 f3, .int .i64 f4, .string (mk s5)] 35)).alloc (.cells #[.int .i64 0, .int .i64 0, .string ⟨#[]⟩, .slice none 0 0] 32) = W1 := ⟨_, rfl⟩
  obtain ⟨hb1, hbox, hans⟩ := opans W ⟨f0, s1, s2, f3, f4, s5⟩ hW1
  have hsz : W.heap.size + 2 ≤ W1.heap.size := by rw [← hW1]; simp
  have HC := Lib.hid (hcall W1 (h.below hb1) (Nat.le_trans hn0 hb1.size))
  have HB1 := Lib.hid hb1
  have HG := Lib.hid (fun b hb => (h.lt b hb).1)
  have HA := Lib.hid hans
  have HW := Lib.hid hW1
  have HST := Lib.hid hst
  have HGR := Lib.hid hgr
  obtain ⟨q0, q1, q2, q3, q4, q5⟩ := op6 hbox
  clear hb1 hbox hans h hr hI hW1 hcall hst hgr hm hm6 hby hlk hM hE hT hn0
  have b0 : (f0 == 0) = false := beq_eq_false_iff_ne.2 (by omega)
  have b1 : (f0 == 1) = false := beq_eq_false_iff_ne.2 (by omega)
  have b2 : (f0 == 2) = false := beq_eq_false_iff_ne.2 (by omega)
  have b3 : (f0 == 3) = false := beq_eq_false_iff_ne.2 (by omega)
  have b4 : (f0 == 4) = false := beq_eq_false_iff_ne.2 (by omega)
  have b5 : (f0 == 5) = false := beq_eq_false_iff_ne.2 (by omega)
  have b6 : (f0 == 6) = false := beq_eq_false_iff_ne.2 (by omega)
  have b7 : (f0 == 7) = false := beq_eq_false_iff_ne.2 (by omega)
  have b8 : (f0 == 8) = false := beq_eq_false_iff_ne.2 (by omega)
  have b9 : (f0 == 9) = false := beq_eq_false_iff_ne.2 (by omega)
  have b10 : (f0 == 10) = false := beq_eq_false_iff_ne.2 (by omega)
  obtain ⟨y0, y1, y2, y3, v0, v1, v2, v3⟩ := ans_cells HA.out
  clear ho
  go_enter Tryz.func22, Tryz.ntmps22
  go_upto_region 1 with fail
  rw [HW.out]
  go_wp2_with fail
  refine bodyPost_ret (results_cell_row rfl _ _ (W.heap.size + 1) 32 #[_, _, _, _] (0, 0) _ rfl (put4_at HA.out) Tryz.underlying32 rfl (by kernel_rfl)) rfl ?_
  refine ⟨E, T, ?_, by rw [HST.out]; exact HC.out.2, Nat.le_succ _, Nat.le_succ _, HGR.out⟩
  rw [HST.out]
  exact KDo.put4 HB1.out HG.out (KDo.still (a := told 1) HC.out.1 (Below.refl _ _) rfl) (by omega) (by omega)
theorem kdo_calls {W : World} {G : Nat → Prop} {n0 kb : Nat} {E : List (Str × Nat)} {T : List (Bool × Str)} {g : St} {M : Nat} (h : KM W G n0 kb E T) (hn0 : n0 ≤ W.heap.size) (hr : KRel g E T) (hI : Inv g) (hE : E.length ≤ 1000000) (hT : T.length ≤ 1000000) (hm : ∀ e ∈ E, e.1.length ≤ M) (hM : M ≤ 1000000) (hby : ∀ i, (g.node i).bytes.length ≤ 16384) (hlk : ∀ i, 0 ≤ (g.node i).links ∧ (g.node i).links ≤ 1000000) (o : Ask) (hp : o.path.length ≤ 4096) (hd : o.dst.length ≤ 4096) (hda : o.data.length ≤ 1048576) :
    Calls Tryz.prog 22 #[.pointer (some ⟨kb, 0, none⟩), opV o] W (KStep W G n0 kb g E T M o) := by
  by_cases h1 : o.do_ < 0 ∨ 10 < o.do_
  · exact kdo_other h hn0 hr hI hE hT hm hM hby hlk o h1 hp hd hda
  by_cases h2 : o.do_ ≤ 2
  · exact kdo_make h hn0 hr hI hE hT hm hM hby hlk o (by omega) hp hd hda
  by_cases h3 : o.do_ ≤ 5
  · exact kdo_take h hn0 hr hI hE hT hm hM hby hlk o (by omega) hp hd hda
  by_cases h4 : o.do_ ≤ 8
  · exact kdo_bytes h hn0 hr hI hE hT hm hM hby hlk o (by omega) hp hd hda
  · exact kdo_tell h hn0 hr hI hE hT hm hM hby hlk o (by omega) hp hd hda
end Go.Proofs.YtaccokghjpcijaaGreatDoor
set_option linter.unusedVariables false
set_option linter.unusedSimpArgs false
namespace Go.Proofs.YtaccokghjpcijaaGreatDoor
open Go Go.RowKit Pp Go.Proofs.YtaccokghjpcijaaGreatDoorW.PrintWords

/-- A tree of its own. -/
def KNew (W : World) (n0 : Nat) (E : List (Str × Nat)) (T : List (Bool × Str)) (e : Ending) (W' : World) : Prop := ∃ kb G, e = .returned (.pointer (some ⟨kb, 0, none⟩)) ∧ KM W' G n0 kb E T ∧ Below W.heap.size W W' ∧ ∀ b, G b → W.heap.size ≤ b
set_option maxRecDepth 100000 in
set_option maxHeartbeats 4000000 in
theorem knew_calls (W : World) {n0 : Nat} (hn : n0 ≤ W.heap.size) : Calls Tryz.prog 19 #[] W (KNew W n0 [] [(true, [])]) := by
  have hs := W.ownsRow_lit (e := 73) (size := 2) #[.bool true, .string (mk [])] 1 hn (by decide) rfl
  have HS := Lib.hid hs
  clear hs
  go_enter Tryz.func19, Tryz.ntmps19
  go_wp2_with fail
  go_ret
  refine ⟨W.heap.size + 1, fun b => b = W.heap.size + 1 ∨ b = W.heap.size, by first | rfl | (rw [World.size_alloc]; rfl), ⟨.slice none 0 0, .slice (some ⟨W.heap.size, 0, none⟩) 1 1, ?_⟩, balloc (balloc (Below.refl _ _)), fun b hb => by rcases hb with h | h <;> omega⟩
  refine { root := ?_, oE := World.ownsRow_nil _ _ _ _, oT := HS.out.alloc _, low := by omega, mem := fun b => ⟨fun h => ?_, fun h => ?_⟩ }
  · have := heap_alloc_new (W.alloc (.cells #[.bool true, .string (mk [])] 73)) (.cells #[.slice none 0 0, .slice (some ⟨W.heap.size, 0, none⟩) 1 1] 77)
    rw [World.size_alloc] at this
    exact this
  · rcases h with h | h
    · exact .inl h
    · exact .inr (.inr (by rw [h]; rfl))
  · rcases h with h | h | h
    · exact .inl h
    · cases h
    · injection h with h
      exact .inr h.symm
theorem new_krel : KRel newS [] [(true, [])] := ⟨⟨[], new_rel, rfl⟩, rfl, fun i hi => by
  have : i = 0 := by
    have h : i < 1 := hi
    omega
  subst this
  rfl⟩
end Go.Proofs.YtaccokghjpcijaaGreatDoor
set_option linter.unusedVariables false
set_option linter.unusedSimpArgs false
namespace Go.Proofs.YtaccokghjpcijaaGreatDoor
open Go Go.RowKit Pp Go.Proofs.YtaccokghjpcijaaGreatDoorW.PrintWords

/-- A whole row, appended to nil, at a step of a region that draws. -/
theorem step_append_row {P : Program} {w : World} {ops : Array Oper} {o : Oper} {a : Act} {K : Act → World → Prop} {Q : Exit → Act → World → Prop} {F : Prop} (hgd : o.guard = none) (s x : Operand) (t : TypeId)
    (ho : o.op = .call { callee := .builtin .append, args := #[s, x], argTypes := #[t, t] })
    (base src : Nat) (e : TypeId) (i : TypeInfo) (z : Value) (size bytes : Nat) (ht : P.underlying t = some (.slice e)) (hi : P.info? e = some i) (hz : i.zero = some z)
    (hsize : i.size = size) (hby : i.bytes = bytes) (hzs : z.cells.size = size) (hsz : 0 < size)
    (hs : a.eval s = .slice none 0 0) (vx : Value) (m : Nat) (news : List Value) (hx : a.eval x = vx) (hsrc : w.ownsRow src e size vx m news) (h1 : ∀ u ∈ news, u.oneCell' = true)
    (h63 : m ≤ maxLen) (hbytes : m * bytes ≤ 140737488355328) (hbase : base ≤ w.heap.size)
    (h : ∀ A c w', w'.ownsRow base e size (.slice A m c) m news → w.grownBy w' none → K (a.put o.dst (.slice A m c)) w') :
    if Region.wanted o (yielded ops a.tmps) = true then Oper.wp P o a w K Q else F := by
  have hw : Region.wanted o (yielded ops a.tmps) = true := by simp [Region.wanted, hgd]
  rw [if_pos hw]
  rcases hsrc.2 with ⟨rfl, rfl⟩ | ⟨g, cap, cur, rfl, _⟩
  · have hn : news = [] := List.eq_nil_of_length_eq_zero (by have := hsrc.1; omega)
    subst hn
    have hrun := run_append_owned_none (P := P) (w := w) base t o.type e i size ht hi (.slice none 0 0) 0 [] (World.ownsRow_nil _ _ _ _)
    unfold Oper.wp execOp
    simp only [ho, resolve, invoke, builtin, Sem.run_bind, Sem.run_pure, Result.andThen_ok, List.map_toArray, List.map_cons, List.map_nil, hs, hx, hrun]
    exact h none 0 w (World.ownsRow_nil _ _ _ _) (World.grownBy.refl w none)
  · obtain ⟨v', w', hr, h2, h3, _, _⟩ := run_append_own_at (P := P) w base t o.type e i z size bytes ht hi hz hsize hby hzs hsz (.slice none 0 0) 0 [] (World.ownsRow_nil _ _ _ _) ⟨g, 0, none⟩ m cap news hsrc.1 (hsrc.cells rfl) h1 (by omega) (by rw [Nat.zero_add]; exact hbytes) hbase
    rw [Nat.zero_add, List.nil_append] at h2
    obtain ⟨A, c, rfl, _⟩ := own_form h2
    unfold Oper.wp execOp
    simp only [ho, resolve, invoke, builtin, Sem.run_bind, Sem.run_pure, Result.andThen_ok, List.map_toArray, List.map_cons, List.map_nil, hs, hx, hr]
    exact h A c w' h2 h3
theorem one_cellsE (E : List (Str × Nat)) : ∀ u ∈ cellsE E, u.oneCell' = true := fun u hu => by
  obtain ⟨e, _, he⟩ := List.mem_flatMap.1 hu
  unfold eV at he
  rcases List.mem_cons.1 he with h | h
  · subst h; rfl
  · rw [List.mem_singleton.1 h]; rfl
theorem one_cellsT (T : List (Bool × Str)) : ∀ u ∈ cellsT T, u.oneCell' = true := fun u hu => by
  obtain ⟨e, _, he⟩ := List.mem_flatMap.1 hu
  unfold tV at he
  rcases List.mem_cons.1 he with h | h
  · subst h; rfl
  · rw [List.mem_singleton.1 h]; rfl
theorem grown_below {W w1 w2 : World} {n : Nat} (h : Below n W w1) (hn : n ≤ w1.heap.size) (hg : w1.grownBy w2 none) : Below n W w2 :=
  ⟨hg.os.trans h.os, hg.tape.trans h.tape, hg.output.trans h.output, Nat.le_trans h.size hg.size, fun k hk => (hg.block k (Nat.lt_of_lt_of_le hk hn) (by simp)).trans (h.block k hk)⟩
set_option maxRecDepth 100000 in
set_option maxHeartbeats 8000000 in
theorem kcopy_calls {W : World} {G : Nat → Prop} {n0 kb : Nat} {E : List (Str × Nat)} {T : List (Bool × Str)} (h : KM W G n0 kb E T) {n1 : Nat} (hn1 : n1 ≤ W.heap.size) (hE : E.length ≤ 1000000) (hT : T.length ≤ 1000000) :
    Calls Tryz.prog 21 #[.pointer (some ⟨kb, 0, none⟩)] W (KNew W n1 E T) := by
  obtain ⟨W1, hW1⟩ : ∃ W1, W.alloc (.cells #[.slice none 0 0, .slice none 0 0] 77) = W1 := ⟨_, rfl⟩
  have hb1 : Below W.heap.size W W1 := by rw [← hW1]; exact balloc (Below.refl _ _)
  have hbox : W1.heap[W.heap.size]? = some (.cells #[.slice none 0 0, .slice none 0 0] 77 (0, 0)) := by rw [← hW1]; exact heap_alloc_new _ _
  have hs1 : W.heap.size + 1 ≤ W1.heap.size := by rw [← hW1, World.size_alloc]; exact Nat.le_refl _
  have HW := Lib.hid hW1
  have HB1 := Lib.hid hb1
  have HBX := Lib.hid hbox
  have HK := Lib.hid h
  obtain ⟨vE, vT, hks⟩ := id (h.below hb1)
  obtain ⟨A, c, B, d, hvE, hvT, hc, hd, e0, e1, _⟩ := hks.open_
  subst hvE
  have HKS := Lib.hid hks
  have b0 := heap_cell hbox 0 _ rfl
  have bf := frozen_of_row _ _ 0 _ _ hbox
  obtain ⟨i0, hi, hz0, hz1, hz2⟩ := info_parts Tryz.infoEntry
  obtain ⟨i1, hj, hy0, hy1, hy2⟩ := info_parts Tryz.infoThing17
  clear hW1 hb1 hbox h hks e1
  go_enter Tryz.func21, Tryz.ntmps21
  go_upto_region 2 with fail
  rw [HW.out]
  go_region_law (first | (refine step_append_row rfl _ _ 75 rfl (W.heap.size + 1) n0 107 i0 (.agg #[.string ⟨#[]⟩, .int .i64 0]) 2 24 Tryz.underlying75 hi hz0 hz1 hz2 rfl (by decide) (by simp [Act.eval, Act.put]) (.slice A E.length c) E.length (cellsE E) (by simp [Act.eval, Act.put]) (by exact HKS.out.oE) (one_cellsE E) (by unfold maxLen; omega) (by omega) (by exact hs1) ?_; intro A2 c2 w2 hown hgrow; have hbx2 := (hgrow.block W.heap.size (by exact some_lt HBX.out) (by simp)).trans HBX.out; have b02 := heap_cell hbx2 0 _ rfl; have bf2 := frozen_of_row _ _ 0 _ _ hbx2))
  all_goals
    have hB2 : Below W.heap.size W w2 := grown_below HB1.out HB1.out.size ⟨hgrow.os, hgrow.tape, hgrow.output, hgrow.size, hgrow.block⟩
    have hz2' : W1.heap.size ≤ w2.heap.size := hgrow.size
    obtain ⟨w3, hw3⟩ : ∃ w, w2.setCell ⟨W.heap.size, 0, none⟩ (.slice A2 E.length c2) = w := ⟨_, rfl⟩
    have hbx3 : w3.heap[W.heap.size]? = some (.cells #[.slice A2 E.length c2, .slice none 0 0] 77 (0, 0)) := by rw [← hw3]; exact heap_setCell_same _ _ 0 _ _ _ hbx2
    have hB3 : Below W.heap.size W w3 := by rw [← hw3]; exact hB2.setCell (Nat.le_refl _) _
    have hz3 : W.heap.size + 1 ≤ w3.heap.size := by rw [← hw3]; simp; omega
    have hown3 : w3.ownsRow (W.heap.size + 1) 107 2 (.slice A2 E.length c2) E.length (cellsE E) := own_same hown (fun b hb => by
      rw [← hw3]
      exact Below.heap_setCell _ _ _ _ (fun e => by have := (hown.lt b hb).1; simp only at e; omega))
    rw [hw3]
    have HBX3 := Lib.hid hbx3
    have HB3 := Lib.hid hB3
    have HO3 := Lib.hid hown3
    obtain ⟨vE', vT', hks3⟩ := id (HK.out.below hB3)
    obtain ⟨A', c', B', d', _, hvT', _, hd', _, e1, _⟩ := hks3.open_
    subst hvT'
    have HKS3 := Lib.hid hks3
    have b13 := heap_cell hbx3 1 _ rfl
    have bf3 := frozen_of_row _ _ 1 _ _ hbx3
    clear hw3 hbx3 hB3 hown3 hB2 hown hgrow hbx2 b02 bf2 hks3 b0 bf e0 hvT
    go_wp2_with fail
    go_region_law (first | (refine step_append_row rfl _ _ 74 rfl (W.heap.size + 1) n0 73 i1 (.agg #[.bool false, .string ⟨#[]⟩]) 2 24 Tryz.underlying74 hj hy0 hy1 hy2 rfl (by decide) (by simp [Act.eval, Act.put]) (.slice B' T.length d') T.length (cellsT T) (by simp [Act.eval, Act.put]) (by exact HKS3.out.oT) (one_cellsT T) (by unfold maxLen; omega) (by omega) (by exact hz3) ?_; intro A4 c4 w4 hown4 hgrow4; have hbx4 := (hgrow4.block W.heap.size (by exact some_lt HBX3.out) (by simp)).trans HBX3.out; have b14 := heap_cell hbx4 1 _ rfl; have bf4 := frozen_of_row _ _ 1 _ _ hbx4))
    all_goals
      have hB4 : Below W.heap.size W w4 := grown_below HB3.out HB3.out.size ⟨hgrow4.os, hgrow4.tape, hgrow4.output, hgrow4.size, hgrow4.block⟩
      have hown4E : w4.ownsRow (W.heap.size + 1) 107 2 (.slice A2 E.length c2) E.length (cellsE E) := own_same HO3.out (fun b hb => hgrow4.block b (HO3.out.lt b hb).2 (by simp))
      obtain ⟨w5, hw5⟩ : ∃ w, w4.setCell ⟨W.heap.size, 1, none⟩ (.slice A4 T.length c4) = w := ⟨_, rfl⟩
      have hbx5 : w5.heap[W.heap.size]? = some (.cells #[.slice A2 E.length c2, .slice A4 T.length c4] 77 (0, 0)) := by rw [← hw5]; exact heap_setCell_same _ _ 1 _ _ _ hbx4
      have hB5 : Below W.heap.size W w5 := by rw [← hw5]; exact hB4.setCell (Nat.le_refl _) _
      have hk5 : ∀ b, W.heap.size + 1 ≤ b → w5.heap[b]? = w4.heap[b]? := fun b hb => by
        rw [← hw5]
        exact Below.heap_setCell _ _ _ _ (fun e => by simp only at e; omega)
      have hoE := own_same hown4E (fun b hb => hk5 b (hown4E.lt b hb).1)
      have hoT := own_same hown4 (fun b hb => hk5 b (hown4.lt b hb).1)
      have HE5 := Lib.hid hoE
      have HT5 := Lib.hid hoT
      have HBX5 := Lib.hid hbx5
      have HB5 := Lib.hid hB5
      rw [hw5]
      clear hw5 hbx5 hB5 hk5 hoE hoT hown4E hB4 hown4 hgrow4 hbx4 b14 bf4
      go_wp2_with fail
      go_ret
      refine ⟨W.heap.size, fun b => b = W.heap.size ∨ (Value.slice A2 E.length c2).ownBlock = some b ∨ (Value.slice A4 T.length c4).ownBlock = some b, rfl, ⟨_, _, { root := HBX5.out, oE := HE5.out.mono (by omega), oT := HT5.out.mono (by omega), low := hn1, mem := fun b => Iff.rfl }⟩, HB5.out, fun b hb => ?_⟩
      rcases hb with hb | hb | hb
      · omega
      · have := (HE5.out.lt b hb).1; omega
      · have := (HT5.out.lt b hb).1; omega
end Go.Proofs.YtaccokghjpcijaaGreatDoor
set_option linter.unusedVariables false
set_option linter.unusedSimpArgs false
namespace Go.Proofs.YtaccokghjpcijaaGreatDoor
open Go Go.RowKit Pp Go.Proofs.YtaccokghjpcijaaGreatDoorW.PrintWords

/-- The things below k that lie in the tree. -/
def liveK (E : List (Str × Nat)) (k : Nat) : List Nat := (List.range k).filter fun i => decide (i = 0) || decide (0 < cntR E i)
theorem liveK_snoc (E : List (Str × Nat)) {k : Nat} (hk : k ≠ 0) : liveK E (k + 1) = liveK E k ++ if 0 < cntR E k then [k] else [] := by
  unfold liveK
  rw [List.range_succ, List.filter_append]
  congr 1
  by_cases h : 0 < cntR E k
  · simp [h]
  · simp [h, hk]
theorem liveK_len (E : List (Str × Nat)) (k : Nat) : (liveK E k).length ≤ k := by
  have := List.length_filter_le (fun i => decide (i = 0) || decide (0 < cntR E i)) (List.range k)
  rw [List.length_range] at this
  exact this
theorem liveK_reach {g : St} {E : List (Str × Nat)} {T : List (Bool × Str)} (r : KRel g E T) (h : Inv g) : liveK E g.next = reachL g := by
  obtain ⟨⟨En, hR, hE⟩, hl, ha⟩ := r
  have hc : ∀ i, cntR E i = cnt En i := fun i => by
    rw [hE]
    unfold cntR cnt jE
    rw [List.countP_map]
    rfl
  unfold liveK reachL
  refine List.filter_congr fun i hi => ?_
  rw [hc, Bool.eq_iff_iff]
  simp only [Bool.or_eq_true, decide_eq_true_eq]
  constructor
  · rintro (h0 | h0)
    · exact ⟨[], by rw [h0]; rfl⟩
    · obtain ⟨e, he, hx⟩ := List.countP_pos_iff.1 h0
      exact ⟨e.1, by rw [← of_decide_eq_true hx]; exact ((hR.mem e.1 e.2).1 he).2⟩
  · rintro ⟨ns, hg⟩
    by_cases hn : ns = []
    · subst hn
      injection hg with hg
      exact .inl hg.symm
    · exact .inr (List.countP_pos_iff.2 ⟨(ns, i), (hR.mem ns i).2 ⟨hn, hg⟩, decide_eq_true rfl⟩)
set_option maxRecDepth 100000 in
set_option maxHeartbeats 4000000 in
theorem kcount_calls {W : World} {G : Nat → Prop} {n0 kb : Nat} {E : List (Str × Nat)} {T : List (Bool × Str)} {g : St} (h : KM W G n0 kb E T) (hr : KRel g E T) (hI : Inv g) (hE : E.length ≤ 1000000) (hT : T.length ≤ 1000000) (hby : ∀ i, (g.node i).bytes.length ≤ 16384) :
    Calls Tryz.prog 24 #[.pointer (some ⟨kb, 0, none⟩)] W fun e W' => e = .returned (.tuple #[.int .i64 (countF g), .int .i64 (countD g), .int .i64 (countB g)]) ∧ W' = W := by
  have HK := Lib.hid h
  have HR := Lib.hid hr
  have HBY := Lib.hid hby
  have HLK := Lib.hid (fun x => klinks_calls h hE x)
  obtain ⟨n, hn⟩ : ∃ n, T.length = n := ⟨_, rfl⟩
  have hnx : n = g.next := by rw [← hn]; exact hr.len
  have hn1 : 1 ≤ n := by have := hI.pos; omega
  have HEND : Hid (liveK E n = reachL g) := Lib.hid (by rw [hnx]; exact liveK_reach hr hI)
  have H1 : Hid (liveK E 1 = [0]) := Lib.hid rfl
  have HD0 := Lib.hid hI.dir0
  obtain ⟨vE, vT, hs⟩ := id h
  obtain ⟨A, c, B, d, _, _, _, hd, _, c1, _, hTs⟩ := hs.open_
  have HTS := Lib.hid hTs
  have HN := Lib.hid hn
  have HNX := Lib.hid hnx
  rw [hn] at c1 hd hT
  have hEl := hE
  clear hs hTs hn h hr hI hby hnx
  go_enter Tryz.func24, Tryz.ntmps24
  go_wp2_with fail
  go_loopw [5, 6, 7, 8] (fun f dd bb i W' => ∃ (k qf qd qb : Nat), 1 ≤ k ∧ k ≤ n ∧ i = .int .i64 k ∧ f = .int .i64 qf ∧ dd = .int .i64 qd ∧ bb = .int .i64 qb ∧ W' = W ∧ qf ≤ k ∧ qd ≤ k ∧ qb ≤ 16384 * k ∧ Hid (qf = filesN g (liveK E k) ∧ qd = dirsN g (liveK E k) ∧ qb = bytesN g (liveK E k))) (fun _ _ _ i _ => n - (intOf i).toNat)
  case atStart => exact ⟨1, 0, 1, 0, Nat.le_refl _, hn1, rfl, rfl, rfl, rfl, rfl, by omega, by omega, by omega, Lib.hid (by rw [H1.out]; unfold filesN dirsN bytesN; simp [HD0.out])⟩
  case round =>
    obtain ⟨k, qf, qd, qb, hk1, hk, rfl, rfl, rfl, rfl, rfl, hqf, hqd, hqb, HO⟩ := hrel
    by_cases hlt : k < n
    · have hTk := HR.out.at_ k (by rw [← HNX.out]; exact hlt)
      obtain ⟨ad, had, x0, x1⟩ := HTS.out k _ hTk
      have HS := Lib.hid (liveK_snoc E (k := k) (by omega))
      have hb3 := count_bounds HBY.out (liveK E (k + 1))
      have hll := liveK_len E (k + 1)
      have z0 : (0 : Int) ≤ (k : Int) := by omega
      have z1 : (k : Int) < (n : Int) := by omega
      have z2 : (k : Int) < (d : Int) := by omega
      subst had
      obtain ⟨nl, hnl⟩ : ∃ nl, cntR E k = nl := ⟨_, rfl⟩
      have HL := Lib.hid (HLK.out k)
      rw [hnl] at HL
      obtain ⟨s, hs⟩ : ∃ s, (g.node k).bytes = s := ⟨_, rfl⟩
      have hsl := HBY.out k
      rw [hs] at x1 hsl
      have zs : (mk s).size = s.length := mk_size _
      by_cases hz : 0 < nl
      · have zn : (0 : Int) < (nl : Int) := by omega
        have hls : liveK E (k + 1) = liveK E k ++ [k] := by rw [HS.out, hnl, if_pos hz]
        cases hdk : isDir g k with
        | true =>
          rw [hdk] at x0
          have hf := files_dir (g := g) (vis := liveK E k) hdk
          rw [← hls, ← HO.out.1, ← HO.out.2.1, ← HO.out.2.2] at hf
          rw [hf.1, hf.2.1, hf.2.2] at hb3
          have HF := Lib.hid hf
          clear hf hls hdk hTk hnl hs hz
          go_wp2_with fail
          refine HL.out.mono ?_
          rintro e w2 ⟨rfl, rfl⟩
          go_wp2_with fail
          refine HL.out.mono ?_
          rintro e w3 ⟨rfl, rfl⟩
          go_wp2_with fail
          go_roundw
          case rel => exact ⟨k + 1, qf, qd + 1, qb, by omega, by omega, by go_num, by go_num, by go_num, by go_num, trivial, by omega, by omega, by omega, Lib.hid ⟨HF.out.1.symm, HF.out.2.1.symm, HF.out.2.2.symm⟩⟩
          case measure => simp [intOf]; omega
        | false =>
          rw [hdk] at x0
          have hf := files_file (g := g) (vis := liveK E k) hdk
          rw [← hls, ← HO.out.1, ← HO.out.2.1, ← HO.out.2.2, hs] at hf
          rw [hf.1, hf.2.1, hf.2.2] at hb3
          have HF := Lib.hid hf
          clear hf hls hdk hTk hnl hs hz
          go_wp2_with fail
          refine HL.out.mono ?_
          rintro e w2 ⟨rfl, rfl⟩
          go_wp2_with fail
          refine HL.out.mono ?_
          rintro e w3 ⟨rfl, rfl⟩
          go_wp2_with fail
          go_roundw
          case rel => exact ⟨k + 1, qf + 1, qd, qb + s.length, by omega, by omega, by go_num, by go_num, by go_num, by go_num, trivial, by omega, by omega, by omega, Lib.hid ⟨HF.out.1.symm, HF.out.2.1.symm, HF.out.2.2.symm⟩⟩
          case measure => simp [intOf]; omega
      · have zn : (nl : Int) ≤ 0 := by omega
        have hls : liveK E (k + 1) = liveK E k := by rw [HS.out, hnl, if_neg hz, List.append_nil]
        have HF : Hid (qf = filesN g (liveK E (k + 1)) ∧ qd = dirsN g (liveK E (k + 1)) ∧ qb = bytesN g (liveK E (k + 1))) := Lib.hid (by rw [hls]; exact HO.out)
        clear hls hTk hnl hs hz
        go_wp2_with fail
        refine HL.out.mono ?_
        rintro e w2 ⟨rfl, rfl⟩
        go_wp2_with fail
        refine HL.out.mono ?_
        rintro e w3 ⟨rfl, rfl⟩
        go_wp2_with fail
        go_roundw
        case rel => exact ⟨k + 1, qf, qd, qb, by omega, by omega, by go_num, by go_num, by go_num, by go_num, trivial, by omega, by omega, by omega, HF⟩
        case measure => simp [intOf]; omega
    · obtain rfl : k = n := by omega
      have HF : Hid (qf = countF g ∧ qd = countD g ∧ qb = countB g) := Lib.hid (by unfold countF countD countB; rw [← HEND.out]; exact HO.out)
      clear hlt
      go_wp2_with fail
      go_ret3
      exact ⟨cnt_ret (by rw [HF.out.1]) (by rw [HF.out.2.1]) (by rw [HF.out.2.2]), rfl⟩
end Go.Proofs.YtaccokghjpcijaaGreatDoor
set_option linter.unusedVariables false
set_option linter.unusedSimpArgs false
namespace Go.Proofs.YtaccokghjpcijaaGreatDoor
open Go Go.RowKit Pp Go.Proofs.YtaccokghjpcijaaGreatDoorW.PrintWords

/-! ### a tree and the document's, side by side; two such pairs -/
theorem Sim.krel {g gc : St} (s : Sim g gc) (h : Inv g) {E : List (Str × Nat)} {T : List (Bool × Str)} (r : KRel g E T) : KRel gc E T := by
  obtain ⟨⟨En, hR, he⟩, hl, ha⟩ := r
  exact ⟨⟨En, s.rel_s h hR, he⟩, by rw [s.next]; exact hl, fun i hi => by rw [s.dirs, s.bytes]; exact ha i (by rw [← s.next]; exact hi)⟩
/-- The document's lists behind at most k ops. -/
structure KP (k : Nat) (g : St) (E : List (Str × Nat)) (T : List (Bool × Str)) : Prop where
  rel : KRel g E T
  en : E.length ≤ k
  tn : T.length ≤ k + 1
  nm : ∀ x ∈ E, x.1.length ≤ 4096 * k
theorem new_kp : KP 0 newS [] [(true, [])] := ⟨new_krel, Nat.le_refl _, Nat.le_refl _, fun x hx => by cases hx⟩
theorem KP.sim {k : Nat} {g gc : St} {E : List (Str × Nat)} {T : List (Bool × Str)} (h : KP k g E T) (s : Sim g gc) (hI : Inv g) : KP k gc E T := ⟨s.krel hI h.rel, h.en, h.tn, h.nm⟩
/-- Behind Do of the document's tree. -/
def DoKP (k : Nat) (W : World) (G : Nat → Prop) (n0 kb : Nat) (r : St × Ans) (e : Ending) (W' : World) : Prop :=
  ∃ G' E' T' A c, e = .returned (ansV r.2 A c) ∧ KM W' G' n0 kb E' T' ∧ KP (k + 1) r.1 E' T' ∧ Ext G W G' W' ∧ Strs W' (.slice A r.2.names.length c) r.2.names
theorem kdo_kp {k : Nat} {W : World} {G : Nat → Prop} {n0 kb : Nat} {g : St} {E : List (Str × Nat)} {T : List (Bool × Str)} (h : KM W G n0 kb E T) (hn0 : n0 ≤ W.heap.size) (hp : KP k g E T) (hf : Fine k g) (hk : k ≤ 200) (o : Ask) (h1 : o.path.length ≤ 4096) (h2 : o.dst.length ≤ 4096) (h3 : o.data.length ≤ 1048576) {r : St × Ans} (hr : step g o = r) :
    Calls Tryz.prog 22 #[.pointer (some ⟨kb, 0, none⟩), opV o] W (DoKP k W G n0 kb r) := by
  subst hr
  have e1 := hp.en
  have e2 := hp.tn
  refine (kdo_calls h hn0 hp.rel hf.good.inv (by omega) (by omega) hp.nm (by omega) hf.good.inv.small (fun i => by have := hf.good.links i; omega) o h1 h2 h3).mono ?_
  rintro e W' ⟨E', T', ⟨G', A, c, rfl, hK, hX, hS, _⟩, hR, hE, hT, hn⟩
  exact ⟨G', E', T', A, c, rfl, hK, ⟨hR, by omega, by omega, fun x hx => by have := hn x hx; omega⟩, hX, hS⟩
theorem kdo_q {k : Nat} {W : World} {G : Nat → Prop} {n0 kb : Nat} {g : St} {E : List (Str × Nat)} {T : List (Bool × Str)} (h : KM W G n0 kb E T) (hn0 : n0 ≤ W.heap.size) (hp : KP k g E T) (hf : Fine k g) (hk : k ≤ 200) (q : OpP) (h1 : (askP q).path.length ≤ 4096) (h2 : (askP q).dst.length ≤ 4096) (h3 : (askP q).data.length ≤ 1048576) {r : St × Ans} (hr : step g (askP q) = r) :
    Calls Tryz.prog 22 #[.pointer (some ⟨kb, 0, none⟩), .agg #[.int .i64 q.f0, .string q.f1, .string q.f2, .int .i64 q.f3, .int .i64 q.f4, .string q.f5]] W (DoKP k W G n0 kb r) := by
  rw [← opV_askP]
  exact kdo_kp h hn0 hp hf hk (askP q) h1 h2 h3 hr
/-- A tree and the document's: they share nothing. -/
structure Duo (w0 W : World) (k : Nat) (F : Nat → Prop) (tb : Nat) (g : St) (G : Nat → Prop) (kb : Nat) (E : List (Str × Nat)) (T : List (Bool × Str)) : Prop where
  a : At w0 k W F tb g
  r : KM W G w0.heap.size kb E T
  dis : ∀ x, F x → ¬ G x
section
variable {w0 W W' : World} {k k' kc kc' : Nat} {F F' G G' Fc Fc' Gc Gc' U U' : Nat → Prop} {tb kb tc kw : Nat} {g g' gc gc' : St} {E E' Ew Ew' : List (Str × Nat)} {T T' Tw Tw' : List (Bool × Str)}
theorem Duo.lt (h : Duo w0 W k F tb g G kb E T) : ∀ b, Un F G b → b < W.heap.size := fun b hb => by
  rcases hb with hb | hb
  · exact h.a.ts.tree.2 b hb
  · exact (h.r.lt b hb).1
theorem Duo.more (h : Duo w0 W k F tb g G kb E T) (hb : Below W.heap.size W W') : Duo w0 W' k F tb g G kb E T := ⟨h.a.more hb, h.r.below hb, h.dis⟩
theorem Duo.doT (h : Duo w0 W k F tb g G kb E T) (hT : TS k' W' F' tb g') (hX : Ext F W F' W') : Duo w0 W' k' F' tb g' G kb E T ∧ Ext (Un F G) W (Un F' G) W' := by
  refine ⟨⟨h.a.step hT hX, h.r.same (fun b hb => hX.fr.block b (h.r.lt b hb).1 (fun e => h.dis b e hb)), fun x hx hg => ?_⟩, hX.fr.mono (fun b _ e => .inl e), fun b hb => ?_⟩
  · rcases hX.new x hx with e | e
    · exact h.dis x e hg
    · have := (h.r.lt x hg).1; omega
  · rcases hb with hb | hb
    · rcases hX.new b hb with e | e
      · exact .inl (.inl e)
      · exact .inr e
    · exact .inl (.inr hb)
theorem Duo.doK (h : Duo w0 W k F tb g G kb E T) (hK : KM W' G' w0.heap.size kb E' T') (hX : Ext G W G' W') : Duo w0 W' k F tb g G' kb E' T' ∧ Ext (Un F G) W (Un F G') W' := by
  obtain ⟨hb, _⟩ := hX.below h.a.below.size (fun b hb => (h.r.lt b hb).2)
  refine ⟨⟨⟨h.a.ts.same (fun b hb => hX.fr.block b (h.a.ts.tree.2 b hb) (fun e => h.dis b hb e)) hX.fr.size, h.a.below.trans hb, h.a.low⟩, hK, fun x hx hg => ?_⟩, hX.fr.mono (fun b _ e => .inr e), fun b hb => ?_⟩
  · rcases hX.new x hg with e | e
    · exact h.dis x hx e
    · have := h.a.ts.tree.2 x hx; omega
  · rcases hb with hb | hb
    · exact .inl (.inl hb)
    · rcases hX.new b hb with e | e
      · exact .inl (.inr e)
      · exact .inr e
theorem Duo.keep (h : Duo w0 W k F tb g G kb E T) (hX : Ext U W U' W') (hb : Below w0.heap.size W W') (hd : ∀ x, Un F G x → ¬ U x) : Duo w0 W' k F tb g G kb E T ∧ ∀ x, Un F G x → ¬ U' x := by
  have hs : ∀ b, Un F G b → W'.heap[b]? = W.heap[b]? := fun b hb => hX.fr.block b (h.lt b hb) (hd b hb)
  refine ⟨⟨⟨h.a.ts.same (fun b hb => hs b (.inl hb)) hX.fr.size, h.a.below.trans hb, h.a.low⟩, h.r.same (fun b hb => hs b (.inr hb)), h.dis⟩, fun x hx hu => ?_⟩
  rcases hX.new x hu with e | e
  · exact hd x hx e
  · have := h.lt x hx; omega
/-- Two pairs. -/
structure Four (w0 W : World) (k : Nat) (F : Nat → Prop) (tb : Nat) (g : St) (G : Nat → Prop) (kb : Nat) (E : List (Str × Nat)) (T : List (Bool × Str)) (kc : Nat) (Fc : Nat → Prop) (tc : Nat) (gc : St) (Gc : Nat → Prop) (kw : Nat) (Ew : List (Str × Nat)) (Tw : List (Bool × Str)) : Prop where
  a : Duo w0 W k F tb g G kb E T
  b : Duo w0 W kc Fc tc gc Gc kw Ew Tw
  dis : ∀ x, Un F G x → ¬ Un Fc Gc x
theorem Four.swap (h : Four w0 W k F tb g G kb E T kc Fc tc gc Gc kw Ew Tw) : Four w0 W kc Fc tc gc Gc kw Ew Tw k F tb g G kb E T := ⟨h.b, h.a, fun x hx hf => h.dis x hf hx⟩
theorem Four.more (h : Four w0 W k F tb g G kb E T kc Fc tc gc Gc kw Ew Tw) (hb : Below W.heap.size W W') : Four w0 W' k F tb g G kb E T kc Fc tc gc Gc kw Ew Tw := ⟨h.a.more hb, h.b.more hb, h.dis⟩
theorem Four.left (h : Four w0 W k F tb g G kb E T kc Fc tc gc Gc kw Ew Tw) (hD : Duo w0 W' k' F' tb g' G' kb E' T') (hX : Ext (Un F G) W (Un F' G') W') : Four w0 W' k' F' tb g' G' kb E' T' kc Fc tc gc Gc kw Ew Tw := by
  obtain ⟨hb, _⟩ := hX.below h.a.a.below.size (fun b hb => by
    rcases hb with hb | hb
    · exact h.a.a.low b hb
    · exact (h.a.r.lt b hb).2)
  obtain ⟨h1, h2⟩ := h.b.keep hX hb (fun x hx hf => h.dis x hf hx)
  exact ⟨hD, h1, fun x hx hf => h2 x hf hx⟩
theorem Four.doT (h : Four w0 W k F tb g G kb E T kc Fc tc gc Gc kw Ew Tw) (hT : TS k' W' F' tb g') (hX : Ext F W F' W') : Four w0 W' k' F' tb g' G kb E T kc Fc tc gc Gc kw Ew Tw := h.left (h.a.doT hT hX).1 (h.a.doT hT hX).2
theorem Four.doK (h : Four w0 W k F tb g G kb E T kc Fc tc gc Gc kw Ew Tw) (hK : KM W' G' w0.heap.size kb E' T') (hX : Ext G W G' W') : Four w0 W' k F tb g G' kb E' T' kc Fc tc gc Gc kw Ew Tw := h.left (h.a.doK hK hX).1 (h.a.doK hK hX).2
/-- New pair beside the old. -/
theorem Duo.start (hA : At w0 k W F tb g) (hK : KM W' G w0.heap.size kb E T) (hB : Below W.heap.size W W') (hG : ∀ b, G b → W.heap.size ≤ b) : Duo w0 W' k F tb g G kb E T := ⟨hA.more hB, hK, fun x hx hg => by have := hA.ts.tree.2 x hx; have := hG x hg; omega⟩
/-- A copy of the tree, then one of the document's: behind both the two pairs share nothing. -/
theorem Four.start {W1 W2 : World} (h : Duo w0 W k F tb g G kb E T) (hC : TS k W1 Fc tc gc) (hB1 : Below W.heap.size W W1) (hF : ∀ b, Fc b → W.heap.size ≤ b) (hK : KM W2 Gc w0.heap.size kw Ew Tw) (hB2 : Below W1.heap.size W1 W2) (hG : ∀ b, Gc b → W1.heap.size ≤ b) :
    Four w0 W2 k F tb g G kb E T k Fc tc gc Gc kw Ew Tw := by
  have hA : At w0 k W1 Fc tc gc := ⟨hC, bstep h.a.below hB1, fun b hb => Nat.le_trans h.a.below.size (hF b hb)⟩
  refine ⟨h.more (bstep hB1 hB2), Duo.start hA hK hB2 hG, fun x hx hc => ?_⟩
  have h0 := h.lt x hx
  rcases hc with hc | hc
  · have := hF x hc; omega
  · have := hG x hc; have := hB1.size; omega
end
end Go.Proofs.YtaccokghjpcijaaGreatDoor
