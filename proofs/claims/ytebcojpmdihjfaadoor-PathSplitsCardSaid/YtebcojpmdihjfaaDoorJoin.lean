import Derived.Test.YtebcojpmdihjfaaDoorSplit
import Derived.Deep.RegionHeld3
import Derived.Deep.DeepFit
set_option linter.unusedVariables false
set_option linter.unusedSimpArgs false
namespace Go.Proofs.YtebcojpmdihjfaaDoor
open Go Go.RowKit Go.Shelf Pp Go.Proofs.YtebcojpmdihjfaaDoorW.PrintWords

theorem Strs.cells {W : World} {v : Value} {ns : List Str} (h : Strs W v ns) (hne : ns ≠ []) : ∃ bk o c, v = .slice (some ⟨bk, o, none⟩) ns.length c ∧ ns.length ≤ c ∧ bk < W.heap.size ∧ ∀ j x, ns[j]? = some x → W.cell? ⟨bk, o + j, none⟩ = some (.string (mk x)) := by
  obtain ⟨A, c, hv, hc, hC⟩ := h
  have hpos : 0 < ns.length := by cases ns with | nil => exact absurd rfl hne | cons a t => simp
  obtain ⟨⟨b, o, sp⟩, rfl, hcell⟩ := hC.2.2 hpos
  have hs : (Kd.string).sz = 1 := rfl
  have all : ∀ j x, ns[j]? = some x → W.cell? ((⟨b, o, sp⟩ : Addr).add j) = some (.string (mk x)) := by
    intro j x hx
    obtain ⟨cc, _, hk, hcc⟩ := hcell j (mk x) (by simp [List.getElem?_map, hx])
    have e : cc = [.string (mk x)] := hk
    subst e
    have := hcc 0 _ rfl
    rwa [hs, Nat.mul_one, Nat.add_zero] at this
  have h0 := all 0 (ns[0]'hpos) (by simp)
  have hsp : sp = none := by
    have := World.cell?_spot h0
    simpa [Addr.add] using this
  subst hsp
  refine ⟨b, o, c, hv, hc, ?_, ?_⟩
  · have := World.block_lt_of_cell? W _ h0
    simpa [Addr.add] using this
  · intro j x hx
    have := all j x hx
    unfold Addr.add at this
    split at this
    · rename_i hj
      subst hj
      simpa using this
    · exact this
theorem Strs.mk_cells {W : World} {bk o c : Nat} {ns : List Str} (hc : ns.length ≤ c) (hm : ns.length ≤ 9223372036854775807) (h : ∀ j x, ns[j]? = some x → W.cell? ⟨bk, o + j, none⟩ = some (.string (mk x))) : Strs W (.slice (some ⟨bk, o, none⟩) ns.length c) ns := by
  refine ⟨_, c, rfl, hc, by simp, hm, fun _ => ⟨_, rfl, fun j p hj => ⟨[.string p], rfl, rfl, fun i u hu => ?_⟩⟩⟩
  have hi : i = 0 := by
    rcases Nat.eq_zero_or_pos i with h0 | h0
    · exact h0
    · rw [List.getElem?_eq_none (by simp; omega)] at hu
      cases hu
  subst hi
  have hu' : u = .string p := by simpa using hu.symm
  subst hu'
  have hs : (Kd.string).sz = 1 := rfl
  rw [hs, Nat.mul_one, Nat.add_zero]
  simp only [List.getElem?_map] at hj
  cases e : ns[j]? with
  | none => rw [e] at hj; cases hj
  | some x =>
    rw [e] at hj
    have hp : mk x = p := by simpa using hj
    have := h j x e
    rw [hp] at this
    unfold Addr.add
    split
    · rename_i hj0
      subst hj0
      simpa using this
    · exact this
theorem Strs.small {W : World} {v : Value} {ns : List Str} (h : Strs W v ns) : ns.length ≤ 9223372036854775807 := by
  obtain ⟨A, c, hv, hc, hC⟩ := h
  exact hC.2.1
theorem mk_append (a b : Str) : mk a ++ mk b = mk (a ++ b) := by
  rw [← mk_data (mk a ++ mk b)]
  congr 1

/-- strings.Join, at '/'. -/
theorem sjoin (v : Value) (ns : List Str) (w : World) (h : Strs w v ns) (hb : (join ns).length ≤ 70368744177664) (hn : ns.length ≤ 140737488355328) : Calls Tryd.prog 24 #[v, .string ⟨#[47]⟩] w fun e w' => e = .returned (.string (mk (Lib.join ns [47]))) ∧ Below w.heap.size w w' := by
  by_cases hne : ns = []
  · subst hne
    obtain ⟨A, c, rfl, _, _⟩ := h
    refine (Tryd.strings_Join_none A c ⟨#[47]⟩ w).mono ?_
    rintro e w' ⟨rfl, rfl⟩
    exact ⟨rfl, Below.refl _ _⟩
  · obtain ⟨bk, o, c, rfl, hc, hbk, hcell⟩ := h.cells hne
    have hmap : (ns.map mk).map (fun x => x.data.toList) = ns := by rw [List.map_map]; simp [Function.comp_def, mk_toList]
    have hlen : (ns.map mk).length = ns.length := by simp
    have := Tryd.strings_Join bk o c (ns.map mk) ⟨#[47]⟩ w (fun j x hx => by
      simp only [List.getElem?_map] at hx
      cases e : ns[j]? with
      | none => rw [e] at hx; cases hx
      | some y =>
        rw [e] at hx
        have : mk y = x := by simpa using hx
        rw [← this]
        exact hcell j y e) hbk (by omega) (by omega) (by rw [hmap]; unfold join at hb; simp at hb ⊢; omega)
    rw [hmap, hlen] at this
    exact this

set_option maxRecDepth 100000 in
set_option maxHeartbeats 1000000 in
theorem join_calls (v : Value) (ns : List Str) (w : World) (h : Strs w v ns) (hb : (join ns).length ≤ 70368744177664) (hn : ns.length ≤ 140737488355328) : Calls Tryd.prog 17 #[v] w fun e w' => e = .returned (.string (mk (join ns))) ∧ Below w.heap.size w w' := by
  have hs := sjoin v ns w h hb hn
  have HS := Lib.hid hs
  have HB := Lib.hid (show (mk (Lib.join ns [47])).size ≤ 70368744177664 by rw [mk_size]; unfold join at hb; simp at hb; omega)
  obtain ⟨A, c, rfl, _, _⟩ := h
  clear hs
  go_enter Tryd.func17, Tryd.ntmps17
  go_wp2_with fail
  refine HS.out.mono ?_
  rintro e w' ⟨rfl, hB⟩
  have hb' := HB.out
  have HX := Lib.hid hB
  clear hB
  go_wp2_with fail
  go_ret
  exact ⟨by rw [show (⟨#[47]⟩ : ByteArray) ++ mk (Lib.join ns [47]) = mk (47 :: Lib.join ns [47]) from mk_append [47] _]; rfl, HX.out⟩

def parentV (l : Str) : Str × Str × Int := match split l with
  | none => ([], [], 12)
  | some ns => match ns.getLast? with
    | none => ([], [], 1)
    | some x => (join ns.dropLast, x, 0)
def pv (p : Str × Str × Int) : Value := .tuple #[.string (mk p.1), .string (mk p.2.1), .int .i64 p.2.2]
theorem parentV_none {l : Str} (h : split l = none) : parentV l = ([], [], 12) := by unfold parentV; rw [h]
theorem parentV_nil {l : Str} (h : split l = some []) : parentV l = ([], [], 1) := by unfold parentV; rw [h]; rfl
theorem parentV_snoc {l : Str} {ini : List Str} {x : Str} (h : split l = some (ini ++ [x])) : parentV l = (join ini, x, 0) := by unfold parentV; rw [h]; simp
theorem snoc_of {α : Type} {l : List α} (h : l ≠ []) : ∃ ini x, l = ini ++ [x] := ⟨l.dropLast, l.getLast h, (List.dropLast_concat_getLast h).symm⟩
theorem join_snoc_length (ini : List Str) (x : Str) : (join ini).length ≤ (join (ini ++ [x])).length := by
  cases ini with
  | nil => unfold join; simp [Lib.join_nil]
  | cons a t =>
    unfold join
    rw [List.cons_append, Lib.join_cons, Lib.join_cons]
    simp [Lib.joinTail]

theorem bstep {w W W' : World} (h : Below w.heap.size w W) (k : Below W.heap.size W W') : Below w.heap.size w W' := h.trans (k.mono h.size)
theorem heldS {w1 W : World} {bk o : Nat} {x : Value} (h : w1.cell? ⟨bk, o, none⟩ = some x) (hb : Below w1.heap.size w1 W) : Below w1.heap.size w1 W ∧ W.cell? ⟨bk, o, none⟩ = some x := ⟨hb, pw_cell_below hb h⟩

set_option maxRecDepth 100000 in
set_option maxHeartbeats 1000000 in
theorem parent_calls (l : Str) (hl : l.length ≤ 4398046511104) (w : World) : Calls Tryd.prog 12 #[.string (mk l)] w fun e w' => e = .returned (pv (parentV l)) ∧ Below w.heap.size w w' := by
  have HC := Lib.hid (split_calls l hl w)
  go_enter Tryd.func12, Tryd.ntmps12
  go_wp2_with fail
  refine HC.out.mono ?_
  rintro e w1 ⟨hB, ⟨hs, rfl⟩ | ⟨ns, v, hs, rfl, hst⟩⟩
  · have HB := Lib.hid hB
    have HS := Lib.hid hs
    clear hB hs HC
    go_wp2_with fail
    go_ret3
    exact ⟨by rw [parentV_none HS.out]; rfl, HB.out⟩
  · by_cases hne : ns = []
    · subst hne
      obtain ⟨A, c, rfl, _, _⟩ := hst
      have HB := Lib.hid hB
      have HS := Lib.hid hs
      clear hB hs HC
      go_wp2_with fail
      go_ret3
      exact ⟨by rw [parentV_nil HS.out]; rfl, HB.out⟩
    · obtain ⟨ini, x, rfl⟩ := snoc_of hne
      obtain ⟨bk, o, c, rfl, hc, hbk, hcell⟩ := hst.cells hne
      have hx := hcell ini.length x (by simp)
      have hjl := split_length hs
      have hjj : (join (ini ++ [x])).length = l.length := by rw [join_split hs]
      have hj2 := join_snoc_length ini x
      have HP := Lib.hid (parentV_snoc hs)
      have hini : Strs w1 (.slice (some ⟨bk, o, none⟩) ini.length c) ini := Strs.mk_cells (by simp at hc; omega) (by simp at hjl; omega) (fun j y hy => hcell j y (by
        have hlt : j < ini.length := by
          rcases Nat.lt_or_ge j ini.length with h | h
          · exact h
          · rw [List.getElem?_eq_none h] at hy; cases hy
        rw [List.getElem?_append_left hlt, hy]))
      have HI := Lib.hid hini
      have HB := Lib.hid hB
      have HX := Lib.hid hx
      obtain ⟨m, hm⟩ : ∃ m, ini.length = m := ⟨_, rfl⟩
      have hlen : (ini ++ [x]).length = m + 1 := by simp [hm]
      rw [hlen] at hc ⊢
      rw [hm] at HI HX
      have hmb : (m : Int) ≤ 4398046511104 := by simp at hjl; omega
      have HJ := Lib.hid (show (join ini).length ≤ 70368744177664 by omega)
      have HM := Lib.hid hm
      clear hini hB hx hs hst hcell hjl hjj hj2 hlen hm hne HC
      go_wp2_with fail
      have z1 : (0 : Int) ≤ (m : Int) := Int.natCast_nonneg _
      have z2 : (m : Int) ≤ (c : Int) := by omega
      have z3 : (m : Int) < (m : Int) + 1 := by omega
      go_region_held3 (fun W => Below w1.heap.size w1 W ∧ W.cell? ⟨bk, o + m, none⟩ = some (.string (mk x))) (first | exact heldS HX.out ((Below.refl _ _).drew) | exact heldS HX.out (bstep (And.left (by assumption)) (by assumption))) (first | (go_at_call 17; refine (join_calls _ ini _ (HI.out.below (And.left (by assumption))) HJ.out (by have := HM.out; omega)).mono ?_; rintro e w2 ⟨rfl, hB2⟩))
      rename_i hHeld
      have HB2 := Lib.hid (HB.out.trans (hHeld.1.mono HB.out.size))
      clear hHeld hB2
      go_wp2_with fail
      go_ret3
      exact ⟨by rw [HP.out]; rfl, HB2.out⟩

/-! ### within -/
theorem within_none1 {a b : Str} (h : split a = none) : within a b = false := by unfold within; rw [h]
theorem within_none2 {a b : Str} (h : split b = none) : within a b = false := by unfold within; rw [h]; cases split a <;> rfl
theorem within_some {a b : Str} {k l : List Str} (h : split a = some k) (h' : split b = some l) : within a b = k.isPrefixOf l := by unfold within; rw [h, h']
theorem prefix_false {k l : List Str} (h : l.length < k.length) : k.isPrefixOf l = false := by
  cases e : k.isPrefixOf l with
  | false => rfl
  | true =>
    have := (List.isPrefixOf_iff_prefix.1 e).length_le
    omega
theorem prefix_take {k l : List Str} (h : k.length ≤ l.length) : k.isPrefixOf l = decide (k.map mk = (l.take k.length).map mk) := by
  have hinj : ∀ a b : List Str, a.map mk = b.map mk → a = b := by
    intro a b e
    have := congrArg (List.map fun x : ByteArray => x.data.toList) e
    simpa [List.map_map, Function.comp_def, mk_toList] using this
  rw [Bool.eq_iff_iff, List.isPrefixOf_iff_prefix, decide_eq_true_eq]
  constructor
  · intro hp
    rw [List.prefix_iff_eq_take.1 hp]
    simp
  · intro e
    have := hinj _ _ e
    rw [this]
    exact List.take_prefix _ _
theorem Strs.take {W : World} {bk o c : Nat} {ns : List Str} (h : Strs W (.slice (some ⟨bk, o, none⟩) ns.length c) ns) (m : Nat) (hm : m ≤ ns.length) (hne : ns ≠ []) : Strs W (.slice (some ⟨bk, o, none⟩) m c) (ns.take m) := by
  obtain ⟨bk', o', c', hv, hc, hbk, hcell⟩ := h.cells hne
  injection hv with e1 _ e2
  injection e1 with e1
  injection e1 with e1 e3
  subst e1 e2 e3
  have hl : (ns.take m).length = m := by rw [List.length_take]; omega
  have := Strs.mk_cells (W := W) (bk := bk) (o := o) (c := c) (ns := ns.take m) (by omega) (by have := h.small; omega) (fun j x hj => hcell j x (by
    have hlt : j < m := by
      rcases Nat.lt_or_ge j m with h | h
      · exact h
      · rw [List.getElem?_eq_none (by omega)] at hj; cases hj
    rwa [List.getElem?_take_of_lt hlt] at hj))
  rwa [hl] at this
theorem Strs.take' {W : World} {A : Option Addr} {c : Nat} {ns : List Str} (h : Strs W (.slice A ns.length c) ns) (m : Nat) (hm : m ≤ ns.length) : Strs W (.slice A m c) (ns.take m) := by
  by_cases hne : ns = []
  · subst hne
    have : m = 0 := by simpa using hm
    subst this
    exact h
  · obtain ⟨bk, o, c', hv, _⟩ := h.cells hne
    injection hv with e1 _ e2
    subst e1
    exact h.take m hm hne
/-- slices.Equal at strings. -/
theorem equal_calls (v u : Value) (k l : List Str) (w : World) (hv : Strs w v k) (hu : Strs w u l) (hlen : k.length = l.length) : Calls Tryd.prog 23 #[v, u] w fun e w' => e = .returned (.bool (decide (k.map mk = l.map mk))) ∧ Below w.heap.size w w' := by
  by_cases hne : k = []
  · subst hne
    have hl : l = [] := List.eq_nil_of_length_eq_zero hlen.symm
    subst hl
    obtain ⟨A, c, rfl, _, _⟩ := hv
    obtain ⟨A', c', rfl, _, _⟩ := hu
    refine (Tryd.slices_Equal_string_empty A A' c 0 c' w (by omega)).mono ?_
    rintro e w' ⟨rfl, rfl⟩
    exact ⟨rfl, Below.refl _ _⟩
  · have hne' : l ≠ [] := fun e => hne (List.eq_nil_of_length_eq_zero (by rw [hlen, e]; rfl))
    have s1 := hv.small
    have s2 := hu.small
    obtain ⟨b1, o1, c1, rfl, _, _, h1⟩ := hv.cells hne
    obtain ⟨b2, o2, c2, rfl, _, _, h2⟩ := hu.cells hne'
    have conv : ∀ (ns : List Str) (b o : Nat), (∀ j x, ns[j]? = some x → w.cell? ⟨b, o + j, none⟩ = some (.string (mk x))) → ∀ j, j < (ns.map mk).length → w.cell? ⟨b, o + j, none⟩ = some (.string ((ns.map mk).getD j ByteArray.empty)) := by
      intro ns b o h j hj
      have hj' : j < ns.length := by simpa using hj
      rw [h j ns[j] (by simp [hj'])]
      simp [List.getD_eq_getElem?_getD, hj']
    have := Tryd.slices_Equal_string b1 o1 k.length c1 b2 o2 l.length c2 (k.map mk) (l.map mk) w (by simp) (by simp) (by omega) (by omega) (conv k b1 o1 h1) (conv l b2 o2 h2)
    refine this.mono ?_
    rintro e w' ⟨rfl, q, rfl⟩
    refine ⟨?_, pw_below_drewN (Below.refl _ _) q⟩
    have e1 : (k.map mk).take k.length = k.map mk := List.take_of_length_le (by simp)
    have e2 : (l.map mk).take l.length = l.map mk := List.take_of_length_le (by simp)
    rw [e1, e2]

set_option maxRecDepth 100000 in
set_option maxHeartbeats 1000000 in
theorem within_calls (a b : Str) (ha : a.length ≤ 4398046511104) (hb : b.length ≤ 4398046511104) (w : World) : Calls Tryd.prog 15 #[.string (mk a), .string (mk b)] w fun e w' => e = .returned (.bool (within a b)) ∧ Below w.heap.size w w' := by
  have HC := Lib.hid (split_calls a ha w)
  have HD := Lib.hid (fun w1 => split_calls b hb w1)
  go_enter Tryd.func15, Tryd.ntmps15
  go_wp2_with fail
  refine HC.out.mono ?_
  rintro e w1 ⟨hB, ⟨hs, rfl⟩ | ⟨k, v, hs, rfl, hst⟩⟩
  · have HB := Lib.hid hB
    have HS := Lib.hid hs
    clear hB hs HC
    go_wp2_with fail
    refine (HD.out _).mono ?_
    rintro e w2 ⟨hB, ⟨hs, rfl⟩ | ⟨l, u, hs, rfl, hst⟩⟩
    · have HB2 := Lib.hid (HB.out.trans (hB.mono HB.out.size))
      clear hB hs HD HB
      go_wp2_with fail
      go_ret
      exact ⟨ret_bool (within_none1 HS.out).symm, HB2.out⟩
    · have HB2 := Lib.hid (HB.out.trans (hB.mono HB.out.size))
      obtain ⟨A, c, rfl, _, _⟩ := hst
      clear hB hs HD HB
      go_wp2_with fail
      go_ret
      exact ⟨ret_bool (within_none1 HS.out).symm, HB2.out⟩
  · have HB := Lib.hid hB
    have HS := Lib.hid hs
    have HV := Lib.hid hst
    obtain ⟨A, c, rfl, hkc, _⟩ := hst
    clear hB hs HC
    go_wp2_with fail
    refine (HD.out _).mono ?_
    rintro e w2 ⟨hB, ⟨hs, rfl⟩ | ⟨l, u, hs, rfl, hst⟩⟩
    · have HB2 := Lib.hid (HB.out.trans (hB.mono HB.out.size))
      have HS2 := Lib.hid hs
      clear hB hs HD HB
      go_wp2_with fail
      go_ret
      exact ⟨ret_bool (within_none2 HS2.out).symm, HB2.out⟩
    · have HB2 := Lib.hid (HB.out.trans (hB.mono HB.out.size))
      have HS2 := Lib.hid hs
      have HV2 := Lib.hid (HV.out.below hB)
      have HU := Lib.hid hst
      obtain ⟨A', c', rfl, hlc, _⟩ := hst
      have b1 := Lib.hid HV.out.small
      have b2 := Lib.hid HU.out.small
      clear hB hs HD HB HV
      have HE := Lib.hid (within_some HS.out HS2.out)
      by_cases hlt : k.length ≤ l.length
      · have z0 : (k.length : Int) ≤ (l.length : Int) := by omega
        have z1 : (k.length : Int) ≤ (c' : Int) := by omega
        have HK := Lib.hid (HU.out.take' k.length hlt)
        have hl2 := Lib.hid (show k.length = (l.take k.length).length by rw [List.length_take]; omega)
        clear HU
        go_wp2_with fail
        refine (equal_calls _ _ k (l.take k.length) _ HV2.out HK.out hl2.out).mono ?_
        rintro e w3 ⟨rfl, hB3⟩
        have HB3 := Lib.hid (HB2.out.trans (hB3.mono HB2.out.size))
        clear hB3
        go_wp2_with fail
        go_ret
        exact ⟨ret_bool (by rw [HE.out, prefix_take hlt, List.map_take]), HB3.out⟩
      · have z0 : (l.length : Int) < (k.length : Int) := by omega
        go_wp2_with fail
        go_ret
        exact ⟨ret_bool (by rw [HE.out, prefix_false (by omega)]), HB2.out⟩
end Go.Proofs.YtebcojpmdihjfaaDoor
