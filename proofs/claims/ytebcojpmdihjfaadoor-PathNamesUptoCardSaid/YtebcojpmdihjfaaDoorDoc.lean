import Derived.Test.YtebcojpmdihjfaaDoorRef
set_option linter.unusedVariables false
set_option linter.unusedSimpArgs false
namespace Go.Proofs.YtebcojpmdihjfaaDoor
open Go Go.RowKit Pp Go.Proofs.YtebcojpmdihjfaaDoorW.PrintWords PPathSplits

/-! ### contracts of the document's functions, and of path's, in one form -/
theorem Strs.kd {W : World} {v : Value} {ns : List Str} (h : Strs W v ns) : ∃ A c, v = .slice A ns.length c ∧ ns.length ≤ c ∧ Kd.C Kd.string W A ns.length (ns.map mk) := h
theorem Strs.of_R {W : World} {base e : Nat} {ok : Nat → Prop} {v : Value} {ns : List Str} (h : Kd.R Kd.string e W base ok v (ns.map mk)) : Strs W v ns := by
  obtain ⟨A, c, rfl, hc, hC⟩ := Kd.R_reads h
  rw [List.length_map] at hc hC ⊢
  exact ⟨A, c, rfl, hc, hC⟩
theorem same_calls (v u : Value) (k l : List Str) (w : World) (hk : k.length ≤ 1099511627776) (hv : Strs w v k) (hu : Strs w u l) : Calls Tryd.prog 14 #[v, u] w fun e w' => e = .returned (.bool (decide (k = l))) ∧ Below w.heap.size w w' := by
  obtain ⟨A, c, rfl, hc, hC⟩ := hv
  obtain ⟨A', c', rfl, hc', hC'⟩ := hu
  have := permafrostref01_Same.calls (k.length + 1) A c (k.map mk) A' c' (l.map mk) _ w (by rw [List.length_map]; exact hC) (by rw [List.length_map]; exact hc) (by rw [List.length_map]; exact hC') (by rw [List.length_map]; exact hc') (same_ok k l hk _ (by omega))
  rw [List.length_map, List.length_map] at this
  refine this.mono ?_
  rintro e w' ⟨rfl, hD⟩
  exact ⟨rfl, hD.below⟩
theorem split_good (l : Str) (ns : List Str) (hs : split l = some ns) (hl : l.length ≤ 4398046511104) (w : World) : Calls Tryd.prog 10 #[.string (mk l)] w fun e w' => ∃ v, e = .returned (.tuple #[v, .int .i64 0]) ∧ Strs w' v ns ∧ Below w.heap.size w w' := by
  refine (split_calls l hl w).mono ?_
  rintro e w' ⟨hB, ⟨hs', rfl⟩ | ⟨ns', v, hs', rfl, hst⟩⟩
  · rw [hs] at hs'; cases hs'
  · rw [hs] at hs'; cases hs'
    exact ⟨v, rfl, hst, hB⟩
theorem split_none (l : Str) (hs : split l = none) (hl : l.length ≤ 4398046511104) (w : World) : Calls Tryd.prog 10 #[.string (mk l)] w fun e w' => e = .returned (.tuple #[.slice none 0 0, .int .i64 12]) ∧ Below w.heap.size w w' := by
  refine (split_calls l hl w).mono ?_
  rintro e w' ⟨hB, ⟨hs', rfl⟩ | ⟨ns', v, hs', rfl, hst⟩⟩
  · exact ⟨rfl, hB⟩
  · rw [hs] at hs'; cases hs'
/-- The names that Split answers (none if it is no path), and its error. -/
def namesV (l : Str) : List Str := (split l).getD []
def errV (l : Str) : Int := if (split l).isSome then 0 else 12
theorem split_any (l : Str) (hl : l.length ≤ 4398046511104) (w : World) : Calls Tryd.prog 10 #[.string (mk l)] w fun e w' => ∃ v, e = .returned (.tuple #[v, .int .i64 (errV l)]) ∧ Strs w' v (namesV l) ∧ Below w.heap.size w w' := by
  refine (split_calls l hl w).mono ?_
  rintro e w' ⟨hB, ⟨hs', rfl⟩ | ⟨ns', v, hs', rfl, hst⟩⟩
  · refine ⟨_, by unfold errV; rw [hs']; rfl, ?_, hB⟩
    unfold namesV; rw [hs']
    exact ⟨none, 0, rfl, Nat.le_refl _, rfl, by simp, fun h => by simp at h⟩
  · refine ⟨v, by unfold errV; rw [hs']; rfl, ?_, hB⟩
    unfold namesV; rw [hs']
    exact hst
theorem splitV_eq (l : Str) : splitV l = ((namesV l).map mk, errV l) := by
  unfold splitV namesV errV
  cases split l <;> rfl
theorem refsplit_calls (l : Str) (hl : l.length ≤ 1099511627776) (w : World) : Calls Tryd.prog 11 #[.string (mk l)] w fun e w' => ∃ v, e = .returned (.tuple #[v, .int .i64 (errV l)]) ∧ Strs w' v (namesV l) ∧ Below w.heap.size w w' := by
  have h := refsplit_ok l hl (3 * l.length + 11) (by omega)
  rw [splitV_eq] at h
  refine (permafrostref16_Split.calls _ (mk l) _ _ w h).mono ?_
  rintro e w' ⟨v, rfl, hR, hB⟩
  exact ⟨v, rfl, Strs.of_R hR, hB⟩
theorem refjoin_calls (v : Value) (ns : List Str) (w : World) (hv : Strs w v ns) (hn : ns.length ≤ 1099511627776) (hb : (join ns).length ≤ 1099511627776) : Calls Tryd.prog 18 #[v] w fun e w' => e = .returned (.string (mk (join ns))) ∧ Below w.heap.size w w' := by
  obtain ⟨A, c, rfl, hc, hC⟩ := hv
  have := permafrostref16_Join.calls (ns.length + 1) A c (ns.map mk) _ w (by rw [List.length_map]; exact hC) (by rw [List.length_map]; exact hc) (refjoin_ok ns hn hb _ (by omega))
  rw [List.length_map] at this
  refine this.mono ?_
  rintro e w' ⟨rfl, hD⟩
  exact ⟨rfl, hD.below⟩
theorem refparent_calls (l : Str) (hl : l.length ≤ 1099511627776) (w : World) : Calls Tryd.prog 13 #[.string (mk l)] w fun e w' => e = .returned (pv (parentV l)) ∧ Below w.heap.size w w' :=
  permafrostref16_Parent.calls _ (mk l) _ _ _ w (refparent_ok l hl (3 * l.length + 11) (by omega))
theorem refwithin_calls (a b : Str) (ha : a.length ≤ 1099511627776) (hb : b.length ≤ 1099511627776) (w : World) : Calls Tryd.prog 16 #[.string (mk a), .string (mk b)] w fun e w' => e = .returned (.bool (within a b)) ∧ Below w.heap.size w w' :=
  permafrostref16_Within.calls _ (mk a) (mk b) _ w (refwithin_ok a b ha hb (3 * a.length + 3 * b.length + 11) (by omega) (by omega))
theorem parent_lit (l p n : Str) (x : Int) (h : parentV l = (p, n, x)) (hl : l.length ≤ 4398046511104) (w : World) : Calls Tryd.prog 12 #[.string (mk l)] w fun e w' => e = .returned (.tuple #[.string (mk p), .string (mk n), .int .i64 x]) ∧ Below w.heap.size w w' := by
  have := parent_calls l hl w
  rw [h] at this
  exact this
theorem within_lit (a b : Str) (x : Bool) (h : within a b = x) (ha : a.length ≤ 4398046511104) (hb : b.length ≤ 4398046511104) (w : World) : Calls Tryd.prog 15 #[.string (mk a), .string (mk b)] w fun e w' => e = .returned (.bool x) ∧ Below w.heap.size w w' := by
  have := within_calls a b ha hb w
  rw [h] at this
  exact this
theorem join_lit (v : Value) (ns : List Str) (s : Str) (hj : join ns = s) (w : World) (h : Strs w v ns) (hb : s.length ≤ 70368744177664) (hn : ns.length ≤ 140737488355328) : Calls Tryd.prog 17 #[v] w fun e w' => e = .returned (.string (mk s)) ∧ Below w.heap.size w w' := by
  subst hj
  exact join_calls v ns w h hb hn
theorem Strs.nil (W : World) (c : Nat) (A : Option Addr) : Strs W (.slice A 0 c) [] := ⟨A, c, rfl, Nat.zero_le _, rfl, by simp, fun h => by simp at h⟩

theorem take_all {ns : List Str} {k : Nat} {y : Str} {P : Str → Prop} (h : ∀ x ∈ ns.take k, P x) (hy : ns[k]? = some y) (hp : P y) : ∀ x ∈ ns.take (k + 1), P x := by
  intro x hx
  rw [List.take_add_one, hy] at hx
  rcases List.mem_append.1 hx with hx | hx
  · exact h x hx
  · have : x = y := by simpa using hx
    rw [this]
    exact hp
theorem flat_bound {b : Nat} (ns : List Str) (h : ∀ x ∈ ns, x.length ≤ b) : (joinFlat ns).length ≤ ns.length * (b + 1) := by
  induction ns with
  | nil => simp [joinFlat]
  | cons x t ih =>
    have h1 := ih (fun y hy => h y (List.mem_cons_of_mem _ hy))
    have h2 := h x List.mem_cons_self
    unfold joinFlat at h1 ⊢
    rw [List.flatMap_cons, List.length_append, List.length_cons, List.length_cons, Nat.add_mul]
    omega
theorem join_bound {ns : List Str} (h : ∀ x ∈ ns, x.length ≤ 300) (hn : (ns.length : Int) ≤ 30) : (join ns).length ≤ 9031 := by
  cases ns with
  | nil => decide
  | cons x t =>
    rw [join_flat (by simp)]
    have h1 := flat_bound _ h
    have h2 : (x :: t).length * (300 + 1) ≤ 30 * 301 := Nat.mul_le_mul_right _ (by omega)
    omega
theorem within_iff {a b : Str} : within a b = true ↔ ∃ k l, split a = some k ∧ split b = some l ∧ k <+: l := by
  constructor
  · intro h
    cases hs : split a with
    | none => rw [within_none1 hs] at h; cases h
    | some k =>
      cases ht : split b with
      | none => rw [within_none2 ht] at h; cases h
      | some l => rw [within_some hs ht] at h; exact ⟨k, l, rfl, rfl, List.isPrefixOf_iff_prefix.1 h⟩
  · rintro ⟨k, l, hs, ht, h⟩
    rw [within_some hs ht]
    exact List.isPrefixOf_iff_prefix.2 h
theorem within_trans {a b c : Str} (h : within a b = true) (h' : within b c = true) : within a c = true := by
  obtain ⟨k, l, e1, e2, p1⟩ := within_iff.1 h
  obtain ⟨l', m, e3, e4, p2⟩ := within_iff.1 h'
  rw [e2] at e3
  cases e3
  exact within_iff.2 ⟨k, m, e1, e4, p1.trans p2⟩
theorem within_antisymm {a b : Str} (h : within a b = true) (h' : within b a = true) : a = b := by
  obtain ⟨k, l, e1, e2, p1⟩ := within_iff.1 h
  obtain ⟨l', k', e3, e4, p2⟩ := within_iff.1 h'
  rw [e2] at e3
  cases e3
  rw [e1] at e4
  cases e4
  have : k = l := p1.eq_of_length_le p2.length_le
  subst this
  exact split_inj e1 e2
theorem within_refl {a : Str} {k : List Str} (h : split a = some k) : within a a = true := within_iff.2 ⟨k, k, h, h, List.prefix_refl _⟩
set_option maxRecDepth 100000 in
set_option maxHeartbeats 1000000 in
theorem split_root_nil (w : World) : Calls Tryd.prog 10 #[.string (mk [47])] w fun e w' => e = .returned (.tuple #[.slice none 0 0, .int .i64 0]) ∧ Below w.heap.size w w' := by
  refine (callsIn_wide (n := 3)).1 ?_
  refine callsIn_of_wp_marks Tryd.func10 rfl trivial ?_ rfl
  simp only [Tryd.ntmps10, List.size_toArray, List.length_cons, List.length_nil, Nat.reduceAdd, Nat.reduceSub, Array.replicate_succ, Array.replicate_zero, List.push_toArray, List.append_toArray, List.nil_append, List.cons_append]
  have ht : (mk []).toList = [] := mk_list []
  gi_wp2_with (refine ⟨trivial, ?_⟩; gi_at_call 19; refine (callsIn_wide.2 (cut_yes [] _)).mono ?_; rintro e w' ⟨rfl, rfl⟩)
  exact ⟨_, split_results _ w.heap.size (w.heap.size + 1) none 0 0 0 _ rfl rfl ((Boxed.new w _ _).alloc _).cell (by have := (Boxed.new (w.alloc (.cells #[.slice none 0 0] 23)) 24 (.int .i64 0)).cell; rwa [World.size_alloc] at this),
    rfl, ((Below.refl _ _).alloc (Nat.le_refl _) _).alloc (by simp) _⟩
theorem join_take_length (ns : List Str) (i : Nat) : (join (ns.take i)).length ≤ (join ns).length := by
  induction i with
  | zero => rw [List.take_zero]; unfold join; simp [Lib.join_nil]
  | succ i ih =>
    by_cases h : i + 1 ≤ ns.length
    · by_cases h0 : ns.take (i + 1) = []
      · rw [h0]; unfold join; simp [Lib.join_nil]
      · have hne : ns ≠ [] := fun e => h0 (by rw [e]; rfl)
        rw [join_flat h0, join_flat hne]
        conv => rhs; rw [← List.take_append_drop (i + 1) ns]
        unfold joinFlat
        rw [List.flatMap_append, List.length_append]
        omega
    · rw [List.take_of_length_le (by omega)]
      exact Nat.le_refl _
theorem one_name {y : Str} {ms : List Str} (h : split (47 :: y) = some ms) (hl : ms.length = 1) : okName y = true ∧ (47 : UInt8) ∉ y := by
  obtain ⟨p, rfl⟩ : ∃ p, ms = [p] := by
    match ms, hl with
    | [p], _ => exact ⟨p, rfl⟩
  have hj := join_split h
  have hp : p = y := by
    unfold join at hj
    rw [Lib.join_one] at hj
    injection hj
  have := split_names h p (by simp)
  rwa [hp] at this
theorem namesV_length (l : Str) : (namesV l).length ≤ l.length := by
  unfold namesV
  cases e : split l with
  | none => simp
  | some ns => exact split_length e
theorem same_true (v u : Value) (k : List Str) (w : World) (hk : k.length ≤ 1099511627776) (hv : Strs w v k) (hu : Strs w u k) : Calls Tryd.prog 14 #[v, u] w fun e w' => e = .returned (.bool true) ∧ Below w.heap.size w w' := by
  have := same_calls v u k k w hk hv hu
  rw [decide_eq_true rfl] at this
  exact this
theorem split_at (l : Str) (x : Int) (hx : errV l = x) (hl : l.length ≤ 4398046511104) (w : World) : Calls Tryd.prog 10 #[.string (mk l)] w fun e w' => ∃ v, e = .returned (.tuple #[v, .int .i64 x]) ∧ Strs w' v (namesV l) ∧ Below w.heap.size w w' := by
  subst hx
  exact split_any l hl w
theorem refsplit_at (l : Str) (x : Int) (hx : errV l = x) (hl : l.length ≤ 1099511627776) (w : World) : Calls Tryd.prog 11 #[.string (mk l)] w fun e w' => ∃ v, e = .returned (.tuple #[v, .int .i64 x]) ∧ Strs w' v (namesV l) ∧ Below w.heap.size w w' := by
  subst hx
  exact refsplit_calls l hl w
theorem refparent_lit (l p n : Str) (x : Int) (h : parentV l = (p, n, x)) (hl : l.length ≤ 1099511627776) (w : World) : Calls Tryd.prog 13 #[.string (mk l)] w fun e w' => e = .returned (.tuple #[.string (mk p), .string (mk n), .int .i64 x]) ∧ Below w.heap.size w w' := by
  have := refparent_calls l hl w
  rw [h] at this
  exact this
theorem refwithin_lit (a b : Str) (x : Bool) (h : within a b = x) (ha : a.length ≤ 1099511627776) (hb : b.length ≤ 1099511627776) (w : World) : Calls Tryd.prog 16 #[.string (mk a), .string (mk b)] w fun e w' => e = .returned (.bool x) ∧ Below w.heap.size w w' := by
  have := refwithin_calls a b ha hb w
  rw [h] at this
  exact this
theorem refjoin_lit (v : Value) (ns : List Str) (s : Str) (hj : join ns = s) (w : World) (hv : Strs w v ns) (hn : ns.length ≤ 1099511627776) (hb : s.length ≤ 1099511627776) : Calls Tryd.prog 18 #[v] w fun e w' => e = .returned (.string (mk s)) ∧ Below w.heap.size w w' := by
  subst hj
  exact refjoin_calls v ns w hv hn hb
theorem balloc {w W : World} {o : Obj} (h : Below w.heap.size w W) : Below w.heap.size w (W.alloc o) := h.alloc h.size o
theorem bdrew {w W : World} {n : Nat} (h : Below w.heap.size w W) : Below w.heap.size w (W.drewN n) := pw_below_drewN h n

theorem Strs.new2 (w : World) (t : TypeId) (a b : Str) (k : Nat) : Strs (w.alloc (.cells #[.string (mk a), .string (mk b)] t)) (.slice (some ⟨w.heap.size, 0, none⟩) 2 (2 + k)) [a, b] := by
  refine Strs.mk_cells (ns := [a, b]) (by simp) (by simp) ?_
  intro j x hj
  match j, hj with
  | 0, hj => cases hj; unfold World.cell?; rw [heap_alloc_new]; rfl
  | 1, hj => cases hj; unfold World.cell?; rw [heap_alloc_new]; rfl
set_option maxRecDepth 100000 in
set_option maxHeartbeats 2000000 in
theorem live_calls (w : World) : Calls Tryd.prog 9 #[] w fun e w' => e = .returned (.bool true) ∧ Below w.heap.size w w' := by
  have t1 := mk_list [47, 97]
  have t2 := mk_list [98]
  have t3 := mk_list [47]
  go_enter Tryd.func9, Tryd.ntmps9
  go_wp2_with fail
  refine (split_good [47, 97, 47, 98] [[97], [98]] (by decide) (by decide) _).mono ?_
  rintro e w1 ⟨v1, rfl, hv1, hB⟩
  have HB := Lib.hid hB
  have HV := Lib.hid hv1
  obtain ⟨A1, c1, rfl, hc1, _⟩ := hv1
  clear hB
  go_wp2_with fail
  refine (split_good [47] [] (by decide) (by decide) _).mono ?_
  rintro e w2 ⟨v2, rfl, hv2, hB⟩
  have HB2 := Lib.hid (bstep HB.out hB)
  have HV2 := Lib.hid (HV.out.below hB)
  obtain ⟨A2, c2, rfl, hc2, _⟩ := hv2
  clear hB HB HV
  go_wp2_with fail
  refine (split_none [97] (by decide) (by decide) _).mono ?_
  rintro e w3 ⟨rfl, hB⟩
  have HB := Lib.hid (bstep HB2.out hB)
  have HV := Lib.hid (HV2.out.below hB)
  clear hB HB2 HV2
  go_wp2_with fail
  refine (split_none [47, 97, 47] (by decide) (by decide) _).mono ?_
  rintro e w4 ⟨rfl, hB⟩
  have HB2 := Lib.hid (bstep HB.out hB)
  have HV2 := Lib.hid (HV.out.below hB)
  clear hB HB HV
  go_wp2_with fail
  refine (split_none [47, 46, 46] (by decide) (by decide) _).mono ?_
  rintro e w5 ⟨rfl, hB⟩
  have HB := Lib.hid (bstep HB2.out hB)
  have HV := Lib.hid (HV2.out.below hB)
  clear hB HB2 HV2
  go_wp2_with fail
  refine (parent_lit [47, 97, 47, 98] [47, 97] [98] 0 (by decide) (by decide) _).mono ?_
  rintro e w6 ⟨rfl, hB⟩
  have HB2 := Lib.hid (bstep HB.out hB)
  have HV2 := Lib.hid (HV.out.below hB)
  clear hB HB HV
  go_wp2_with fail
  refine (parent_lit [47] [] [] 1 (by decide) (by decide) _).mono ?_
  rintro e w7 ⟨rfl, hB⟩
  have HB := Lib.hid (bstep HB2.out hB)
  have HV := Lib.hid (HV2.out.below hB)
  clear hB HB2 HV2
  go_wp2_with fail
  refine (same_calls _ _ [[97], [98]] [[97], [98]] _ (by decide) (HV.out.below (balloc (Below.refl _ _))) (Strs.new2 _ _ [97] [98] 0) ).mono ?_
  rintro e w8 ⟨rfl, hB⟩
  have HB2 := Lib.hid (bstep (balloc HB.out) hB)
  clear hB HB HV
  go_wp2_with fail
  refine (within_lit [47, 97] [47, 97, 47, 98] true (by decide) (by decide) (by decide) _).mono ?_
  rintro e w9 ⟨rfl, hB⟩
  have HB := Lib.hid (bstep HB2.out hB)
  clear hB HB2
  go_wp2_with fail
  refine (within_lit [47, 97] [47, 97, 98] false (by decide) (by decide) (by decide) _).mono ?_
  rintro e w10 ⟨rfl, hB⟩
  have HB2 := Lib.hid (bstep HB.out hB)
  clear hB HB
  go_wp2_with fail
  refine (join_lit _ [] [47] (by decide) _ (Strs.nil _ _ _) (by decide) (by decide)).mono ?_
  rintro e w11 ⟨rfl, hB⟩
  have HB := Lib.hid (bstep HB2.out hB)
  clear hB HB2
  go_wp2_with fail
  go_ret
  exact ⟨rfl, HB.out⟩
end Go.Proofs.YtebcojpmdihjfaaDoor
