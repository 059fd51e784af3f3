import Derived.Test.YtaccokghjpcijaaGreatDoorMB
set_option linter.unusedVariables false
set_option linter.unusedSimpArgs false
namespace Go.Proofs.YtaccokghjpcijaaGreatDoor
open Go Go.RowKit Pp Go.Proofs.YtaccokghjpcijaaGreatDoorW.PrintWords
open Go.ChangeMaps (setBlock)

def opV (o : Ask) : Value := .agg #[.int .i64 o.do_, .string (mk o.path), .string (mk o.dst), .int .i64 o.off, .int .i64 o.len, .string (mk o.data)]
/-- A tree somewhere in memory; F holds of its blocks. -/
def Tree (W : World) (F : Nat → Prop) (tb : Nat) (g : St) : Prop := (∃ S loc mloc, Rep W F tb S loc mloc g) ∧ ∀ b, F b → b < W.heap.size
/-- What is answered, in memory that is not the tree's. -/
def AnsAt (F : Nat → Prop) (W : World) (e : Ending) (a : Ans) : Prop :=
  ∃ v, e = .returned (.agg #[.int .i64 a.code, .int .i64 a.n, .string (mk a.data), v]) ∧ Strs W v a.names ∧ ∀ bk o n c, v = .slice (some ⟨bk, o, none⟩) n c → ¬ F bk
def OpPost (W : World) (F : Nat → Prop) (tb : Nat) (g : St) (r : St × Ans) (e : Ending) (W' : World) : Prop :=
  ∃ F', (∀ b, F' b → F b ∨ W.heap.size ≤ b) ∧ (∀ b, F b → F' b) ∧ Tree W' F' tb r.1 ∧ Fr F W W' ∧ AnsAt (fun b => F' b ∨ b < W.heap.size) W' e r.2
theorem AnsAt.told (F : Nat → Prop) (W : World) (c : Int) : AnsAt F W (.returned (.agg #[.int .i64 c, .int .i64 0, .string ⟨#[]⟩, .slice none 0 0])) (told c) :=
  ⟨_, rfl, Strs.nil W 0 none, fun bk o n c h => by cases h⟩
/-- An op that turns nothing. -/
theorem OpPost.still {W W' : World} {F : Nat → Prop} {tb : Nat} {g : St} {a : Ans} {e : Ending} (h : Tree W F tb g) (hb : Below W.heap.size W W') (ha : AnsAt (fun b => F b ∨ b < W.heap.size) W' e a) : OpPost W F tb g (g, a) e W' := by
  obtain ⟨⟨S, loc, mloc, hr⟩, hF⟩ := h
  exact ⟨F, fun b hb => .inl hb, fun b hb => hb, ⟨⟨S, loc, mloc, hr.below hb⟩, fun b hb' => Nat.lt_of_lt_of_le (hF b hb') hb.size⟩, Fr.of_below hb, ha⟩
/-- An op that turns the tree in its own blocks. -/
theorem OpPost.turned {W W' : World} {F S : Nat → Prop} {tb : Nat} {loc mloc : Nat → Nat} {g g' : St} {a : Ans} {e : Ending} (hF : ∀ b, F b → b < W.heap.size) (h : Rep W' F tb S loc mloc g') (hf : Fr F W W') (ha : AnsAt (fun b => F b ∨ b < W.heap.size) W' e a) : OpPost W F tb g (g', a) e W' :=
  ⟨F, fun b hb => .inl hb, fun b hb => hb, ⟨⟨S, loc, mloc, h⟩, fun b hb => Nat.lt_of_lt_of_le (hF b hb) hf.size⟩, hf, ha⟩

set_option maxRecDepth 100000 in
set_option maxHeartbeats 1000000 in
theorem told_calls (c : Int) (w : World) : Calls Tryz.prog 37 #[.int .i64 c] w fun e w' => e = .returned (.agg #[.int .i64 c, .int .i64 0, .string ⟨#[]⟩, .slice none 0 0]) ∧ Below w.heap.size w w' := by
  go_enter Tryz.func37, Tryz.ntmps37
  go_wp2_with fail
  refine bodyPost_ret (results_cell_row rfl _ _ w.heap.size 32 #[.int .i64 c, .int .i64 0, .string ⟨#[]⟩, .slice none 0 0] (0, 0) _ rfl (heap_alloc_new _ _) Tryz.underlying32 rfl (by kernel_rfl)) rfl ?_
  exact ⟨rfl, balloc (Below.refl _ _)⟩

/-- A new thing, not yet an entry of anything. -/
theorem Rep.plus {W : World} {F S : Nat → Prop} {tb : Nat} {loc mloc : Nat → Nat} {g : St} (h : Rep W F tb S loc mloc g) {n : Node} {b mb : Nat} (hn : NodeAt W (fun _ => b) (fun _ => mb) 0 n) (he : n.ents = none ∨ n.ents = some []) (hs : n.bytes.length ≤ 16384)
    (hb : ∀ i, S i → loc i ≠ b) (hmb : n.ents.isSome = true → ∀ i, S i → isDir g i = true → mloc i ≠ mb) :
    Rep W (fun k => F k ∨ k = b ∨ (n.ents.isSome = true ∧ k = mb)) tb (fun i => S i ∨ i = g.next) (upd loc g.next b) (upd mloc g.next mb) (fresh g n) := by
  have hlt : ∀ i, S i → i ≠ g.next := fun i hi e => by have := h.lt i hi; omega
  have hl : ∀ i, S i → upd loc g.next b i = loc i := fun i hi => upd_ne _ _ (hlt i hi)
  have hm : ∀ i, S i → upd mloc g.next mb i = mloc i := fun i hi => upd_ne _ _ (hlt i hi)
  have hg : ∀ i, S i → (fresh g n).node i = g.node i := fun i hi => upd_ne _ _ (hlt i hi)
  have hgn : (fresh g n).node g.next = n := upd_at _ _ _
  have hd : ∀ i, S i → isDir (fresh g n) i = isDir g i := fun i hi => by unfold isDir; rw [hg i hi]
  refine { root := by rw [hl 0 h.zero]; exact h.root, zero := .inl h.zero, dir0 := by rw [hd 0 h.zero]; exact h.dir0, lt := ?_, closed := ?_, node := ?_, small := ?_, inj := ?_, minj := ?_, ft := .inl h.ft, fl := ?_, fm := ?_ }
  · rintro i (hi | rfl)
    · exact Nat.lt_succ_of_lt (h.lt i hi)
    · exact Nat.lt_succ_self _
  · rintro i l (hi | rfl) hil p hp
    · rw [hg i hi] at hil
      exact .inl (h.closed i l hi hil p hp)
    · rw [hgn] at hil
      rcases he with he | he
      · rw [he] at hil; cases hil
      · rw [he] at hil; cases hil; cases hp
  · rintro i (hi | rfl)
    · rw [hg i hi]
      have := h.node i hi
      unfold NodeAt at this ⊢
      rw [hl i hi]
      cases hil : (g.node i).ents with
      | none => rw [hil] at this; exact this
      | some l =>
        rw [hil] at this
        rw [hm i hi]
        refine ⟨this.1, ?_⟩
        have e : l.map (entV (upd loc g.next b)) = l.map (entV loc) := List.map_congr_left (fun p hp => by
          unfold entV
          rw [hl _ (h.closed i l hi hil p hp)])
        rw [e]
        exact this.2
    · rw [hgn]
      unfold NodeAt at hn ⊢
      rw [upd_at, upd_at]
      rcases he with he | he
      · rw [he] at hn ⊢; exact hn
      · rw [he] at hn ⊢; exact hn
  · rintro i (hi | rfl)
    · rw [hg i hi]; exact h.small i hi
    · rw [hgn]; exact hs
  · rintro i j (hi | rfl) (hj | rfl) e
    · rw [hl i hi, hl j hj] at e; exact h.inj i j hi hj e
    · rw [hl i hi, upd_at] at e; exact absurd e (hb i hi)
    · rw [hl j hj, upd_at] at e; exact absurd e.symm (hb j hj)
    · rfl
  · rintro i j (hi | rfl) (hj | rfl) hdi hdj e
    · rw [hm i hi, hm j hj] at e; rw [hd i hi] at hdi; rw [hd j hj] at hdj; exact h.minj i j hi hj hdi hdj e
    · rw [hm i hi, upd_at] at e
      rw [hd i hi] at hdi
      have : n.ents.isSome = true := by unfold isDir at hdj; rwa [hgn] at hdj
      exact absurd e (hmb this i hi hdi)
    · rw [hm j hj, upd_at] at e
      rw [hd j hj] at hdj
      have : n.ents.isSome = true := by unfold isDir at hdi; rwa [hgn] at hdi
      exact absurd e.symm (hmb this j hj hdj)
    · rfl
  · rintro i (hi | rfl)
    · rw [hl i hi]; exact .inl (h.fl i hi)
    · rw [upd_at]; exact .inr (.inl rfl)
  · rintro i (hi | rfl) hdi
    · rw [hm i hi]; rw [hd i hi] at hdi; exact .inl (h.fm i hi hdi)
    · rw [upd_at]
      have : n.ents.isSome = true := by unfold isDir at hdi; rwa [hgn] at hdi
      exact .inr (.inr ⟨this, rfl⟩)
/-- A new thing that is no entry is of no moment. -/
theorem Rep.minus {W W' : World} {F F' S : Nat → Prop} {tb : Nat} {loc mloc : Nat → Nat} {g : St} {n : Node} {b mb : Nat} (h0 : Rep W F tb S loc mloc g) (h : Rep W' F' tb (fun i => S i ∨ i = g.next) (upd loc g.next b) (upd mloc g.next mb) (fresh g n)) :
    Rep W' F' tb S (upd loc g.next b) (upd mloc g.next mb) g := by
  have hlt : ∀ i, S i → i ≠ g.next := fun i hi e => by have := h0.lt i hi; omega
  have hg : ∀ i, S i → (fresh g n).node i = g.node i := fun i hi => upd_ne _ _ (hlt i hi)
  have hd : ∀ i, S i → isDir (fresh g n) i = isDir g i := fun i hi => by unfold isDir; rw [hg i hi]
  exact { root := h.root, zero := h0.zero, dir0 := h0.dir0, lt := h0.lt, closed := h0.closed, node := fun i hi => by have := h.node i (.inl hi); rwa [hg i hi] at this, small := h0.small,
          inj := fun i j hi hj e => h.inj i j (.inl hi) (.inl hj) e, minj := fun i j hi hj hdi hdj e => h.minj i j (.inl hi) (.inl hj) (by rw [hd i hi]; exact hdi) (by rw [hd j hj]; exact hdj) e,
          ft := h.ft, fl := fun i hi => h.fl i (.inl hi), fm := fun i hi hdi => h.fm i (.inl hi) (by rw [hd i hi]; exact hdi) }

/-- An answer, stored where it is handed back from. -/
def put4 (W : World) (b : Nat) (x0 x1 x2 x3 : Value) : World := (((W.setCell ⟨b, 0, none⟩ x0).setCell ⟨b, 1, none⟩ x1).setCell ⟨b, 2, none⟩ x2).setCell ⟨b, 3, none⟩ x3
theorem put4_at {W : World} {b : Nat} {y0 y1 y2 y3 x0 x1 x2 x3 : Value} {t : TypeId} (h : W.heap[b]? = some (.cells #[y0, y1, y2, y3] t (0, 0))) : (put4 W b x0 x1 x2 x3).heap[b]? = some (.cells #[x0, x1, x2, x3] t (0, 0)) := by
  have h0 := heap_setCell_same _ _ 0 _ _ x0 h
  have h1 := heap_setCell_same _ _ 1 _ _ x1 h0
  have h2 := heap_setCell_same _ _ 2 _ _ x2 h1
  exact heap_setCell_same _ _ 3 _ _ x3 h2
theorem put4_other {W : World} {b : Nat} {x0 x1 x2 x3 : Value} {k : Nat} (h : k ≠ b) : (put4 W b x0 x1 x2 x3).heap[k]? = W.heap[k]? := by
  unfold put4
  rw [Below.heap_setCell _ _ _ _ h, Below.heap_setCell _ _ _ _ h, Below.heap_setCell _ _ _ _ h, Below.heap_setCell _ _ _ _ h]
theorem put4_below {W0 W : World} {n b : Nat} {x0 x1 x2 x3 : Value} (h : Below n W0 W) (hn : n ≤ b) : Below n W0 (put4 W b x0 x1 x2 x3) :=
  (((h.setCell hn _).setCell hn _).setCell hn _).setCell hn _
theorem lay_still {g : St} {s : Str} {x : Nat} (h : (lay g s x).2 ≠ 0) : (lay g s x).1 = g := by
  unfold lay at *
  cases hf : free g s with
  | error c => rfl
  | ok p =>
    rw [hf] at h
    exact absurd rfl h
/-- What stands behind create and mkdir. -/
theorem made_post {W W3 w4 w5 : World} {F S : Nat → Prop} {tb : Nat} {loc mloc : Nat → Nat} {g : St} {n : Node} {s : Str} {b mb ab : Nat} (hF : ∀ k, F k → k < W.heap.size) (hr : Rep W F tb S loc mloc g)
    (hb : W.heap.size ≤ b) (hb3 : b < W3.heap.size) (hmb : n.ents.isSome = true → W.heap.size ≤ mb ∧ mb < W3.heap.size ∧ mb ≠ ab) (hab : W.heap.size ≤ ab) (habb : ab ≠ b) (hab3 : ab < W3.heap.size) (hB3 : Below W.heap.size W W3)
    (hR4 : Rep w4 (fun k => F k ∨ k = b ∨ (n.ents.isSome = true ∧ k = mb)) tb (fun i => S i ∨ i = g.next) (upd loc g.next b) (upd mloc g.next mb) (lay (fresh g n) s g.next).1)
    (hF4 : Fr (fun k => F k ∨ k = b ∨ (n.ents.isSome = true ∧ k = mb)) W3 w4) (hB5 : Below w4.heap.size w4 w5) (x0 x1 x2 x3 : Value) {e : Ending} (ha : e = .returned (.agg #[.int .i64 (lay (fresh g n) s g.next).2, .int .i64 0, .string ⟨#[]⟩, .slice none 0 0])) :
    OpPost W F tb g (made g s n) e (put4 w5 ab x0 x1 x2 x3) := by
  subst ha
  have hFx : ∀ k, (F k ∨ k = b ∨ (n.ents.isSome = true ∧ k = mb)) → k ≠ ab := by
    rintro k (hk | hk | ⟨hk, rfl⟩) rfl
    · have := hF _ hk; omega
    · exact habb hk
    · exact (hmb hk).2.2 rfl
  have hR : Rep (put4 w5 ab x0 x1 x2 x3) (fun k => F k ∨ k = b ∨ (n.ents.isSome = true ∧ k = mb)) tb (fun i => S i ∨ i = g.next) (upd loc g.next b) (upd mloc g.next mb) (lay (fresh g n) s g.next).1 :=
    (hR4.below hB5).same (fun k hk => put4_other (hFx k hk))
  have hsz : W.heap.size ≤ w5.heap.size := by have := hB3.size; have := hF4.size; have := hB5.size; omega
  have hFr : Fr F W (put4 w5 ab x0 x1 x2 x3) := by
    refine ⟨(hB5.os.trans hF4.os).trans hB3.os, (hB5.tape.trans hF4.tape).trans hB3.tape, (hB5.output.trans hF4.output).trans hB3.output, by unfold put4; simpa using hsz, fun k hk hf => ?_⟩
    have h3 : k < W3.heap.size := by have := hB3.size; omega
    have h4 : k < w4.heap.size := by have := hF4.size; omega
    rw [put4_other (by omega), hB5.block k h4, hF4.block k h3 (by
      rintro (h | h | ⟨h, rfl⟩)
      · exact hf h
      · omega
      · have := (hmb h).1; omega), hB3.block k hk]
  have hlt : ∀ k, (F k ∨ k = b ∨ (n.ents.isSome = true ∧ k = mb)) → k < (put4 w5 ab x0 x1 x2 x3).heap.size := by
    have hs5 : (put4 w5 ab x0 x1 x2 x3).heap.size = w5.heap.size := by unfold put4; simp
    have h35 : W3.heap.size ≤ w5.heap.size := by have := hF4.size; have := hB5.size; omega
    rintro k (h | h | ⟨h, rfl⟩)
    · have := hF k h; omega
    · omega
    · have := (hmb h).2.1; omega
  have hnew : ∀ k, (F k ∨ k = b ∨ (n.ents.isSome = true ∧ k = mb)) → F k ∨ W.heap.size ≤ k := by
    rintro k (h | h | ⟨h, rfl⟩)
    · exact .inl h
    · exact .inr (by omega)
    · exact .inr (hmb h).1
  by_cases he : (lay (fresh g n) s g.next).2 = 0
  · have hm : made g s n = ((lay (fresh g n) s g.next).1, told 0) := by unfold made; simp only [he, if_true]
    rw [hm]
    exact ⟨_, hnew, fun k hk => .inl hk, ⟨⟨_, _, _, hR⟩, hlt⟩, hFr, by rw [he]; exact AnsAt.told _ _ 0⟩
  · have hm : made g s n = (g, told (lay (fresh g n) s g.next).2) := by unfold made; simp only [he, if_false]
    rw [hm]
    rw [lay_still he] at hR
    exact ⟨_, hnew, fun k hk => .inl hk, ⟨⟨_, _, _, hr.minus hR⟩, hlt⟩, hFr, AnsAt.told _ _ _⟩

set_option maxRecDepth 100000 in
set_option maxHeartbeats 2000000 in
theorem create_calls {W : World} {F : Nat → Prop} {tb : Nat} {g : St} (h : Tree W F tb g) (o : Ask) (hp : o.path.length ≤ 4398046511104) :
    Calls Tryz.prog 26 #[ptr tb, opV o] W (OpPost W F tb g (made g o.path ⟨none, [], 0⟩)) := by
  obtain ⟨⟨S, loc, mloc, hr⟩, hF⟩ := h
  obtain ⟨B, hB⟩ : ∃ B, W.heap.size = B := ⟨_, rfl⟩
  obtain ⟨W3, hW3⟩ : ∃ W3, ((W.alloc (.cells #[.int .i64 o.do_, .string (mk o.path), .string (mk o.dst), .int .i64 o.off, .int .i64 o.len, .string (mk o.data)] 35)).alloc (.cells #[.int .i64 0, .int .i64 0, .string ⟨#[]⟩, .slice none 0 0] 32)).alloc (.cells #[.map none, .string ⟨#[]⟩, .int .i64 0] 57) = W3 := ⟨_, rfl⟩
  have hs3 : W3.heap.size = B + 3 := by rw [← hW3]; simp [hB]
  have hbl : Below W.heap.size W W3 := by rw [← hW3]; exact balloc (balloc (balloc (Below.refl _ _)))
  have hans : W3.heap[B + 1]? = some (.cells #[.int .i64 0, .int .i64 0, .string ⟨#[]⟩, .slice none 0 0] 32 (0, 0)) := by
    rw [← hW3, Below.heap_alloc _ _ _ (by simp; omega)]
    have := heap_alloc_new (W.alloc (.cells #[.int .i64 o.do_, .string (mk o.path), .string (mk o.dst), .int .i64 o.off, .int .i64 o.len, .string (mk o.data)] 35)) (.cells #[.int .i64 0, .int .i64 0, .string ⟨#[]⟩, .slice none 0 0] 32)
    rw [World.size_alloc, hB] at this
    exact this
  have hthing : W3.heap[B + 2]? = some (.cells #[.map none, .string (mk []), .int .i64 0] 57 (0, 0)) := by
    rw [← hW3]
    have := heap_alloc_new ((W.alloc (.cells #[.int .i64 o.do_, .string (mk o.path), .string (mk o.dst), .int .i64 o.off, .int .i64 o.len, .string (mk o.data)] 35)).alloc (.cells #[.int .i64 0, .int .i64 0, .string ⟨#[]⟩, .slice none 0 0] 32)) (.cells #[.map none, .string (mk []), .int .i64 0] 57)
    rw [World.size_alloc, World.size_alloc, hB] at this
    exact this
  have hr3 := hr.below hbl
  have hfr := hr3.plus (n := ⟨none, [], 0⟩) (b := B + 2) (mb := 0) hthing (.inl rfl) (by simp) (fun i hi e => by have := hF _ (hr.fl i hi); omega) (fun e => by cases e)
  have HC := Lib.hid (lay_calls hfr o.path hp (x := g.next) (.inr rfl))
  rw [upd_at] at HC
  have HR := Lib.hid hr
  have HBL := Lib.hid hbl
  have HA := Lib.hid hans
  have HW3 := Lib.hid hW3
  clear hr hbl hans hr3 hfr hthing hW3
  unfold ptr at HC
  unfold opV ptr
  go_enter Tryz.func26, Tryz.ntmps26
  go_wp2_with fail
  rw [HW3.out]
  refine HC.out.mono ?_
  rintro e w4 ⟨rfl, hR4, hF4⟩
  have HR4 := Lib.hid hR4
  have HF4 := Lib.hid hF4
  clear hR4 hF4
  go_wp2_with fail
  refine (told_calls _ _).mono ?_
  rintro e w5 ⟨rfl, hB5⟩
  have HA5 := Lib.hid (show w5.heap[B + 1]? = _ from (hB5.block _ (by have := HF4.out.size; omega)).trans ((HF4.out.block (B + 1) (by omega) (fun hk => by
    rcases hk with hk | hk | ⟨hk, _⟩
    · have := hF _ hk; omega
    · omega
    · cases hk)).trans HA.out))
  have HB5 := Lib.hid hB5
  have c0 := heap_cell HA5.out 0 _ rfl
  have c1 := heap_cell HA5.out 1 _ rfl
  have c2 := heap_cell HA5.out 2 _ rfl
  have c3 := heap_cell HA5.out 3 _ rfl
  have f0 := frozen_of_row _ _ 0 _ _ HA5.out
  have f1 := frozen_of_row _ _ 1 _ _ HA5.out
  have f2 := frozen_of_row _ _ 2 _ _ HA5.out
  have f3 := frozen_of_row _ _ 3 _ _ HA5.out
  clear hB5
  go_wp2_with fail
  refine bodyPost_ret (results_cell_row rfl _ _ (B + 1) 32 #[.int .i64 (lay (fresh g ⟨none, [], 0⟩) o.path g.next).2, .int .i64 0, .string ⟨#[]⟩, .slice none 0 0] (0, 0) _ rfl (put4_at HA5.out) Tryz.underlying32 rfl (by kernel_rfl)) rfl ?_
  exact made_post hF HR.out (by omega) (by omega) (fun h => by cases h) (by omega) (by omega) (by omega) HBL.out HR4.out HF4.out HB5.out _ _ _ _ rfl
set_option maxRecDepth 100000 in
set_option maxHeartbeats 2000000 in
theorem mkdir_calls {W : World} {F : Nat → Prop} {tb : Nat} {g : St} (h : Tree W F tb g) (o : Ask) (hp : o.path.length ≤ 4398046511104) :
    Calls Tryz.prog 27 #[ptr tb, opV o] W (OpPost W F tb g (made g o.path ⟨some [], [], 0⟩)) := by
  obtain ⟨⟨S, loc, mloc, hr⟩, hF⟩ := h
  obtain ⟨B, hB⟩ : ∃ B, W.heap.size = B := ⟨_, rfl⟩
  obtain ⟨W3, hW3⟩ : ∃ W3, (((W.alloc (.cells #[.int .i64 o.do_, .string (mk o.path), .string (mk o.dst), .int .i64 o.off, .int .i64 o.len, .string (mk o.data)] 35)).alloc (.cells #[.int .i64 0, .int .i64 0, .string ⟨#[]⟩, .slice none 0 0] 32)).alloc (.map #[] 0)).alloc (.cells #[.map (some (B + 2)), .string ⟨#[]⟩, .int .i64 0] 57) = W3 := ⟨_, rfl⟩
  have hs3 : W3.heap.size = B + 4 := by rw [← hW3]; simp [hB]
  have hbl : Below W.heap.size W W3 := by rw [← hW3]; exact balloc (balloc (balloc (balloc (Below.refl _ _))))
  have hans : W3.heap[B + 1]? = some (.cells #[.int .i64 0, .int .i64 0, .string ⟨#[]⟩, .slice none 0 0] 32 (0, 0)) := by
    rw [← hW3, Below.heap_alloc _ _ _ (by simp; omega), Below.heap_alloc _ _ _ (by simp; omega)]
    have := heap_alloc_new (W.alloc (.cells #[.int .i64 o.do_, .string (mk o.path), .string (mk o.dst), .int .i64 o.off, .int .i64 o.len, .string (mk o.data)] 35)) (.cells #[.int .i64 0, .int .i64 0, .string ⟨#[]⟩, .slice none 0 0] 32)
    rw [World.size_alloc, hB] at this
    exact this
  have hmap : MapAt W3 (B + 2) [] := by
    rw [← hW3]
    have := MapAt.made ((W.alloc (.cells #[.int .i64 o.do_, .string (mk o.path), .string (mk o.dst), .int .i64 o.off, .int .i64 o.len, .string (mk o.data)] 35)).alloc (.cells #[.int .i64 0, .int .i64 0, .string ⟨#[]⟩, .slice none 0 0] 32))
    rw [World.size_alloc, World.size_alloc, hB] at this
    exact this.same (Below.heap_alloc _ _ _ (by simp; omega))
  have hthing : W3.heap[B + 3]? = some (.cells #[.map (some (B + 2)), .string (mk []), .int .i64 0] 57 (0, 0)) := by
    rw [← hW3]
    have := heap_alloc_new (((W.alloc (.cells #[.int .i64 o.do_, .string (mk o.path), .string (mk o.dst), .int .i64 o.off, .int .i64 o.len, .string (mk o.data)] 35)).alloc (.cells #[.int .i64 0, .int .i64 0, .string ⟨#[]⟩, .slice none 0 0] 32)).alloc (.map #[] 0)) (.cells #[.map (some (B + 2)), .string (mk []), .int .i64 0] 57)
    rw [World.size_alloc, World.size_alloc, World.size_alloc, hB] at this
    exact this
  have hr3 := hr.below hbl
  have hfr := hr3.plus (n := ⟨some [], [], 0⟩) (b := B + 3) (mb := B + 2) ⟨hthing, hmap⟩ (.inr rfl) (by simp) (fun i hi e => by have := hF _ (hr.fl i hi); omega) (fun _ i hi hd e => by have := hF _ (hr.fm i hi hd); omega)
  have HC := Lib.hid (lay_calls hfr o.path hp (x := g.next) (.inr rfl))
  rw [upd_at] at HC
  have HR := Lib.hid hr
  have HBL := Lib.hid hbl
  have HA := Lib.hid hans
  have HW3 := Lib.hid hW3
  clear hr hbl hans hr3 hfr hthing hW3 hmap
  have hmm := @run_makeMap Tryz.prog
  unfold ptr at HC
  unfold opV ptr
  go_enter Tryz.func27, Tryz.ntmps27
  go_wp2_with fail
  rw [HW3.out]
  refine HC.out.mono ?_
  rintro e w4 ⟨rfl, hR4, hF4⟩
  have HR4 := Lib.hid hR4
  have HF4 := Lib.hid hF4
  clear hR4 hF4
  go_wp2_with fail
  refine (told_calls _ _).mono ?_
  rintro e w5 ⟨rfl, hB5⟩
  have HA5 := Lib.hid (show w5.heap[B + 1]? = _ from (hB5.block _ (by have := HF4.out.size; omega)).trans ((HF4.out.block (B + 1) (by omega) (fun hk => by
    rcases hk with hk | hk | ⟨_, hk⟩
    · have := hF _ hk; omega
    · omega
    · omega)).trans HA.out))
  have HB5 := Lib.hid hB5
  have c0 := heap_cell HA5.out 0 _ rfl
  have c1 := heap_cell HA5.out 1 _ rfl
  have c2 := heap_cell HA5.out 2 _ rfl
  have c3 := heap_cell HA5.out 3 _ rfl
  have f0 := frozen_of_row _ _ 0 _ _ HA5.out
  have f1 := frozen_of_row _ _ 1 _ _ HA5.out
  have f2 := frozen_of_row _ _ 2 _ _ HA5.out
  have f3 := frozen_of_row _ _ 3 _ _ HA5.out
  clear hB5
  go_wp2_with fail
  refine bodyPost_ret (results_cell_row rfl _ _ (B + 1) 32 #[.int .i64 (lay (fresh g ⟨some [], [], 0⟩) o.path g.next).2, .int .i64 0, .string ⟨#[]⟩, .slice none 0 0] (0, 0) _ rfl (put4_at HA5.out) Tryz.underlying32 rfl (by kernel_rfl)) rfl ?_
  exact made_post hF HR.out (by omega) (by omega) (fun _ => ⟨by omega, by omega, by omega⟩) (by omega) (by omega) (by omega) HBL.out HR4.out HF4.out HB5.out _ _ _ _ rfl
end Go.Proofs.YtaccokghjpcijaaGreatDoor
set_option linter.unusedVariables false
set_option linter.unusedSimpArgs false
namespace Go.Proofs.YtaccokghjpcijaaGreatDoor
open Go Go.RowKit Pp Go.Proofs.YtaccokghjpcijaaGreatDoorW.PrintWords
open Go.ChangeMaps (setBlock)

/-- Inside an op: the box of what is asked, the box of what will be answered, what has turned since. -/
structure OpAt (W0 : World) (F : Nat → Prop) (o : Ask) (W : World) : Prop where
  new ::
  box : W.heap[W0.heap.size]? = some (.cells #[.int .i64 o.do_, .string (mk o.path), .string (mk o.dst), .int .i64 o.off, .int .i64 o.len, .string (mk o.data)] 35 (0, 0))
  ans : W.heap[W0.heap.size + 1]? = some (.cells #[.int .i64 0, .int .i64 0, .string ⟨#[]⟩, .slice none 0 0] 32 (0, 0))
  size : W0.heap.size + 2 ≤ W.heap.size
  fr : Fr F W0 W
theorem OpAt.start (W0 : World) (F : Nat → Prop) (o : Ask) : OpAt W0 F o ((W0.alloc (.cells #[.int .i64 o.do_, .string (mk o.path), .string (mk o.dst), .int .i64 o.off, .int .i64 o.len, .string (mk o.data)] 35)).alloc (.cells #[.int .i64 0, .int .i64 0, .string ⟨#[]⟩, .slice none 0 0] 32)) where
  box := by
    rw [Below.heap_alloc _ _ _ (by simp)]
    exact heap_alloc_new _ _
  ans := by
    have := heap_alloc_new (W0.alloc (.cells #[.int .i64 o.do_, .string (mk o.path), .string (mk o.dst), .int .i64 o.off, .int .i64 o.len, .string (mk o.data)] 35)) (.cells #[.int .i64 0, .int .i64 0, .string ⟨#[]⟩, .slice none 0 0] 32)
    rw [World.size_alloc] at this
    exact this
  size := by simp
  fr := Fr.of_below (balloc (balloc (Below.refl _ _)))
theorem OpAt.turn {W0 W W' : World} {F : Nat → Prop} {o : Ask} (h : OpAt W0 F o W) (hF : ∀ b, F b → b < W0.heap.size) (hf : Fr F W W') : OpAt W0 F o W' where
  box := (hf.block _ (by have := h.size; omega) (fun hk => by have := hF _ hk; omega)).trans h.box
  ans := (hf.block _ (by have := h.size; omega) (fun hk => by have := hF _ hk; omega)).trans h.ans
  size := Nat.le_trans h.size hf.size
  fr := h.fr.trans hf
theorem OpAt.below {W0 W W' : World} {F : Nat → Prop} {o : Ask} (h : OpAt W0 F o W) (hb : Below W.heap.size W W') : OpAt W0 F o W' where
  box := (hb.block _ (by have := h.size; omega)).trans h.box
  ans := (hb.block _ (by have := h.size; omega)).trans h.ans
  size := Nat.le_trans h.size hb.size
  fr := h.fr.trans (Fr.of_below hb)
theorem OpAt.cells {W0 W : World} {F : Nat → Prop} {o : Ask} (h : OpAt W0 F o W) : W.cell? ⟨W0.heap.size, 1, none⟩ = some (.string (mk o.path)) ∧ W.cell? ⟨W0.heap.size, 2, none⟩ = some (.string (mk o.dst)) ∧
    W.cell? ⟨W0.heap.size, 3, none⟩ = some (.int .i64 o.off) ∧ W.cell? ⟨W0.heap.size, 4, none⟩ = some (.int .i64 o.len) ∧ W.cell? ⟨W0.heap.size, 5, none⟩ = some (.string (mk o.data)) :=
  ⟨heap_cell h.box 1 _ rfl, heap_cell h.box 2 _ rfl, heap_cell h.box 3 _ rfl, heap_cell h.box 4 _ rfl, heap_cell h.box 5 _ rfl⟩
theorem OpAt.acells {W0 W : World} {F : Nat → Prop} {o : Ask} (h : OpAt W0 F o W) : W.cell? ⟨W0.heap.size + 1, 0, none⟩ = some (.int .i64 0) ∧ W.cell? ⟨W0.heap.size + 1, 1, none⟩ = some (.int .i64 0) ∧
    W.cell? ⟨W0.heap.size + 1, 2, none⟩ = some (.string ⟨#[]⟩) ∧ W.cell? ⟨W0.heap.size + 1, 3, none⟩ = some (.slice none 0 0) ∧
    W.frozen? ⟨W0.heap.size + 1, 0, none⟩ = false ∧ W.frozen? ⟨W0.heap.size + 1, 1, none⟩ = false ∧ W.frozen? ⟨W0.heap.size + 1, 2, none⟩ = false ∧ W.frozen? ⟨W0.heap.size + 1, 3, none⟩ = false :=
  ⟨heap_cell h.ans 0 _ rfl, heap_cell h.ans 1 _ rfl, heap_cell h.ans 2 _ rfl, heap_cell h.ans 3 _ rfl, frozen_of_row _ _ 0 _ _ h.ans, frozen_of_row _ _ 1 _ _ h.ans, frozen_of_row _ _ 2 _ _ h.ans, frozen_of_row _ _ 3 _ _ h.ans⟩
/-- Behind an op: whatever its tree is by then. -/
theorem OpAt.done {W W' : World} {F S : Nat → Prop} {tb : Nat} {loc mloc : Nat → Nat} {g g' : St} {o : Ask} {a : Ans} {e : Ending} {x0 x1 x2 x3 : Value} (ho : OpAt W F o W') (hF : ∀ b, F b → b < W.heap.size) (h : Rep W' F tb S loc mloc g')
    (ha : AnsAt (fun b => F b ∨ b < W.heap.size) (put4 W' (W.heap.size + 1) x0 x1 x2 x3) e a) : OpPost W F tb g (g', a) e (put4 W' (W.heap.size + 1) x0 x1 x2 x3) :=
  OpPost.turned hF (h.same (fun b hb => put4_other (by have := hF b hb; omega)))
    ⟨ho.fr.os, ho.fr.tape, ho.fr.output, by unfold put4; simpa using ho.fr.size, fun k hk hf => (put4_other (by omega)).trans (ho.fr.block k hk hf)⟩ ha

set_option maxRecDepth 100000 in
set_option maxHeartbeats 2000000 in
theorem link_calls {W : World} {F : Nat → Prop} {tb : Nat} {g : St} (h : Tree W F tb g) (o : Ask) (hp : o.path.length ≤ 4398046511104) (hd : o.dst.length ≤ 4398046511104) :
    Calls Tryz.prog 28 #[ptr tb, opV o] W (OpPost W F tb g (linkS g o)) := by
  obtain ⟨⟨S, loc, mloc, hr⟩, hF⟩ := h
  obtain ⟨B, hB⟩ : ∃ B, W.heap.size = B := ⟨_, rfl⟩
  have hs0 := OpAt.start W F o
  have hb0 : Below W.heap.size W ((W.alloc (.cells #[.int .i64 o.do_, .string (mk o.path), .string (mk o.dst), .int .i64 o.off, .int .i64 o.len, .string (mk o.data)] 35)).alloc (.cells #[.int .i64 0, .int .i64 0, .string ⟨#[]⟩, .slice none 0 0] 32)) := balloc (balloc (Below.refl _ _))
  obtain ⟨W0, hW0⟩ : ∃ W0, (W.alloc (.cells #[.int .i64 o.do_, .string (mk o.path), .string (mk o.dst), .int .i64 o.off, .int .i64 o.len, .string (mk o.data)] 35)).alloc (.cells #[.int .i64 0, .int .i64 0, .string ⟨#[]⟩, .slice none 0 0] 32) = W0 := ⟨_, rfl⟩
  rw [hW0] at hs0 hb0
  have HO := Lib.hid hs0
  have HR := Lib.hid (hr.below hb0)
  have HW := Lib.hid hW0
  have hep : (mk o.path).toList = o.path := mk_list _
  clear hs0 hb0 hr hW0
  unfold opV ptr
  go_enter Tryz.func28, Tryz.ntmps28
  go_wp2_with fail
  rw [HW.out]
  have HC := Lib.hid (kind_calls HR.out o.path hp false)
  unfold ptr at HC
  cases hk : kind g o.path false with
  | error c =>
    rw [hk] at HC
    have hc0 : ¬ c = 0 := by have := kind_err hk; omega
    refine HC.out.mono ?_
    rintro e w1 ⟨rfl, hBw⟩
    replace HO := Lib.hid (HO.out.below hBw)
    replace HR := Lib.hid (HR.out.below hBw)
    clear hBw
    unfold resP resE
    obtain ⟨q1, q2, q3, q4, q5⟩ := HO.out.cells
    rw [hB] at q1 q2 q3 q4 q5
    obtain ⟨c0, c1, c2, c3, f0, f1, f2, f3⟩ := HO.out.acells
    rw [hB] at c0 c1 c2 c3 f0 f1 f2 f3
    go_wp2_with fail
    clear q1 q2 q3 q4 q5 c0 c1 c2 c3 f0 f1 f2 f3
    refine (told_calls _ _).mono ?_
    rintro e w2 ⟨rfl, hBw⟩
    replace HO := Lib.hid (HO.out.below hBw)
    replace HR := Lib.hid (HR.out.below hBw)
    clear hBw
    obtain ⟨q1, q2, q3, q4, q5⟩ := HO.out.cells
    rw [hB] at q1 q2 q3 q4 q5
    obtain ⟨c0, c1, c2, c3, f0, f1, f2, f3⟩ := HO.out.acells
    rw [hB] at c0 c1 c2 c3 f0 f1 f2 f3
    go_wp2_with fail
    skip
    refine bodyPost_ret (results_cell_row rfl _ _ (B + 1) 32 #[.int .i64 c, .int .i64 0, .string ⟨#[]⟩, .slice none 0 0] (0, 0) _ rfl (put4_at (hB ▸ HO.out.ans)) Tryz.underlying32 rfl (by kernel_rfl)) rfl ?_
    rw [show linkS g o = (g, told c) by unfold linkS; rw [hk]]
    have hd := OpAt.done (g := g) (x0 := .int .i64 c) (x1 := .int .i64 0) (x2 := .string ⟨#[]⟩) (x3 := .slice none 0 0) HO.out hF HR.out (AnsAt.told _ _ c)
    rw [hB] at hd
    exact hd
  | ok x =>
    rw [hk] at HC
    refine HC.out.mono ?_
    rintro e w3 ⟨rfl, hBw⟩
    replace HO := Lib.hid (HO.out.below hBw)
    replace HR := Lib.hid (HR.out.below hBw)
    clear hBw
    unfold resP resE
    have HC2 := Lib.hid (lay_calls HR.out o.dst hd (leads_in HR.out (kind_ok hk).1))
    unfold ptr at HC2
    obtain ⟨q1, q2, q3, q4, q5⟩ := HO.out.cells
    rw [hB] at q1 q2 q3 q4 q5
    obtain ⟨c0, c1, c2, c3, f0, f1, f2, f3⟩ := HO.out.acells
    rw [hB] at c0 c1 c2 c3 f0 f1 f2 f3
    unfold ptr
    go_wp2_with fail
    clear q1 q2 q3 q4 q5 c0 c1 c2 c3 f0 f1 f2 f3
    refine HC2.out.mono ?_
    rintro e w4 ⟨rfl, hRw, hFw⟩
    replace HO := Lib.hid (HO.out.turn hF hFw)
    replace HR := Lib.hid hRw
    clear hRw hFw
    obtain ⟨q1, q2, q3, q4, q5⟩ := HO.out.cells
    rw [hB] at q1 q2 q3 q4 q5
    obtain ⟨c0, c1, c2, c3, f0, f1, f2, f3⟩ := HO.out.acells
    rw [hB] at c0 c1 c2 c3 f0 f1 f2 f3
    go_wp2_with fail
    clear q1 q2 q3 q4 q5 c0 c1 c2 c3 f0 f1 f2 f3
    refine (told_calls _ _).mono ?_
    rintro e w5 ⟨rfl, hBw⟩
    replace HO := Lib.hid (HO.out.below hBw)
    replace HR := Lib.hid (HR.out.below hBw)
    clear hBw
    obtain ⟨q1, q2, q3, q4, q5⟩ := HO.out.cells
    rw [hB] at q1 q2 q3 q4 q5
    obtain ⟨c0, c1, c2, c3, f0, f1, f2, f3⟩ := HO.out.acells
    rw [hB] at c0 c1 c2 c3 f0 f1 f2 f3
    go_wp2_with fail
    skip
    refine bodyPost_ret (results_cell_row rfl _ _ (B + 1) 32 #[.int .i64 (lay g o.dst x).2, .int .i64 0, .string ⟨#[]⟩, .slice none 0 0] (0, 0) _ rfl (put4_at (hB ▸ HO.out.ans)) Tryz.underlying32 rfl (by kernel_rfl)) rfl ?_
    rw [show linkS g o = ((lay g o.dst x).1, told (lay g o.dst x).2) by unfold linkS; rw [hk]]
    have hd := OpAt.done (g := g) (x0 := .int .i64 (lay g o.dst x).2) (x1 := .int .i64 0) (x2 := .string ⟨#[]⟩) (x3 := .slice none 0 0) HO.out hF HR.out (AnsAt.told _ _ (lay g o.dst x).2)
    rw [hB] at hd
    exact hd

theorem walk_snoc {g : St} {n : Str} {x : Nat} : ∀ {ini : List Str} {i : Nat}, walk g i (ini ++ [n]) = .ok x → ∃ d, walk g i ini = .ok d ∧ isDir g d = true ∧ look (entsOf g d) n = some x
  | [], i, h => by
    rw [List.nil_append] at h
    cases he : (g.node i).ents with
    | none => rw [walk_file he] at h; cases h
    | some l =>
      cases hl : look l n with
      | none => rw [walk_none he hl] at h; cases h
      | some j =>
        rw [walk_some he hl] at h
        have : j = x := by unfold walk at h; injection h
        subst this
        exact ⟨i, rfl, by unfold isDir; rw [he]; rfl, by unfold entsOf; rw [he]; exact hl⟩
  | m :: ini, i, h => by
    rw [List.cons_append] at h
    cases he : (g.node i).ents with
    | none => rw [walk_file he] at h; cases h
    | some l =>
      cases hl : look l m with
      | none => rw [walk_none he hl] at h; cases h
      | some j =>
        rw [walk_some he hl] at h
        obtain ⟨d, h1, h2⟩ := walk_snoc h
        exact ⟨d, by rw [walk_some he hl]; exact h1, h2⟩
theorem leads_parent {g : St} {s : Str} {x : Nat} (h : leads g s = .ok x) (hs : s ≠ [47]) : ∃ p n d, parentV s = (p, n, 0) ∧ p.length ≤ s.length ∧ leads g p = .ok d ∧ isDir g d = true ∧ look (entsOf g d) n = some x := by
  rcases parentV_cases s with ⟨p, n, hp, hpl, ini, hsp, hip⟩ | ⟨_, hsp⟩ | ⟨_, hsp⟩
  · unfold leads at h
    rw [hsp] at h
    obtain ⟨d, h1, h2, h3⟩ := walk_snoc h
    exact ⟨p, n, d, hp, hpl, by unfold leads; rw [hip]; exact h1, h2, h3⟩
  · rcases split_some hsp with ⟨e, _⟩ | ⟨r, rfl, hr, _, hn⟩
    · exact absurd e hs
    · exact absurd hn.symm (parts_ne r)
  · unfold leads at h
    rw [hsp] at h
    cases h
theorem leads_root {g : St} : leads g [47] = .ok 0 := rfl
theorem look_append {l : List (Str × Nat)} {m n : Str} {j x : Nat} (h : look l m = some j) : look (l ++ [(n, x)]) m = some j := by
  induction l with
  | nil => cases h
  | cons p l ih =>
    unfold look at h
    rw [List.cons_append]
    unfold look
    by_cases hp : p.1 = m
    · rw [if_pos hp] at h ⊢; exact h
    · rw [if_neg hp] at h ⊢; exact ih h
theorem ents_lay {g : St} {d x : Nat} {n : Str} (hd : isDir g d = true) (i : Nat) : (((addLink (addEnt g d n x) x 1).node i).ents = (g.node i).ents ∧ i ≠ d) ∨ (i = d ∧ ((addLink (addEnt g d n x) x 1).node i).ents = some (entsOf g d ++ [(n, x)])) := by
  by_cases hid : i = d
  · subst hid
    refine .inr ⟨rfl, ?_⟩
    unfold addLink addEnt
    by_cases hix : i = x
    · subst hix; simp only [upd_at]
    · simp only [upd_ne _ _ hix, upd_at]
  · refine .inl ⟨?_, hid⟩
    unfold addLink addEnt
    by_cases hix : i = x
    · subst hix; simp only [upd_at, upd_ne _ _ hid]
    · simp only [upd_ne _ _ hix, upd_ne _ _ hid]
theorem isDir_lay {g : St} {d x : Nat} {n : Str} (hd : isDir g d = true) (i : Nat) : isDir (addLink (addEnt g d n x) x 1) i = isDir g i := by
  rcases ents_lay (x := x) (n := n) hd i with ⟨h, _⟩ | ⟨rfl, h⟩
  · unfold isDir; rw [h]
  · rw [hd]; unfold isDir; rw [h]; rfl
theorem dir_entsOf {g : St} {i : Nat} (h : isDir g i = true) : (g.node i).ents = some (entsOf g i) := by
  obtain ⟨l, hl⟩ : ∃ l, (g.node i).ents = some l := Option.isSome_iff_exists.1 h
  unfold entsOf
  rw [hl]
  rfl
theorem walk_lay {g : St} {d x y : Nat} {n : Str} (hd : isDir g d = true) : ∀ (ns : List Str) (i : Nat), walk g i ns = .ok y → walk (addLink (addEnt g d n x) x 1) i ns = .ok y
  | [], i, h => h
  | m :: ns, i, h => by
    cases he : (g.node i).ents with
    | none => rw [walk_file he] at h; cases h
    | some l =>
      cases hl : look l m with
      | none => rw [walk_none he hl] at h; cases h
      | some j =>
        rw [walk_some he hl] at h
        rcases ents_lay (x := x) (n := n) hd i with ⟨e, _⟩ | ⟨rfl, e⟩
        · rw [walk_some (e.trans he) hl]
          exact walk_lay hd ns j h
        · have hel : entsOf g i = l := by unfold entsOf; rw [he]; rfl
          rw [hel] at e
          rw [walk_some e (look_append hl)]
          exact walk_lay hd ns j h
theorem look_lay {g : St} {d x j : Nat} {n m : Str} (hd : isDir g d = true) {i : Nat} (h : look (entsOf g i) m = some j) : look (entsOf (addLink (addEnt g d n x) x 1) i) m = some j := by
  rcases ents_lay (x := x) (n := n) hd i with ⟨e, _⟩ | ⟨rfl, e⟩
  · unfold entsOf at *; rw [e]; exact h
  · have : entsOf (addLink (addEnt g i n x) x 1) i = entsOf g i ++ [(n, x)] := by
      conv => lhs; unfold entsOf
      rw [e]; rfl
    rw [this]
    exact look_append h
theorem lay_ok {g : St} {s : Str} {x : Nat} (h : (lay g s x).2 = 0) : ∃ d n, free g s = .ok (d, n) ∧ isDir g d = true ∧ (lay g s x).1 = addLink (addEnt g d n x) x 1 := by
  unfold lay at *
  cases hf : free g s with
  | error c => rw [hf] at h; exact absurd h (free_err hf)
  | ok p =>
    obtain ⟨d, n⟩ := p
    obtain ⟨_, _, hk, _⟩ := free_ok hf
    exact ⟨d, n, rfl, (kind_ok hk).2, rfl⟩

set_option maxRecDepth 100000 in
set_option maxHeartbeats 2000000 in
theorem unlink_calls {W : World} {F : Nat → Prop} {tb : Nat} {g : St} (h : Tree W F tb g) (o : Ask) (hp : o.path.length ≤ 4398046511104) :
    Calls Tryz.prog 29 #[ptr tb, opV o] W (OpPost W F tb g (unlinkS g o)) := by
  obtain ⟨⟨S, loc, mloc, hr⟩, hF⟩ := h
  obtain ⟨B, hB⟩ : ∃ B, W.heap.size = B := ⟨_, rfl⟩
  have hs0 := OpAt.start W F o
  have hb0 : Below W.heap.size W ((W.alloc (.cells #[.int .i64 o.do_, .string (mk o.path), .string (mk o.dst), .int .i64 o.off, .int .i64 o.len, .string (mk o.data)] 35)).alloc (.cells #[.int .i64 0, .int .i64 0, .string ⟨#[]⟩, .slice none 0 0] 32)) := balloc (balloc (Below.refl _ _))
  obtain ⟨W0, hW0⟩ : ∃ W0, (W.alloc (.cells #[.int .i64 o.do_, .string (mk o.path), .string (mk o.dst), .int .i64 o.off, .int .i64 o.len, .string (mk o.data)] 35)).alloc (.cells #[.int .i64 0, .int .i64 0, .string ⟨#[]⟩, .slice none 0 0] 32) = W0 := ⟨_, rfl⟩
  rw [hW0] at hs0 hb0
  have HO := Lib.hid hs0
  have HR := Lib.hid (hr.below hb0)
  have HW := Lib.hid hW0
  have hep : (mk o.path).toList = o.path := mk_list _
  clear hs0 hb0 hr hW0
  unfold opV ptr
  go_enter Tryz.func29, Tryz.ntmps29
  go_wp2_with fail
  rw [HW.out]
  have HC := Lib.hid (kind_calls HR.out o.path hp false)
  unfold ptr at HC
  cases hk : kind g o.path false with
  | error c =>
    rw [hk] at HC
    have hc0 : ¬ c = 0 := by have := kind_err hk; omega
    refine HC.out.mono ?_
    rintro e w1 ⟨rfl, hBw⟩
    replace HO := Lib.hid (HO.out.below hBw)
    replace HR := Lib.hid (HR.out.below hBw)
    clear hBw
    unfold resP resE
    obtain ⟨q1, q2, q3, q4, q5⟩ := HO.out.cells
    rw [hB] at q1 q2 q3 q4 q5
    obtain ⟨c0, c1, c2, c3, f0, f1, f2, f3⟩ := HO.out.acells
    rw [hB] at c0 c1 c2 c3 f0 f1 f2 f3
    go_wp2_with fail
    clear q1 q2 q3 q4 q5 c0 c1 c2 c3 f0 f1 f2 f3
    refine (told_calls _ _).mono ?_
    rintro e w2 ⟨rfl, hBw⟩
    replace HO := Lib.hid (HO.out.below hBw)
    replace HR := Lib.hid (HR.out.below hBw)
    clear hBw
    obtain ⟨q1, q2, q3, q4, q5⟩ := HO.out.cells
    rw [hB] at q1 q2 q3 q4 q5
    obtain ⟨c0, c1, c2, c3, f0, f1, f2, f3⟩ := HO.out.acells
    rw [hB] at c0 c1 c2 c3 f0 f1 f2 f3
    go_wp2_with fail
    skip
    refine bodyPost_ret (results_cell_row rfl _ _ (B + 1) 32 #[.int .i64 c, .int .i64 0, .string ⟨#[]⟩, .slice none 0 0] (0, 0) _ rfl (put4_at (hB ▸ HO.out.ans)) Tryz.underlying32 rfl (by kernel_rfl)) rfl ?_
    rw [show unlinkS g o = (g, told c) by unfold unlinkS; rw [hk]]
    have hd := OpAt.done (g := g) (x0 := .int .i64 c) (x1 := .int .i64 0) (x2 := .string ⟨#[]⟩) (x3 := .slice none 0 0) HO.out hF HR.out (AnsAt.told _ _ c)
    rw [hB] at hd
    exact hd
  | ok x =>
    rw [hk] at HC
    refine HC.out.mono ?_
    rintro e w3 ⟨rfl, hBw⟩
    replace HO := Lib.hid (HO.out.below hBw)
    replace HR := Lib.hid (HR.out.below hBw)
    clear hBw
    unfold resP resE
    have hne : o.path ≠ [47] := fun e => by have h1 := kind_ok hk; rw [e, leads_root] at h1; have h2 := h1.1; cases h2; rw [HR.out.dir0] at h1; cases h1.2
    obtain ⟨p, n, d, hpv, hpl, hlp, hdx, hlk⟩ := leads_parent (kind_ok hk).1 hne
    have HC2 := Lib.hid (cut_calls HR.out o.path hp hpv hpl hlp hdx hlk)
    unfold ptr at HC2
    obtain ⟨q1, q2, q3, q4, q5⟩ := HO.out.cells
    rw [hB] at q1 q2 q3 q4 q5
    obtain ⟨c0, c1, c2, c3, f0, f1, f2, f3⟩ := HO.out.acells
    rw [hB] at c0 c1 c2 c3 f0 f1 f2 f3
    unfold ptr
    go_wp2_with fail
    clear q1 q2 q3 q4 q5 c0 c1 c2 c3 f0 f1 f2 f3
    refine HC2.out.mono ?_
    rintro e w4 ⟨rfl, hRw, hFw⟩
    replace HO := Lib.hid (HO.out.turn hF hFw)
    replace HR := Lib.hid hRw
    clear hRw hFw
    obtain ⟨q1, q2, q3, q4, q5⟩ := HO.out.cells
    rw [hB] at q1 q2 q3 q4 q5
    obtain ⟨c0, c1, c2, c3, f0, f1, f2, f3⟩ := HO.out.acells
    rw [hB] at c0 c1 c2 c3 f0 f1 f2 f3
    go_wp2_with fail
    clear q1 q2 q3 q4 q5 c0 c1 c2 c3 f0 f1 f2 f3
    refine (told_calls _ _).mono ?_
    rintro e w5 ⟨rfl, hBw⟩
    replace HO := Lib.hid (HO.out.below hBw)
    replace HR := Lib.hid (HR.out.below hBw)
    clear hBw
    obtain ⟨q1, q2, q3, q4, q5⟩ := HO.out.cells
    rw [hB] at q1 q2 q3 q4 q5
    obtain ⟨c0, c1, c2, c3, f0, f1, f2, f3⟩ := HO.out.acells
    rw [hB] at c0 c1 c2 c3 f0 f1 f2 f3
    go_wp2_with fail
    skip
    refine bodyPost_ret (results_cell_row rfl _ _ (B + 1) 32 #[.int .i64 0, .int .i64 0, .string ⟨#[]⟩, .slice none 0 0] (0, 0) _ rfl (put4_at (hB ▸ HO.out.ans)) Tryz.underlying32 rfl (by kernel_rfl)) rfl ?_
    rw [show unlinkS g o = (cut g o.path, told 0) by unfold unlinkS; rw [hk]]
    have hd := OpAt.done (g := g) (x0 := .int .i64 0) (x1 := .int .i64 0) (x2 := .string ⟨#[]⟩) (x3 := .slice none 0 0) HO.out hF HR.out (AnsAt.told _ _ 0)
    rw [hB] at hd
    exact hd

end Go.Proofs.YtaccokghjpcijaaGreatDoor
set_option linter.unusedVariables false
set_option linter.unusedSimpArgs false
namespace Go.Proofs.YtaccokghjpcijaaGreatDoor
open Go Go.RowKit Pp Go.Proofs.YtaccokghjpcijaaGreatDoorW.PrintWords
open Go.ChangeMaps (setBlock)

theorem map_len {P : Program} {t ty k e : TypeId} {W : World} {b : Nat} {l : List (Value × Value)} (ht : P.underlying t = some (.map k e)) (h : MapAt W b l) : (Builtin.len_ #[t] ty #[.map (some b)]).run P W = .ok (.int .i64 l.length) W := by
  obtain ⟨es, clock, hb, hs⟩ := h.size
  rw [← hs]
  simp [Builtin.len_, run_underlying ht, MapKept.run_getObj_map hb, Result.andThen, goInt]
set_option maxRecDepth 100000 in
set_option maxHeartbeats 2000000 in
theorem rmdir_calls {W : World} {F : Nat → Prop} {tb : Nat} {g : St} (h : Tree W F tb g) (o : Ask) (hp : o.path.length ≤ 4398046511104) :
    Calls Tryz.prog 30 #[ptr tb, opV o] W (OpPost W F tb g (rmdirS g o)) := by
  obtain ⟨⟨S, loc, mloc, hr⟩, hF⟩ := h
  obtain ⟨B, hB⟩ : ∃ B, W.heap.size = B := ⟨_, rfl⟩
  have hs0 := OpAt.start W F o
  have hb0 : Below W.heap.size W ((W.alloc (.cells #[.int .i64 o.do_, .string (mk o.path), .string (mk o.dst), .int .i64 o.off, .int .i64 o.len, .string (mk o.data)] 35)).alloc (.cells #[.int .i64 0, .int .i64 0, .string ⟨#[]⟩, .slice none 0 0] 32)) := balloc (balloc (Below.refl _ _))
  obtain ⟨W0, hW0⟩ : ∃ W0, (W.alloc (.cells #[.int .i64 o.do_, .string (mk o.path), .string (mk o.dst), .int .i64 o.off, .int .i64 o.len, .string (mk o.data)] 35)).alloc (.cells #[.int .i64 0, .int .i64 0, .string ⟨#[]⟩, .slice none 0 0] 32) = W0 := ⟨_, rfl⟩
  rw [hW0] at hs0 hb0
  have HO := Lib.hid hs0
  have HR := Lib.hid (hr.below hb0)
  have HW := Lib.hid hW0
  have hep : (mk o.path).toList = o.path := mk_list _
  clear hs0 hb0 hr hW0
  by_cases hroot : o.path = [47]
  · skip
    have hb : (o.path == [47]) = true := by rw [hroot]; rfl
    have HRo := Lib.hid hroot
    clear hroot
    unfold opV ptr
    go_enter Tryz.func30, Tryz.ntmps30
    go_wp2_with fail
    rw [HW.out]
    refine (told_calls _ _).mono ?_
    rintro e w1 ⟨rfl, hBw⟩
    replace HO := Lib.hid (HO.out.below hBw)
    replace HR := Lib.hid (HR.out.below hBw)
    clear hBw
    obtain ⟨q1, q2, q3, q4, q5⟩ := HO.out.cells
    rw [hB] at q1 q2 q3 q4 q5
    obtain ⟨c0, c1, c2, c3, f0, f1, f2, f3⟩ := HO.out.acells
    rw [hB] at c0 c1 c2 c3 f0 f1 f2 f3
    go_wp2_with fail
    skip
    refine bodyPost_ret (results_cell_row rfl _ _ (B + 1) 32 #[.int .i64 1, .int .i64 0, .string ⟨#[]⟩, .slice none 0 0] (0, 0) _ rfl (put4_at (hB ▸ HO.out.ans)) Tryz.underlying32 rfl (by kernel_rfl)) rfl ?_
    rw [show rmdirS g o = (g, told 1) by unfold rmdirS; rw [if_pos HRo.out]]
    have hd := OpAt.done (g := g) (x0 := .int .i64 1) (x1 := .int .i64 0) (x2 := .string ⟨#[]⟩) (x3 := .slice none 0 0) HO.out hF HR.out (AnsAt.told _ _ 1)
    rw [hB] at hd
    exact hd
  · skip
    have hb : (o.path == [47]) = false := beq_eq_false_iff_ne.2 hroot
    have HRo := Lib.hid hroot
    clear hroot
    unfold opV ptr
    go_enter Tryz.func30, Tryz.ntmps30
    go_wp2_with fail
    rw [HW.out]
    have hq : rmdirS g o = match kind g o.path true with | .error e => (g, told e) | .ok x => if 0 < (entsOf g x).length then (g, told 14) else (cut g o.path, told 0) := if_neg HRo.out
    have HQ := Lib.hid hq
    clear hq
    have HC := Lib.hid (kind_calls HR.out o.path hp true)
    unfold ptr at HC
    cases hk : kind g o.path true with
    | error c =>
      rw [hk] at HC
      have hc0 : ¬ c = 0 := by have := kind_err hk; omega
      refine HC.out.mono ?_
      rintro e w2 ⟨rfl, hBw⟩
      replace HO := Lib.hid (HO.out.below hBw)
      replace HR := Lib.hid (HR.out.below hBw)
      clear hBw
      unfold resP resE
      obtain ⟨q1, q2, q3, q4, q5⟩ := HO.out.cells
      rw [hB] at q1 q2 q3 q4 q5
      obtain ⟨c0, c1, c2, c3, f0, f1, f2, f3⟩ := HO.out.acells
      rw [hB] at c0 c1 c2 c3 f0 f1 f2 f3
      go_wp2_with fail
      clear q1 q2 q3 q4 q5 c0 c1 c2 c3 f0 f1 f2 f3
      refine (told_calls _ _).mono ?_
      rintro e w3 ⟨rfl, hBw⟩
      replace HO := Lib.hid (HO.out.below hBw)
      replace HR := Lib.hid (HR.out.below hBw)
      clear hBw
      obtain ⟨q1, q2, q3, q4, q5⟩ := HO.out.cells
      rw [hB] at q1 q2 q3 q4 q5
      obtain ⟨c0, c1, c2, c3, f0, f1, f2, f3⟩ := HO.out.acells
      rw [hB] at c0 c1 c2 c3 f0 f1 f2 f3
      go_wp2_with fail
      skip
      refine bodyPost_ret (results_cell_row rfl _ _ (B + 1) 32 #[.int .i64 c, .int .i64 0, .string ⟨#[]⟩, .slice none 0 0] (0, 0) _ rfl (put4_at (hB ▸ HO.out.ans)) Tryz.underlying32 rfl (by kernel_rfl)) rfl ?_
      rw [show rmdirS g o = (g, told c) by rw [HQ.out, hk]]
      have hd := OpAt.done (g := g) (x0 := .int .i64 c) (x1 := .int .i64 0) (x2 := .string ⟨#[]⟩) (x3 := .slice none 0 0) HO.out hF HR.out (AnsAt.told _ _ c)
      rw [hB] at hd
      exact hd
    | ok x =>
      rw [hk] at HC
      refine HC.out.mono ?_
      rintro e w4 ⟨rfl, hBw⟩
      replace HO := Lib.hid (HO.out.below hBw)
      replace HR := Lib.hid (HR.out.below hBw)
      clear hBw
      unfold resP resE
      have hx := leads_in HR.out (kind_ok hk).1
      have hxd := (kind_ok hk).2
      have he := dir_entsOf hxd
      have HN := Lib.hid (HR.out.node x hx)
      have hcell := HN.out.heap
      rw [show entsV mloc x (g.node x) = .map (some (mloc x)) by unfold entsV; rw [he]] at hcell
      have hxc : w4.cell? ⟨loc x, 0, none⟩ = some (Value.map (some (mloc x))) := heap_cell hcell 0 _ rfl
      have hln := map_len (ty := 3) Tryz.underlying55 (HN.out.map he)
      rw [List.length_map] at hln
      have HQ2 := Lib.hid (show rmdirS g o = if 0 < (entsOf g x).length then (g, told 14) else (cut g o.path, told 0) by rw [HQ.out, hk])
      obtain ⟨p, n, d, hpv, hpl, hlp, hdx, hlk⟩ := leads_parent (kind_ok hk).1 HRo.out
      have HC2 := Lib.hid (cut_calls HR.out o.path hp hpv hpl hlp hdx hlk)
      unfold ptr at HC2
      clear hpv hpl hlp hdx hlk he hcell
      by_cases hz : 0 < (entsOf g x).length
      · have hz1 : (0 : Int) < ((entsOf g x).length : Int) := by omega
        have HZ := Lib.hid hz
        clear hz
        obtain ⟨q1, q2, q3, q4, q5⟩ := HO.out.cells
        rw [hB] at q1 q2 q3 q4 q5
        obtain ⟨c0, c1, c2, c3, f0, f1, f2, f3⟩ := HO.out.acells
        rw [hB] at c0 c1 c2 c3 f0 f1 f2 f3
        unfold ptr
        go_wp2_with fail
        clear q1 q2 q3 q4 q5 c0 c1 c2 c3 f0 f1 f2 f3
        refine (told_calls _ _).mono ?_
        rintro e w5 ⟨rfl, hBw⟩
        replace HO := Lib.hid (HO.out.below hBw)
        replace HR := Lib.hid (HR.out.below hBw)
        clear hBw
        obtain ⟨q1, q2, q3, q4, q5⟩ := HO.out.cells
        rw [hB] at q1 q2 q3 q4 q5
        obtain ⟨c0, c1, c2, c3, f0, f1, f2, f3⟩ := HO.out.acells
        rw [hB] at c0 c1 c2 c3 f0 f1 f2 f3
        go_wp2_with fail
        skip
        refine bodyPost_ret (results_cell_row rfl _ _ (B + 1) 32 #[.int .i64 14, .int .i64 0, .string ⟨#[]⟩, .slice none 0 0] (0, 0) _ rfl (put4_at (hB ▸ HO.out.ans)) Tryz.underlying32 rfl (by kernel_rfl)) rfl ?_
        rw [show rmdirS g o = (g, told 14) by rw [HQ2.out, if_pos HZ.out]]
        have hd := OpAt.done (g := g) (x0 := .int .i64 14) (x1 := .int .i64 0) (x2 := .string ⟨#[]⟩) (x3 := .slice none 0 0) HO.out hF HR.out (AnsAt.told _ _ 14)
        rw [hB] at hd
        exact hd
      · have hz1 : ((entsOf g x).length : Int) = 0 := by omega
        have HZ := Lib.hid hz
        clear hz
        obtain ⟨q1, q2, q3, q4, q5⟩ := HO.out.cells
        rw [hB] at q1 q2 q3 q4 q5
        obtain ⟨c0, c1, c2, c3, f0, f1, f2, f3⟩ := HO.out.acells
        rw [hB] at c0 c1 c2 c3 f0 f1 f2 f3
        unfold ptr
        go_wp2_with fail
        clear q1 q2 q3 q4 q5 c0 c1 c2 c3 f0 f1 f2 f3
        refine HC2.out.mono ?_
        rintro e w6 ⟨rfl, hRw, hFw⟩
        replace HO := Lib.hid (HO.out.turn hF hFw)
        replace HR := Lib.hid hRw
        clear hRw hFw
        obtain ⟨q1, q2, q3, q4, q5⟩ := HO.out.cells
        rw [hB] at q1 q2 q3 q4 q5
        obtain ⟨c0, c1, c2, c3, f0, f1, f2, f3⟩ := HO.out.acells
        rw [hB] at c0 c1 c2 c3 f0 f1 f2 f3
        go_wp2_with fail
        skip
        refine bodyPost_ret (results_cell_row rfl _ _ (B + 1) 32 #[.int .i64 0, .int .i64 0, .string ⟨#[]⟩, .slice none 0 0] (0, 0) _ rfl (put4_at (hB ▸ HO.out.ans)) Tryz.underlying32 rfl (by kernel_rfl)) rfl ?_
        rw [show rmdirS g o = (cut g o.path, told 0) by rw [HQ2.out, if_neg HZ.out]]
        have hd := OpAt.done (g := g) (x0 := .int .i64 0) (x1 := .int .i64 0) (x2 := .string ⟨#[]⟩) (x3 := .slice none 0 0) HO.out hF HR.out (AnsAt.told _ _ 0)
        rw [hB] at hd
        exact hd

end Go.Proofs.YtaccokghjpcijaaGreatDoor
set_option linter.unusedVariables false
set_option linter.unusedSimpArgs false
namespace Go.Proofs.YtaccokghjpcijaaGreatDoor
open Go Go.RowKit Pp Go.Proofs.YtaccokghjpcijaaGreatDoorW.PrintWords

set_option maxRecDepth 100000 in
set_option maxHeartbeats 2000000 in
theorem rename_calls {W : World} {F : Nat → Prop} {tb : Nat} {g : St} (h : Tree W F tb g) (o : Ask) (hp : o.path.length ≤ 4398046511104) (hd : o.dst.length ≤ 4398046511104) :
    Calls Tryz.prog 31 #[ptr tb, opV o] W (OpPost W F tb g (renameS g o)) := by
  obtain ⟨⟨S, loc, mloc, hr⟩, hF⟩ := h
  obtain ⟨B, hB⟩ : ∃ B, W.heap.size = B := ⟨_, rfl⟩
  have hs0 := OpAt.start W F o
  have hb0 : Below W.heap.size W ((W.alloc (.cells #[.int .i64 o.do_, .string (mk o.path), .string (mk o.dst), .int .i64 o.off, .int .i64 o.len, .string (mk o.data)] 35)).alloc (.cells #[.int .i64 0, .int .i64 0, .string ⟨#[]⟩, .slice none 0 0] 32)) := balloc (balloc (Below.refl _ _))
  obtain ⟨W0, hW0⟩ : ∃ W0, (W.alloc (.cells #[.int .i64 o.do_, .string (mk o.path), .string (mk o.dst), .int .i64 o.off, .int .i64 o.len, .string (mk o.data)] 35)).alloc (.cells #[.int .i64 0, .int .i64 0, .string ⟨#[]⟩, .slice none 0 0] 32) = W0 := ⟨_, rfl⟩
  rw [hW0] at hs0 hb0
  have HO := Lib.hid hs0
  have HR := Lib.hid (hr.below hb0)
  have HW := Lib.hid hW0
  have hep : (mk o.path).toList = o.path := mk_list _
  clear hs0 hb0 hr hW0
  by_cases hroot : o.path = [47]
  · skip
    have hb : (o.path == [47]) = true := by rw [hroot]; rfl
    have HRo := Lib.hid hroot
    clear hroot
    unfold opV ptr
    go_enter Tryz.func31, Tryz.ntmps31
    go_wp2_with fail
    rw [HW.out]
    refine (told_calls _ _).mono ?_
    rintro e w1 ⟨rfl, hBw⟩
    replace HO := Lib.hid (HO.out.below hBw)
    replace HR := Lib.hid (HR.out.below hBw)
    clear hBw
    obtain ⟨q1, q2, q3, q4, q5⟩ := HO.out.cells
    rw [hB] at q1 q2 q3 q4 q5
    obtain ⟨c0, c1, c2, c3, f0, f1, f2, f3⟩ := HO.out.acells
    rw [hB] at c0 c1 c2 c3 f0 f1 f2 f3
    go_wp2_with fail
    skip
    refine bodyPost_ret (results_cell_row rfl _ _ (B + 1) 32 #[.int .i64 1, .int .i64 0, .string ⟨#[]⟩, .slice none 0 0] (0, 0) _ rfl (put4_at (hB ▸ HO.out.ans)) Tryz.underlying32 rfl (by kernel_rfl)) rfl ?_
    rw [show renameS g o = (g, told 1) from if_pos HRo.out]
    have hd := OpAt.done (g := g) (x0 := .int .i64 1) (x1 := .int .i64 0) (x2 := .string ⟨#[]⟩) (x3 := .slice none 0 0) HO.out hF HR.out (AnsAt.told _ _ 1)
    rw [hB] at hd
    exact hd
  · skip
    have hb : (o.path == [47]) = false := beq_eq_false_iff_ne.2 hroot
    have HRo := Lib.hid hroot
    clear hroot
    unfold opV ptr
    go_enter Tryz.func31, Tryz.ntmps31
    go_wp2_with fail
    rw [HW.out]
    have hq : renameS g o = match leads g o.path with | .error e => (g, told e) | .ok x => if within o.path o.dst = true then (g, told 1) else match lay g o.dst x with | (g', e) => if e = 0 then (cut g' o.path, told e) else (g', told e) := if_neg HRo.out
    have HQ := Lib.hid hq
    clear hq
    have HC := Lib.hid (leads_calls HR.out o.path hp)
    unfold ptr at HC
    cases hk : leads g o.path with
    | error c =>
      rw [hk] at HC
      have hc0 : ¬ c = 0 := by have := leads_err hk; omega
      refine HC.out.mono ?_
      rintro e w2 ⟨rfl, hBw⟩
      replace HO := Lib.hid (HO.out.below hBw)
      replace HR := Lib.hid (HR.out.below hBw)
      clear hBw
      unfold resP resE
      obtain ⟨q1, q2, q3, q4, q5⟩ := HO.out.cells
      rw [hB] at q1 q2 q3 q4 q5
      obtain ⟨c0, c1, c2, c3, f0, f1, f2, f3⟩ := HO.out.acells
      rw [hB] at c0 c1 c2 c3 f0 f1 f2 f3
      go_wp2_with fail
      clear q1 q2 q3 q4 q5 c0 c1 c2 c3 f0 f1 f2 f3
      refine (told_calls _ _).mono ?_
      rintro e w3 ⟨rfl, hBw⟩
      replace HO := Lib.hid (HO.out.below hBw)
      replace HR := Lib.hid (HR.out.below hBw)
      clear hBw
      obtain ⟨q1, q2, q3, q4, q5⟩ := HO.out.cells
      rw [hB] at q1 q2 q3 q4 q5
      obtain ⟨c0, c1, c2, c3, f0, f1, f2, f3⟩ := HO.out.acells
      rw [hB] at c0 c1 c2 c3 f0 f1 f2 f3
      go_wp2_with fail
      skip
      refine bodyPost_ret (results_cell_row rfl _ _ (B + 1) 32 #[.int .i64 c, .int .i64 0, .string ⟨#[]⟩, .slice none 0 0] (0, 0) _ rfl (put4_at (hB ▸ HO.out.ans)) Tryz.underlying32 rfl (by kernel_rfl)) rfl ?_
      rw [show renameS g o = (g, told c) by rw [HQ.out, hk]]
      have hd := OpAt.done (g := g) (x0 := .int .i64 c) (x1 := .int .i64 0) (x2 := .string ⟨#[]⟩) (x3 := .slice none 0 0) HO.out hF HR.out (AnsAt.told _ _ c)
      rw [hB] at hd
      exact hd
    | ok x =>
      rw [hk] at HC
      refine HC.out.mono ?_
      rintro e w4 ⟨rfl, hBw⟩
      replace HO := Lib.hid (HO.out.below hBw)
      replace HR := Lib.hid (HR.out.below hBw)
      clear hBw
      unfold resP resE
      have hx := leads_in HR.out hk
      have HQ2 := Lib.hid (show renameS g o = if within o.path o.dst = true then (g, told 1) else if (lay g o.dst x).2 = 0 then (cut (lay g o.dst x).1 o.path, told (lay g o.dst x).2) else ((lay g o.dst x).1, told (lay g o.dst x).2) by rw [HQ.out, hk])
      obtain ⟨q1, q2, q3, q4, q5⟩ := HO.out.cells
      rw [hB] at q1 q2 q3 q4 q5
      obtain ⟨c0, c1, c2, c3, f0, f1, f2, f3⟩ := HO.out.acells
      rw [hB] at c0 c1 c2 c3 f0 f1 f2 f3
      unfold ptr
      go_wp2_with fail
      clear q1 q2 q3 q4 q5 c0 c1 c2 c3 f0 f1 f2 f3
      cases hwi : within o.path o.dst with
      | true =>
        refine (within_lit o.path o.dst true hwi hp hd _).mono ?_
        rintro e w5 ⟨rfl, hBw⟩
        replace HO := Lib.hid (HO.out.below hBw)
        replace HR := Lib.hid (HR.out.below hBw)
        clear hBw
        obtain ⟨q1, q2, q3, q4, q5⟩ := HO.out.cells
        rw [hB] at q1 q2 q3 q4 q5
        obtain ⟨c0, c1, c2, c3, f0, f1, f2, f3⟩ := HO.out.acells
        rw [hB] at c0 c1 c2 c3 f0 f1 f2 f3
        go_wp2_with fail
        clear q1 q2 q3 q4 q5 c0 c1 c2 c3 f0 f1 f2 f3
        refine (told_calls _ _).mono ?_
        rintro e w6 ⟨rfl, hBw⟩
        replace HO := Lib.hid (HO.out.below hBw)
        replace HR := Lib.hid (HR.out.below hBw)
        clear hBw
        obtain ⟨q1, q2, q3, q4, q5⟩ := HO.out.cells
        rw [hB] at q1 q2 q3 q4 q5
        obtain ⟨c0, c1, c2, c3, f0, f1, f2, f3⟩ := HO.out.acells
        rw [hB] at c0 c1 c2 c3 f0 f1 f2 f3
        go_wp2_with fail
        skip
        refine bodyPost_ret (results_cell_row rfl _ _ (B + 1) 32 #[.int .i64 1, .int .i64 0, .string ⟨#[]⟩, .slice none 0 0] (0, 0) _ rfl (put4_at (hB ▸ HO.out.ans)) Tryz.underlying32 rfl (by kernel_rfl)) rfl ?_
        rw [show renameS g o = (g, told 1) by rw [HQ2.out, if_pos hwi]]
        have hd := OpAt.done (g := g) (x0 := .int .i64 1) (x1 := .int .i64 0) (x2 := .string ⟨#[]⟩) (x3 := .slice none 0 0) HO.out hF HR.out (AnsAt.told _ _ 1)
        rw [hB] at hd
        exact hd
      | false =>
        have HQ3 := Lib.hid (HQ2.out.trans (if_neg (by rw [hwi]; decide)))
        refine (within_lit o.path o.dst false hwi hp hd _).mono ?_
        rintro e w7 ⟨rfl, hBw⟩
        replace HO := Lib.hid (HO.out.below hBw)
        replace HR := Lib.hid (HR.out.below hBw)
        clear hBw
        have HC2 := Lib.hid (lay_calls HR.out o.dst hd hx)
        unfold ptr at HC2
        obtain ⟨q1, q2, q3, q4, q5⟩ := HO.out.cells
        rw [hB] at q1 q2 q3 q4 q5
        obtain ⟨c0, c1, c2, c3, f0, f1, f2, f3⟩ := HO.out.acells
        rw [hB] at c0 c1 c2 c3 f0 f1 f2 f3
        go_wp2_with fail
        clear q1 q2 q3 q4 q5 c0 c1 c2 c3 f0 f1 f2 f3
        by_cases hz : (lay g o.dst x).2 = 0
        · skip
          obtain ⟨d2, n2, hf2, hd2, hl2⟩ := lay_ok hz
          obtain ⟨p, n, d, hpv, hpl, hlp, hdx, hlk⟩ := leads_parent hk HRo.out
          have hlp2 : leads (lay g o.dst x).1 p = .ok d := by rw [hl2]; unfold leads at hlp ⊢; cases hsp : split p with | none => rw [hsp] at hlp; cases hlp | some ns => rw [hsp] at hlp; exact walk_lay hd2 ns 0 hlp
          have hdx2 : isDir (lay g o.dst x).1 d = true := by rw [hl2, isDir_lay hd2]; exact hdx
          have hlk2 : look (entsOf (lay g o.dst x).1 d) n = some x := by rw [hl2]; exact look_lay hd2 hlk
          have HPV := Lib.hid hpv
          have HLP := Lib.hid hlp2
          have HDX := Lib.hid hdx2
          have HLK := Lib.hid hlk2
          have HZ := Lib.hid hz
          clear hpv hlp2 hdx2 hlk2 hlp hdx hlk hf2 hd2 hl2 hz
          refine HC2.out.mono ?_
          rintro e w8 ⟨rfl, hRw, hFw⟩
          replace HO := Lib.hid (HO.out.turn hF hFw)
          replace HR := Lib.hid hRw
          clear hRw hFw
          have HC3 := Lib.hid (cut_calls HR.out o.path hp HPV.out hpl HLP.out HDX.out HLK.out)
          unfold ptr at HC3
          have hz := HZ.out
          obtain ⟨q1, q2, q3, q4, q5⟩ := HO.out.cells
          rw [hB] at q1 q2 q3 q4 q5
          obtain ⟨c0, c1, c2, c3, f0, f1, f2, f3⟩ := HO.out.acells
          rw [hB] at c0 c1 c2 c3 f0 f1 f2 f3
          go_wp2_with fail
          clear q1 q2 q3 q4 q5 c0 c1 c2 c3 f0 f1 f2 f3
          refine HC3.out.mono ?_
          rintro e w9 ⟨rfl, hRw, hFw⟩
          replace HO := Lib.hid (HO.out.turn hF hFw)
          replace HR := Lib.hid hRw
          clear hRw hFw
          obtain ⟨q1, q2, q3, q4, q5⟩ := HO.out.cells
          rw [hB] at q1 q2 q3 q4 q5
          obtain ⟨c0, c1, c2, c3, f0, f1, f2, f3⟩ := HO.out.acells
          rw [hB] at c0 c1 c2 c3 f0 f1 f2 f3
          go_wp2_with fail
          clear q1 q2 q3 q4 q5 c0 c1 c2 c3 f0 f1 f2 f3
          refine (told_calls _ _).mono ?_
          rintro e w10 ⟨rfl, hBw⟩
          replace HO := Lib.hid (HO.out.below hBw)
          replace HR := Lib.hid (HR.out.below hBw)
          clear hBw
          obtain ⟨q1, q2, q3, q4, q5⟩ := HO.out.cells
          rw [hB] at q1 q2 q3 q4 q5
          obtain ⟨c0, c1, c2, c3, f0, f1, f2, f3⟩ := HO.out.acells
          rw [hB] at c0 c1 c2 c3 f0 f1 f2 f3
          go_wp2_with fail
          skip
          refine bodyPost_ret (results_cell_row rfl _ _ (B + 1) 32 #[.int .i64 0, .int .i64 0, .string ⟨#[]⟩, .slice none 0 0] (0, 0) _ rfl (put4_at (hB ▸ HO.out.ans)) Tryz.underlying32 rfl (by kernel_rfl)) rfl ?_
          rw [show renameS g o = (cut (lay g o.dst x).1 o.path, told 0) by rw [HQ3.out, if_pos HZ.out, HZ.out]]
          have hd := OpAt.done (g := g) (x0 := .int .i64 0) (x1 := .int .i64 0) (x2 := .string ⟨#[]⟩) (x3 := .slice none 0 0) HO.out hF HR.out (AnsAt.told _ _ 0)
          rw [hB] at hd
          exact hd
        · skip
          have HZ := Lib.hid hz
          have hz2 := lay_still hz
          clear hz
          refine HC2.out.mono ?_
          rintro e w11 ⟨rfl, hRw, hFw⟩
          replace HO := Lib.hid (HO.out.turn hF hFw)
          replace HR := Lib.hid hRw
          clear hRw hFw
          have hz := HZ.out
          obtain ⟨q1, q2, q3, q4, q5⟩ := HO.out.cells
          rw [hB] at q1 q2 q3 q4 q5
          obtain ⟨c0, c1, c2, c3, f0, f1, f2, f3⟩ := HO.out.acells
          rw [hB] at c0 c1 c2 c3 f0 f1 f2 f3
          go_wp2_with fail
          clear q1 q2 q3 q4 q5 c0 c1 c2 c3 f0 f1 f2 f3
          refine (told_calls _ _).mono ?_
          rintro e w12 ⟨rfl, hBw⟩
          replace HO := Lib.hid (HO.out.below hBw)
          replace HR := Lib.hid (HR.out.below hBw)
          clear hBw
          obtain ⟨q1, q2, q3, q4, q5⟩ := HO.out.cells
          rw [hB] at q1 q2 q3 q4 q5
          obtain ⟨c0, c1, c2, c3, f0, f1, f2, f3⟩ := HO.out.acells
          rw [hB] at c0 c1 c2 c3 f0 f1 f2 f3
          go_wp2_with fail
          skip
          refine bodyPost_ret (results_cell_row rfl _ _ (B + 1) 32 #[.int .i64 (lay g o.dst x).2, .int .i64 0, .string ⟨#[]⟩, .slice none 0 0] (0, 0) _ rfl (put4_at (hB ▸ HO.out.ans)) Tryz.underlying32 rfl (by kernel_rfl)) rfl ?_
          rw [show renameS g o = ((lay g o.dst x).1, told (lay g o.dst x).2) by rw [HQ3.out, if_neg HZ.out]]
          have hd := OpAt.done (g := g) (x0 := .int .i64 (lay g o.dst x).2) (x1 := .int .i64 0) (x2 := .string ⟨#[]⟩) (x3 := .slice none 0 0) HO.out hF HR.out (AnsAt.told _ _ (lay g o.dst x).2)
          rw [hB] at hd
          exact hd

end Go.Proofs.YtaccokghjpcijaaGreatDoor
