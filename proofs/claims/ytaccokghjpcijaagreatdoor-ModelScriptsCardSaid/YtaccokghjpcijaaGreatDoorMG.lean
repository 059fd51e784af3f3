import Derived.Test.YtaccokghjpcijaaGreatDoorMF
import Derived.Laws.EntriesVeiled
set_option linter.unusedVariables false
set_option linter.unusedSimpArgs false
namespace Go.Proofs.YtaccokghjpcijaaGreatDoor
open Go Go.RowKit Pp Go.Proofs.YtaccokghjpcijaaGreatDoorW.PrintWords

theorem Tree.below {W W' : World} {F : Nat → Prop} {tb : Nat} {g : St} (h : Tree W F tb g) (hb : Below W.heap.size W W') : Tree W' F tb g := by
  obtain ⟨⟨S, loc, mloc, hr⟩, hF⟩ := h
  exact ⟨⟨S, loc, mloc, hr.below hb⟩, fun b hb' => Nat.lt_of_lt_of_le (hF b hb') hb.size⟩
theorem Tree.drew {W : World} {F : Nat → Prop} {tb : Nat} {g : St} (h : Tree W F tb g) : Tree W.drew F tb g := by
  obtain ⟨⟨S, loc, mloc, hr⟩, hF⟩ := h
  exact ⟨⟨S, loc, mloc, hr.drew⟩, hF⟩
theorem Tree.same {W W' : World} {F : Nat → Prop} {tb : Nat} {g : St} (h : Tree W F tb g) (hs : ∀ b, F b → W'.heap[b]? = W.heap[b]?) (hz : W.heap.size ≤ W'.heap.size) : Tree W' F tb g := by
  obtain ⟨⟨S, loc, mloc, hr⟩, hF⟩ := h
  exact ⟨⟨S, loc, mloc, hr.same hs⟩, fun b hb' => Nat.lt_of_lt_of_le (hF b hb') hz⟩
theorem ans_cells {W : World} {b : Nat} (h : W.heap[b]? = some (.cells #[.int .i64 0, .int .i64 0, .string ⟨#[]⟩, .slice none 0 0] 32 (0, 0))) : W.cell? ⟨b, 0, none⟩ = some (.int .i64 0) ∧ W.cell? ⟨b, 1, none⟩ = some (.int .i64 0) ∧ W.cell? ⟨b, 2, none⟩ = some (.string ⟨#[]⟩) ∧ W.cell? ⟨b, 3, none⟩ = some (.slice none 0 0) ∧
    W.frozen? ⟨b, 0, none⟩ = false ∧ W.frozen? ⟨b, 1, none⟩ = false ∧ W.frozen? ⟨b, 2, none⟩ = false ∧ W.frozen? ⟨b, 3, none⟩ = false :=
  ⟨heap_cell h 0 _ rfl, heap_cell h 1 _ rfl, heap_cell h 2 _ rfl, heap_cell h 3 _ rfl, frozen_of_row _ _ 0 _ _ h, frozen_of_row _ _ 1 _ _ h, frozen_of_row _ _ 2 _ _ h, frozen_of_row _ _ 3 _ _ h⟩
/-- Behind an op that Do has called: its answer lies where Do hands it back from. -/
theorem do_post {W W1 w5 : World} {F F' : Nat → Prop} {tb : Nat} {g : St} {r : St × Ans} {v : Value} (hF : ∀ b, F b → b < W.heap.size) (hB : Below W.heap.size W W1) (hs1 : W.heap.size + 3 ≤ W1.heap.size) (hF1 : ∀ b, F' b → F b ∨ W1.heap.size ≤ b) (hF2 : ∀ b, F b → F' b) (hT : Tree w5 F' tb r.1) (hFr : Fr F W1 w5)
    (hS : Strs w5 v r.2.names) (hV : ∀ bk o n c, v = .slice (some ⟨bk, o, none⟩) n c → ¬ (F' bk ∨ bk < W1.heap.size)) :
    OpPost W F tb g r (.returned (.agg #[.int .i64 r.2.code, .int .i64 r.2.n, .string (mk r.2.data), v])) (put4 w5 (W.heap.size + 1) (.int .i64 r.2.code) (.int .i64 r.2.n) (.string (mk r.2.data)) v) := by
  have hz : w5.heap.size ≤ (put4 w5 (W.heap.size + 1) (.int .i64 r.2.code) (.int .i64 r.2.n) (.string (mk r.2.data)) v).heap.size := by unfold put4; simp
  refine ⟨F', fun b hb => ?_, hF2, hT.same (fun b hb => put4_other (fun e => ?_)) hz, ?_, v, rfl, hS.kept (fun bk o n c h => put4_other (fun e => ?_)), fun bk o n c h hf => hV bk o n c h ?_⟩
  · rcases hF1 b hb with h | h
    · exact .inl h
    · exact .inr (by omega)
  · rcases hF1 b hb with h | h
    · have := hF b h; omega
    · omega
  · refine ⟨hFr.os.trans hB.os, hFr.tape.trans hB.tape, hFr.output.trans hB.output, by have := hFr.size; omega, fun k hk hf => ?_⟩
    rw [put4_other (by omega), hFr.block k (by omega) hf, hB.block k hk]
  · exact hV bk o n c h (.inr (by omega))
  · rcases hf with hf | hf
    · exact .inl hf
    · exact .inr (by omega)

end Go.Proofs.YtaccokghjpcijaaGreatDoor
set_option linter.unusedVariables false
set_option linter.unusedSimpArgs false
namespace Go.Proofs.YtaccokghjpcijaaGreatDoor
open Go Go.RowKit Pp Go.Proofs.YtaccokghjpcijaaGreatDoorW.PrintWords

set_option maxRecDepth 100000 in
set_option maxHeartbeats 4000000 in
theorem do_create {W : World} {F : Nat → Prop} {tb : Nat} {g : St} (h : Tree W F tb g) (o : Ask) (hp : o.path.length ≤ 4398046511104) (hd : o.dst.length ≤ 4398046511104) (hda : o.data.length ≤ 4398046511104) (hI : Inv g) (hle : ∀ i, (entsOf g i).length ≤ 1099511627776) (hlk : LinksOk W g) (hk : o.do_ = 0) :
    Calls Tryz.prog 13 #[ptr tb, opV o] W (OpPost W F tb g (step g o)) := by
  have hF := h.2
  have hbl : Below W.heap.size W (((W.alloc (.cells #[.int .i64 o.do_, .string (mk o.path), .string (mk o.dst), .int .i64 o.off, .int .i64 o.len, .string (mk o.data)] 35)).alloc (.cells #[.int .i64 0, .int .i64 0, .string ⟨#[]⟩, .slice none 0 0] 32)).alloc (.cells #[.func (.func 26) #[] #[], .func (.func 27) #[] #[], .func (.func 28) #[] #[], .func (.func 29) #[] #[], .func (.func 30) #[] #[], .func (.func 31) #[] #[], .func (.func 32) #[] #[], .func (.func 33) #[] #[], .func (.func 34) #[] #[], .func (.func 35) #[] #[], .func (.func 36) #[] #[]] 61)) := balloc (balloc (balloc (Below.refl _ _)))
  obtain ⟨W1, hW1⟩ : ∃ W1, ((W.alloc (.cells #[.int .i64 o.do_, .string (mk o.path), .string (mk o.dst), .int .i64 o.off, .int .i64 o.len, .string (mk o.data)] 35)).alloc (.cells #[.int .i64 0, .int .i64 0, .string ⟨#[]⟩, .slice none 0 0] 32)).alloc (.cells #[.func (.func 26) #[] #[], .func (.func 27) #[] #[], .func (.func 28) #[] #[], .func (.func 29) #[] #[], .func (.func 30) #[] #[], .func (.func 31) #[] #[], .func (.func 32) #[] #[], .func (.func 33) #[] #[], .func (.func 34) #[] #[], .func (.func 35) #[] #[], .func (.func 36) #[] #[]] 61) = W1 := ⟨_, rfl⟩
  have hs0 := OpAt.start W F o
  have hbox : W1.heap[W.heap.size]? = some (.cells #[.int .i64 o.do_, .string (mk o.path), .string (mk o.dst), .int .i64 o.off, .int .i64 o.len, .string (mk o.data)] 35 (0, 0)) := by rw [← hW1, Below.heap_alloc _ _ _ (by simp; omega)]; exact hs0.box
  have hans : W1.heap[W.heap.size + 1]? = some (.cells #[.int .i64 0, .int .i64 0, .string ⟨#[]⟩, .slice none 0 0] 32 (0, 0)) := by rw [← hW1, Below.heap_alloc _ _ _ (by simp)]; exact hs0.ans
  have harr : W1.heap[W.heap.size + 2]? = some (.cells #[.func (.func 26) #[] #[], .func (.func 27) #[] #[], .func (.func 28) #[] #[], .func (.func 29) #[] #[], .func (.func 30) #[] #[], .func (.func 31) #[] #[], .func (.func 32) #[] #[], .func (.func 33) #[] #[], .func (.func 34) #[] #[], .func (.func 35) #[] #[], .func (.func 36) #[] #[]] 61 (0, 0)) := by
    rw [← hW1]
    have := heap_alloc_new ((W.alloc (.cells #[.int .i64 o.do_, .string (mk o.path), .string (mk o.dst), .int .i64 o.off, .int .i64 o.len, .string (mk o.data)] 35)).alloc (.cells #[.int .i64 0, .int .i64 0, .string ⟨#[]⟩, .slice none 0 0] 32)) (.cells #[.func (.func 26) #[] #[], .func (.func 27) #[] #[], .func (.func 28) #[] #[], .func (.func 29) #[] #[], .func (.func 30) #[] #[], .func (.func 31) #[] #[], .func (.func 32) #[] #[], .func (.func 33) #[] #[], .func (.func 34) #[] #[], .func (.func 35) #[] #[], .func (.func 36) #[] #[]] 61)
    rw [World.size_alloc, World.size_alloc] at this
    exact this
  rw [hW1] at hbl
  have hs1 : W.heap.size + 3 ≤ W1.heap.size := by rw [← hW1]; simp
  have hst : step g o = made g o.path ⟨none, [], 0⟩ := by unfold step; simp [hk]
  rw [hk] at hW1
  have HW := Lib.hid hW1
  have HK := Lib.hid hk
  have HB := Lib.hid hbl
  have HS := Lib.hid hst
  have h3 := (h.below hbl).drew
  have HC := Lib.hid (create_calls h3 o hp)
  have q0 := heap_cell hbox 0 _ rfl
  have q1 := heap_cell hbox 1 _ rfl
  have q2 := heap_cell hbox 2 _ rfl
  have q3 := heap_cell hbox 3 _ rfl
  have q4 := heap_cell hbox 4 _ rfl
  have q5 := heap_cell hbox 5 _ rfl
  have p0 := heap_cell harr 0 _ rfl
  rw [hk] at q0
  unfold opV at HC
  rw [hk] at HC
  have HA := Lib.hid hans
  clear hW1 hk hbl hst h3 hI hle hlk hbox hans harr hs0 h
  unfold opV ptr at *
  go_enter Tryz.func13, Tryz.ntmps13
  rw [HK.out]
  go_wp2_with fail
  rw [HW.out]
  have z0 : (0 : Int) ≤ 0 := by omega
  have z1 : (0 : Int) < 11 := by omega
  go_region_with (first | (go_at_call 26; refine HC.out.mono ?_; rintro e w5 ⟨F', hF1, hF2, hT, hFr, v, rfl, hS, hV⟩; obtain ⟨A9, c9, hv9, _, _⟩ := id hS; subst hv9; obtain ⟨c0, c1, c2, c3, f0, f1, f2, f3⟩ := ans_cells ((hFr.block (W.heap.size + 1) (show W.heap.size + 1 < W1.heap.size by omega) (fun hk => by have := hF _ hk; omega)).trans HA.out)))
  all_goals
    go_wp2_with fail
    refine bodyPost_ret (results_cell_row rfl _ _ (W.heap.size + 1) 32 #[_, _, _, _] (0, 0) _ rfl (put4_at ((hFr.block (W.heap.size + 1) (show W.heap.size + 1 < W1.heap.size by omega) (fun hk => by have := hF _ hk; omega)).trans HA.out)) Tryz.underlying32 rfl (by kernel_rfl)) rfl ?_
    rw [HS.out]
    exact do_post hF HB.out hs1 hF1 hF2 hT ⟨hFr.os, hFr.tape, hFr.output, hFr.size, hFr.block⟩ hS hV

set_option maxRecDepth 100000 in
set_option maxHeartbeats 4000000 in
theorem do_mkdir {W : World} {F : Nat → Prop} {tb : Nat} {g : St} (h : Tree W F tb g) (o : Ask) (hp : o.path.length ≤ 4398046511104) (hd : o.dst.length ≤ 4398046511104) (hda : o.data.length ≤ 4398046511104) (hI : Inv g) (hle : ∀ i, (entsOf g i).length ≤ 1099511627776) (hlk : LinksOk W g) (hk : o.do_ = 1) :
    Calls Tryz.prog 13 #[ptr tb, opV o] W (OpPost W F tb g (step g o)) := by
  have hF := h.2
  have hbl : Below W.heap.size W (((W.alloc (.cells #[.int .i64 o.do_, .string (mk o.path), .string (mk o.dst), .int .i64 o.off, .int .i64 o.len, .string (mk o.data)] 35)).alloc (.cells #[.int .i64 0, .int .i64 0, .string ⟨#[]⟩, .slice none 0 0] 32)).alloc (.cells #[.func (.func 26) #[] #[], .func (.func 27) #[] #[], .func (.func 28) #[] #[], .func (.func 29) #[] #[], .func (.func 30) #[] #[], .func (.func 31) #[] #[], .func (.func 32) #[] #[], .func (.func 33) #[] #[], .func (.func 34) #[] #[], .func (.func 35) #[] #[], .func (.func 36) #[] #[]] 61)) := balloc (balloc (balloc (Below.refl _ _)))
  obtain ⟨W1, hW1⟩ : ∃ W1, ((W.alloc (.cells #[.int .i64 o.do_, .string (mk o.path), .string (mk o.dst), .int .i64 o.off, .int .i64 o.len, .string (mk o.data)] 35)).alloc (.cells #[.int .i64 0, .int .i64 0, .string ⟨#[]⟩, .slice none 0 0] 32)).alloc (.cells #[.func (.func 26) #[] #[], .func (.func 27) #[] #[], .func (.func 28) #[] #[], .func (.func 29) #[] #[], .func (.func 30) #[] #[], .func (.func 31) #[] #[], .func (.func 32) #[] #[], .func (.func 33) #[] #[], .func (.func 34) #[] #[], .func (.func 35) #[] #[], .func (.func 36) #[] #[]] 61) = W1 := ⟨_, rfl⟩
  have hs0 := OpAt.start W F o
  have hbox : W1.heap[W.heap.size]? = some (.cells #[.int .i64 o.do_, .string (mk o.path), .string (mk o.dst), .int .i64 o.off, .int .i64 o.len, .string (mk o.data)] 35 (0, 0)) := by rw [← hW1, Below.heap_alloc _ _ _ (by simp; omega)]; exact hs0.box
  have hans : W1.heap[W.heap.size + 1]? = some (.cells #[.int .i64 0, .int .i64 0, .string ⟨#[]⟩, .slice none 0 0] 32 (0, 0)) := by rw [← hW1, Below.heap_alloc _ _ _ (by simp)]; exact hs0.ans
  have harr : W1.heap[W.heap.size + 2]? = some (.cells #[.func (.func 26) #[] #[], .func (.func 27) #[] #[], .func (.func 28) #[] #[], .func (.func 29) #[] #[], .func (.func 30) #[] #[], .func (.func 31) #[] #[], .func (.func 32) #[] #[], .func (.func 33) #[] #[], .func (.func 34) #[] #[], .func (.func 35) #[] #[], .func (.func 36) #[] #[]] 61 (0, 0)) := by
    rw [← hW1]
    have := heap_alloc_new ((W.alloc (.cells #[.int .i64 o.do_, .string (mk o.path), .string (mk o.dst), .int .i64 o.off, .int .i64 o.len, .string (mk o.data)] 35)).alloc (.cells #[.int .i64 0, .int .i64 0, .string ⟨#[]⟩, .slice none 0 0] 32)) (.cells #[.func (.func 26) #[] #[], .func (.func 27) #[] #[], .func (.func 28) #[] #[], .func (.func 29) #[] #[], .func (.func 30) #[] #[], .func (.func 31) #[] #[], .func (.func 32) #[] #[], .func (.func 33) #[] #[], .func (.func 34) #[] #[], .func (.func 35) #[] #[], .func (.func 36) #[] #[]] 61)
    rw [World.size_alloc, World.size_alloc] at this
    exact this
  rw [hW1] at hbl
  have hs1 : W.heap.size + 3 ≤ W1.heap.size := by rw [← hW1]; simp
  have hst : step g o = made g o.path ⟨some [], [], 0⟩ := by unfold step; simp [hk]
  rw [hk] at hW1
  have HW := Lib.hid hW1
  have HK := Lib.hid hk
  have HB := Lib.hid hbl
  have HS := Lib.hid hst
  have h3 := (h.below hbl).drew
  have HC := Lib.hid (mkdir_calls h3 o hp)
  have q0 := heap_cell hbox 0 _ rfl
  have q1 := heap_cell hbox 1 _ rfl
  have q2 := heap_cell hbox 2 _ rfl
  have q3 := heap_cell hbox 3 _ rfl
  have q4 := heap_cell hbox 4 _ rfl
  have q5 := heap_cell hbox 5 _ rfl
  have p1 := heap_cell harr 1 _ rfl
  rw [hk] at q0
  unfold opV at HC
  rw [hk] at HC
  have HA := Lib.hid hans
  clear hW1 hk hbl hst h3 hI hle hlk hbox hans harr hs0 h
  unfold opV ptr at *
  go_enter Tryz.func13, Tryz.ntmps13
  rw [HK.out]
  go_wp2_with fail
  rw [HW.out]
  have z0 : (0 : Int) ≤ 1 := by omega
  have z1 : (1 : Int) < 11 := by omega
  go_region_with (first | (go_at_call 27; refine HC.out.mono ?_; rintro e w5 ⟨F', hF1, hF2, hT, hFr, v, rfl, hS, hV⟩; obtain ⟨A9, c9, hv9, _, _⟩ := id hS; subst hv9; obtain ⟨c0, c1, c2, c3, f0, f1, f2, f3⟩ := ans_cells ((hFr.block (W.heap.size + 1) (show W.heap.size + 1 < W1.heap.size by omega) (fun hk => by have := hF _ hk; omega)).trans HA.out)))
  all_goals
    go_wp2_with fail
    refine bodyPost_ret (results_cell_row rfl _ _ (W.heap.size + 1) 32 #[_, _, _, _] (0, 0) _ rfl (put4_at ((hFr.block (W.heap.size + 1) (show W.heap.size + 1 < W1.heap.size by omega) (fun hk => by have := hF _ hk; omega)).trans HA.out)) Tryz.underlying32 rfl (by kernel_rfl)) rfl ?_
    rw [HS.out]
    exact do_post hF HB.out hs1 hF1 hF2 hT ⟨hFr.os, hFr.tape, hFr.output, hFr.size, hFr.block⟩ hS hV

set_option maxRecDepth 100000 in
set_option maxHeartbeats 4000000 in
theorem do_link {W : World} {F : Nat → Prop} {tb : Nat} {g : St} (h : Tree W F tb g) (o : Ask) (hp : o.path.length ≤ 4398046511104) (hd : o.dst.length ≤ 4398046511104) (hda : o.data.length ≤ 4398046511104) (hI : Inv g) (hle : ∀ i, (entsOf g i).length ≤ 1099511627776) (hlk : LinksOk W g) (hk : o.do_ = 2) :
    Calls Tryz.prog 13 #[ptr tb, opV o] W (OpPost W F tb g (step g o)) := by
  have hF := h.2
  have hbl : Below W.heap.size W (((W.alloc (.cells #[.int .i64 o.do_, .string (mk o.path), .string (mk o.dst), .int .i64 o.off, .int .i64 o.len, .string (mk o.data)] 35)).alloc (.cells #[.int .i64 0, .int .i64 0, .string ⟨#[]⟩, .slice none 0 0] 32)).alloc (.cells #[.func (.func 26) #[] #[], .func (.func 27) #[] #[], .func (.func 28) #[] #[], .func (.func 29) #[] #[], .func (.func 30) #[] #[], .func (.func 31) #[] #[], .func (.func 32) #[] #[], .func (.func 33) #[] #[], .func (.func 34) #[] #[], .func (.func 35) #[] #[], .func (.func 36) #[] #[]] 61)) := balloc (balloc (balloc (Below.refl _ _)))
  obtain ⟨W1, hW1⟩ : ∃ W1, ((W.alloc (.cells #[.int .i64 o.do_, .string (mk o.path), .string (mk o.dst), .int .i64 o.off, .int .i64 o.len, .string (mk o.data)] 35)).alloc (.cells #[.int .i64 0, .int .i64 0, .string ⟨#[]⟩, .slice none 0 0] 32)).alloc (.cells #[.func (.func 26) #[] #[], .func (.func 27) #[] #[], .func (.func 28) #[] #[], .func (.func 29) #[] #[], .func (.func 30) #[] #[], .func (.func 31) #[] #[], .func (.func 32) #[] #[], .func (.func 33) #[] #[], .func (.func 34) #[] #[], .func (.func 35) #[] #[], .func (.func 36) #[] #[]] 61) = W1 := ⟨_, rfl⟩
  have hs0 := OpAt.start W F o
  have hbox : W1.heap[W.heap.size]? = some (.cells #[.int .i64 o.do_, .string (mk o.path), .string (mk o.dst), .int .i64 o.off, .int .i64 o.len, .string (mk o.data)] 35 (0, 0)) := by rw [← hW1, Below.heap_alloc _ _ _ (by simp; omega)]; exact hs0.box
  have hans : W1.heap[W.heap.size + 1]? = some (.cells #[.int .i64 0, .int .i64 0, .string ⟨#[]⟩, .slice none 0 0] 32 (0, 0)) := by rw [← hW1, Below.heap_alloc _ _ _ (by simp)]; exact hs0.ans
  have harr : W1.heap[W.heap.size + 2]? = some (.cells #[.func (.func 26) #[] #[], .func (.func 27) #[] #[], .func (.func 28) #[] #[], .func (.func 29) #[] #[], .func (.func 30) #[] #[], .func (.func 31) #[] #[], .func (.func 32) #[] #[], .func (.func 33) #[] #[], .func (.func 34) #[] #[], .func (.func 35) #[] #[], .func (.func 36) #[] #[]] 61 (0, 0)) := by
    rw [← hW1]
    have := heap_alloc_new ((W.alloc (.cells #[.int .i64 o.do_, .string (mk o.path), .string (mk o.dst), .int .i64 o.off, .int .i64 o.len, .string (mk o.data)] 35)).alloc (.cells #[.int .i64 0, .int .i64 0, .string ⟨#[]⟩, .slice none 0 0] 32)) (.cells #[.func (.func 26) #[] #[], .func (.func 27) #[] #[], .func (.func 28) #[] #[], .func (.func 29) #[] #[], .func (.func 30) #[] #[], .func (.func 31) #[] #[], .func (.func 32) #[] #[], .func (.func 33) #[] #[], .func (.func 34) #[] #[], .func (.func 35) #[] #[], .func (.func 36) #[] #[]] 61)
    rw [World.size_alloc, World.size_alloc] at this
    exact this
  rw [hW1] at hbl
  have hs1 : W.heap.size + 3 ≤ W1.heap.size := by rw [← hW1]; simp
  have hst : step g o = linkS g o := by unfold step; simp [hk]
  rw [hk] at hW1
  have HW := Lib.hid hW1
  have HK := Lib.hid hk
  have HB := Lib.hid hbl
  have HS := Lib.hid hst
  have h3 := (h.below hbl).drew
  have HC := Lib.hid (link_calls h3 o hp hd)
  have q0 := heap_cell hbox 0 _ rfl
  have q1 := heap_cell hbox 1 _ rfl
  have q2 := heap_cell hbox 2 _ rfl
  have q3 := heap_cell hbox 3 _ rfl
  have q4 := heap_cell hbox 4 _ rfl
  have q5 := heap_cell hbox 5 _ rfl
  have p2 := heap_cell harr 2 _ rfl
  rw [hk] at q0
  unfold opV at HC
  rw [hk] at HC
  have HA := Lib.hid hans
  clear hW1 hk hbl hst h3 hI hle hlk hbox hans harr hs0 h
  unfold opV ptr at *
  go_enter Tryz.func13, Tryz.ntmps13
  rw [HK.out]
  go_wp2_with fail
  rw [HW.out]
  have z0 : (0 : Int) ≤ 2 := by omega
  have z1 : (2 : Int) < 11 := by omega
  go_region_with (first | (go_at_call 28; refine HC.out.mono ?_; rintro e w5 ⟨F', hF1, hF2, hT, hFr, v, rfl, hS, hV⟩; obtain ⟨A9, c9, hv9, _, _⟩ := id hS; subst hv9; obtain ⟨c0, c1, c2, c3, f0, f1, f2, f3⟩ := ans_cells ((hFr.block (W.heap.size + 1) (show W.heap.size + 1 < W1.heap.size by omega) (fun hk => by have := hF _ hk; omega)).trans HA.out)))
  all_goals
    go_wp2_with fail
    refine bodyPost_ret (results_cell_row rfl _ _ (W.heap.size + 1) 32 #[_, _, _, _] (0, 0) _ rfl (put4_at ((hFr.block (W.heap.size + 1) (show W.heap.size + 1 < W1.heap.size by omega) (fun hk => by have := hF _ hk; omega)).trans HA.out)) Tryz.underlying32 rfl (by kernel_rfl)) rfl ?_
    rw [HS.out]
    exact do_post hF HB.out hs1 hF1 hF2 hT ⟨hFr.os, hFr.tape, hFr.output, hFr.size, hFr.block⟩ hS hV

set_option maxRecDepth 100000 in
set_option maxHeartbeats 4000000 in
theorem do_unlink {W : World} {F : Nat → Prop} {tb : Nat} {g : St} (h : Tree W F tb g) (o : Ask) (hp : o.path.length ≤ 4398046511104) (hd : o.dst.length ≤ 4398046511104) (hda : o.data.length ≤ 4398046511104) (hI : Inv g) (hle : ∀ i, (entsOf g i).length ≤ 1099511627776) (hlk : LinksOk W g) (hk : o.do_ = 3) :
    Calls Tryz.prog 13 #[ptr tb, opV o] W (OpPost W F tb g (step g o)) := by
  have hF := h.2
  have hbl : Below W.heap.size W (((W.alloc (.cells #[.int .i64 o.do_, .string (mk o.path), .string (mk o.dst), .int .i64 o.off, .int .i64 o.len, .string (mk o.data)] 35)).alloc (.cells #[.int .i64 0, .int .i64 0, .string ⟨#[]⟩, .slice none 0 0] 32)).alloc (.cells #[.func (.func 26) #[] #[], .func (.func 27) #[] #[], .func (.func 28) #[] #[], .func (.func 29) #[] #[], .func (.func 30) #[] #[], .func (.func 31) #[] #[], .func (.func 32) #[] #[], .func (.func 33) #[] #[], .func (.func 34) #[] #[], .func (.func 35) #[] #[], .func (.func 36) #[] #[]] 61)) := balloc (balloc (balloc (Below.refl _ _)))
  obtain ⟨W1, hW1⟩ : ∃ W1, ((W.alloc (.cells #[.int .i64 o.do_, .string (mk o.path), .string (mk o.dst), .int .i64 o.off, .int .i64 o.len, .string (mk o.data)] 35)).alloc (.cells #[.int .i64 0, .int .i64 0, .string ⟨#[]⟩, .slice none 0 0] 32)).alloc (.cells #[.func (.func 26) #[] #[], .func (.func 27) #[] #[], .func (.func 28) #[] #[], .func (.func 29) #[] #[], .func (.func 30) #[] #[], .func (.func 31) #[] #[], .func (.func 32) #[] #[], .func (.func 33) #[] #[], .func (.func 34) #[] #[], .func (.func 35) #[] #[], .func (.func 36) #[] #[]] 61) = W1 := ⟨_, rfl⟩
  have hs0 := OpAt.start W F o
  have hbox : W1.heap[W.heap.size]? = some (.cells #[.int .i64 o.do_, .string (mk o.path), .string (mk o.dst), .int .i64 o.off, .int .i64 o.len, .string (mk o.data)] 35 (0, 0)) := by rw [← hW1, Below.heap_alloc _ _ _ (by simp; omega)]; exact hs0.box
  have hans : W1.heap[W.heap.size + 1]? = some (.cells #[.int .i64 0, .int .i64 0, .string ⟨#[]⟩, .slice none 0 0] 32 (0, 0)) := by rw [← hW1, Below.heap_alloc _ _ _ (by simp)]; exact hs0.ans
  have harr : W1.heap[W.heap.size + 2]? = some (.cells #[.func (.func 26) #[] #[], .func (.func 27) #[] #[], .func (.func 28) #[] #[], .func (.func 29) #[] #[], .func (.func 30) #[] #[], .func (.func 31) #[] #[], .func (.func 32) #[] #[], .func (.func 33) #[] #[], .func (.func 34) #[] #[], .func (.func 35) #[] #[], .func (.func 36) #[] #[]] 61 (0, 0)) := by
    rw [← hW1]
    have := heap_alloc_new ((W.alloc (.cells #[.int .i64 o.do_, .string (mk o.path), .string (mk o.dst), .int .i64 o.off, .int .i64 o.len, .string (mk o.data)] 35)).alloc (.cells #[.int .i64 0, .int .i64 0, .string ⟨#[]⟩, .slice none 0 0] 32)) (.cells #[.func (.func 26) #[] #[], .func (.func 27) #[] #[], .func (.func 28) #[] #[], .func (.func 29) #[] #[], .func (.func 30) #[] #[], .func (.func 31) #[] #[], .func (.func 32) #[] #[], .func (.func 33) #[] #[], .func (.func 34) #[] #[], .func (.func 35) #[] #[], .func (.func 36) #[] #[]] 61)
    rw [World.size_alloc, World.size_alloc] at this
    exact this
  rw [hW1] at hbl
  have hs1 : W.heap.size + 3 ≤ W1.heap.size := by rw [← hW1]; simp
  have hst : step g o = unlinkS g o := by unfold step; simp [hk]
  rw [hk] at hW1
  have HW := Lib.hid hW1
  have HK := Lib.hid hk
  have HB := Lib.hid hbl
  have HS := Lib.hid hst
  have h3 := (h.below hbl).drew
  have HC := Lib.hid (unlink_calls h3 o hp)
  have q0 := heap_cell hbox 0 _ rfl
  have q1 := heap_cell hbox 1 _ rfl
  have q2 := heap_cell hbox 2 _ rfl
  have q3 := heap_cell hbox 3 _ rfl
  have q4 := heap_cell hbox 4 _ rfl
  have q5 := heap_cell hbox 5 _ rfl
  have p3 := heap_cell harr 3 _ rfl
  rw [hk] at q0
  unfold opV at HC
  rw [hk] at HC
  have HA := Lib.hid hans
  clear hW1 hk hbl hst h3 hI hle hlk hbox hans harr hs0 h
  unfold opV ptr at *
  go_enter Tryz.func13, Tryz.ntmps13
  rw [HK.out]
  go_wp2_with fail
  rw [HW.out]
  have z0 : (0 : Int) ≤ 3 := by omega
  have z1 : (3 : Int) < 11 := by omega
  go_region_with (first | (go_at_call 29; refine HC.out.mono ?_; rintro e w5 ⟨F', hF1, hF2, hT, hFr, v, rfl, hS, hV⟩; obtain ⟨A9, c9, hv9, _, _⟩ := id hS; subst hv9; obtain ⟨c0, c1, c2, c3, f0, f1, f2, f3⟩ := ans_cells ((hFr.block (W.heap.size + 1) (show W.heap.size + 1 < W1.heap.size by omega) (fun hk => by have := hF _ hk; omega)).trans HA.out)))
  all_goals
    go_wp2_with fail
    refine bodyPost_ret (results_cell_row rfl _ _ (W.heap.size + 1) 32 #[_, _, _, _] (0, 0) _ rfl (put4_at ((hFr.block (W.heap.size + 1) (show W.heap.size + 1 < W1.heap.size by omega) (fun hk => by have := hF _ hk; omega)).trans HA.out)) Tryz.underlying32 rfl (by kernel_rfl)) rfl ?_
    rw [HS.out]
    exact do_post hF HB.out hs1 hF1 hF2 hT ⟨hFr.os, hFr.tape, hFr.output, hFr.size, hFr.block⟩ hS hV
end Go.Proofs.YtaccokghjpcijaaGreatDoor
set_option linter.unusedVariables false
set_option linter.unusedSimpArgs false
namespace Go.Proofs.YtaccokghjpcijaaGreatDoor
open Go Go.RowKit Pp Go.Proofs.YtaccokghjpcijaaGreatDoorW.PrintWords

set_option maxRecDepth 100000 in
set_option maxHeartbeats 4000000 in
theorem do_rmdir {W : World} {F : Nat → Prop} {tb : Nat} {g : St} (h : Tree W F tb g) (o : Ask) (hp : o.path.length ≤ 4398046511104) (hd : o.dst.length ≤ 4398046511104) (hda : o.data.length ≤ 4398046511104) (hI : Inv g) (hle : ∀ i, (entsOf g i).length ≤ 1099511627776) (hlk : LinksOk W g) (hk : o.do_ = 4) :
    Calls Tryz.prog 13 #[ptr tb, opV o] W (OpPost W F tb g (step g o)) := by
  have hF := h.2
  have hbl : Below W.heap.size W (((W.alloc (.cells #[.int .i64 o.do_, .string (mk o.path), .string (mk o.dst), .int .i64 o.off, .int .i64 o.len, .string (mk o.data)] 35)).alloc (.cells #[.int .i64 0, .int .i64 0, .string ⟨#[]⟩, .slice none 0 0] 32)).alloc (.cells #[.func (.func 26) #[] #[], .func (.func 27) #[] #[], .func (.func 28) #[] #[], .func (.func 29) #[] #[], .func (.func 30) #[] #[], .func (.func 31) #[] #[], .func (.func 32) #[] #[], .func (.func 33) #[] #[], .func (.func 34) #[] #[], .func (.func 35) #[] #[], .func (.func 36) #[] #[]] 61)) := balloc (balloc (balloc (Below.refl _ _)))
  obtain ⟨W1, hW1⟩ : ∃ W1, ((W.alloc (.cells #[.int .i64 o.do_, .string (mk o.path), .string (mk o.dst), .int .i64 o.off, .int .i64 o.len, .string (mk o.data)] 35)).alloc (.cells #[.int .i64 0, .int .i64 0, .string ⟨#[]⟩, .slice none 0 0] 32)).alloc (.cells #[.func (.func 26) #[] #[], .func (.func 27) #[] #[], .func (.func 28) #[] #[], .func (.func 29) #[] #[], .func (.func 30) #[] #[], .func (.func 31) #[] #[], .func (.func 32) #[] #[], .func (.func 33) #[] #[], .func (.func 34) #[] #[], .func (.func 35) #[] #[], .func (.func 36) #[] #[]] 61) = W1 := ⟨_, rfl⟩
  have hs0 := OpAt.start W F o
  have hbox : W1.heap[W.heap.size]? = some (.cells #[.int .i64 o.do_, .string (mk o.path), .string (mk o.dst), .int .i64 o.off, .int .i64 o.len, .string (mk o.data)] 35 (0, 0)) := by rw [← hW1, Below.heap_alloc _ _ _ (by simp; omega)]; exact hs0.box
  have hans : W1.heap[W.heap.size + 1]? = some (.cells #[.int .i64 0, .int .i64 0, .string ⟨#[]⟩, .slice none 0 0] 32 (0, 0)) := by rw [← hW1, Below.heap_alloc _ _ _ (by simp)]; exact hs0.ans
  have harr : W1.heap[W.heap.size + 2]? = some (.cells #[.func (.func 26) #[] #[], .func (.func 27) #[] #[], .func (.func 28) #[] #[], .func (.func 29) #[] #[], .func (.func 30) #[] #[], .func (.func 31) #[] #[], .func (.func 32) #[] #[], .func (.func 33) #[] #[], .func (.func 34) #[] #[], .func (.func 35) #[] #[], .func (.func 36) #[] #[]] 61 (0, 0)) := by
    rw [← hW1]
    have := heap_alloc_new ((W.alloc (.cells #[.int .i64 o.do_, .string (mk o.path), .string (mk o.dst), .int .i64 o.off, .int .i64 o.len, .string (mk o.data)] 35)).alloc (.cells #[.int .i64 0, .int .i64 0, .string ⟨#[]⟩, .slice none 0 0] 32)) (.cells #[.func (.func 26) #[] #[], .func (.func 27) #[] #[], .func (.func 28) #[] #[], .func (.func 29) #[] #[], .func (.func 30) #[] #[], .func (.func 31) #[] #[], .func (.func 32) #[] #[], .func (.func 33) #[] #[], .func (.func 34) #[] #[], .func (.func 35) #[] #[], .func (.func 36) #[] #[]] 61)
    rw [World.size_alloc, World.size_alloc] at this
    exact this
  rw [hW1] at hbl
  have hs1 : W.heap.size + 3 ≤ W1.heap.size := by rw [← hW1]; simp
  have hst : step g o = rmdirS g o := by unfold step; simp [hk]
  rw [hk] at hW1
  have HW := Lib.hid hW1
  have HK := Lib.hid hk
  have HB := Lib.hid hbl
  have HS := Lib.hid hst
  have h3 := (h.below hbl).drew
  have HC := Lib.hid (rmdir_calls h3 o hp)
  have q0 := heap_cell hbox 0 _ rfl
  have q1 := heap_cell hbox 1 _ rfl
  have q2 := heap_cell hbox 2 _ rfl
  have q3 := heap_cell hbox 3 _ rfl
  have q4 := heap_cell hbox 4 _ rfl
  have q5 := heap_cell hbox 5 _ rfl
  have p4 := heap_cell harr 4 _ rfl
  rw [hk] at q0
  unfold opV at HC
  rw [hk] at HC
  have HA := Lib.hid hans
  clear hW1 hk hbl hst h3 hI hle hlk hbox hans harr hs0 h
  unfold opV ptr at *
  go_enter Tryz.func13, Tryz.ntmps13
  rw [HK.out]
  go_wp2_with fail
  rw [HW.out]
  have z0 : (0 : Int) ≤ 4 := by omega
  have z1 : (4 : Int) < 11 := by omega
  go_region_with (first | (go_at_call 30; refine HC.out.mono ?_; rintro e w5 ⟨F', hF1, hF2, hT, hFr, v, rfl, hS, hV⟩; obtain ⟨A9, c9, hv9, _, _⟩ := id hS; subst hv9; obtain ⟨c0, c1, c2, c3, f0, f1, f2, f3⟩ := ans_cells ((hFr.block (W.heap.size + 1) (show W.heap.size + 1 < W1.heap.size by omega) (fun hk => by have := hF _ hk; omega)).trans HA.out)))
  all_goals
    go_wp2_with fail
    refine bodyPost_ret (results_cell_row rfl _ _ (W.heap.size + 1) 32 #[_, _, _, _] (0, 0) _ rfl (put4_at ((hFr.block (W.heap.size + 1) (show W.heap.size + 1 < W1.heap.size by omega) (fun hk => by have := hF _ hk; omega)).trans HA.out)) Tryz.underlying32 rfl (by kernel_rfl)) rfl ?_
    rw [HS.out]
    exact do_post hF HB.out hs1 hF1 hF2 hT ⟨hFr.os, hFr.tape, hFr.output, hFr.size, hFr.block⟩ hS hV

set_option maxRecDepth 100000 in
set_option maxHeartbeats 4000000 in
theorem do_rename {W : World} {F : Nat → Prop} {tb : Nat} {g : St} (h : Tree W F tb g) (o : Ask) (hp : o.path.length ≤ 4398046511104) (hd : o.dst.length ≤ 4398046511104) (hda : o.data.length ≤ 4398046511104) (hI : Inv g) (hle : ∀ i, (entsOf g i).length ≤ 1099511627776) (hlk : LinksOk W g) (hk : o.do_ = 5) :
    Calls Tryz.prog 13 #[ptr tb, opV o] W (OpPost W F tb g (step g o)) := by
  have hF := h.2
  have hbl : Below W.heap.size W (((W.alloc (.cells #[.int .i64 o.do_, .string (mk o.path), .string (mk o.dst), .int .i64 o.off, .int .i64 o.len, .string (mk o.data)] 35)).alloc (.cells #[.int .i64 0, .int .i64 0, .string ⟨#[]⟩, .slice none 0 0] 32)).alloc (.cells #[.func (.func 26) #[] #[], .func (.func 27) #[] #[], .func (.func 28) #[] #[], .func (.func 29) #[] #[], .func (.func 30) #[] #[], .func (.func 31) #[] #[], .func (.func 32) #[] #[], .func (.func 33) #[] #[], .func (.func 34) #[] #[], .func (.func 35) #[] #[], .func (.func 36) #[] #[]] 61)) := balloc (balloc (balloc (Below.refl _ _)))
  obtain ⟨W1, hW1⟩ : ∃ W1, ((W.alloc (.cells #[.int .i64 o.do_, .string (mk o.path), .string (mk o.dst), .int .i64 o.off, .int .i64 o.len, .string (mk o.data)] 35)).alloc (.cells #[.int .i64 0, .int .i64 0, .string ⟨#[]⟩, .slice none 0 0] 32)).alloc (.cells #[.func (.func 26) #[] #[], .func (.func 27) #[] #[], .func (.func 28) #[] #[], .func (.func 29) #[] #[], .func (.func 30) #[] #[], .func (.func 31) #[] #[], .func (.func 32) #[] #[], .func (.func 33) #[] #[], .func (.func 34) #[] #[], .func (.func 35) #[] #[], .func (.func 36) #[] #[]] 61) = W1 := ⟨_, rfl⟩
  have hs0 := OpAt.start W F o
  have hbox : W1.heap[W.heap.size]? = some (.cells #[.int .i64 o.do_, .string (mk o.path), .string (mk o.dst), .int .i64 o.off, .int .i64 o.len, .string (mk o.data)] 35 (0, 0)) := by rw [← hW1, Below.heap_alloc _ _ _ (by simp; omega)]; exact hs0.box
  have hans : W1.heap[W.heap.size + 1]? = some (.cells #[.int .i64 0, .int .i64 0, .string ⟨#[]⟩, .slice none 0 0] 32 (0, 0)) := by rw [← hW1, Below.heap_alloc _ _ _ (by simp)]; exact hs0.ans
  have harr : W1.heap[W.heap.size + 2]? = some (.cells #[.func (.func 26) #[] #[], .func (.func 27) #[] #[], .func (.func 28) #[] #[], .func (.func 29) #[] #[], .func (.func 30) #[] #[], .func (.func 31) #[] #[], .func (.func 32) #[] #[], .func (.func 33) #[] #[], .func (.func 34) #[] #[], .func (.func 35) #[] #[], .func (.func 36) #[] #[]] 61 (0, 0)) := by
    rw [← hW1]
    have := heap_alloc_new ((W.alloc (.cells #[.int .i64 o.do_, .string (mk o.path), .string (mk o.dst), .int .i64 o.off, .int .i64 o.len, .string (mk o.data)] 35)).alloc (.cells #[.int .i64 0, .int .i64 0, .string ⟨#[]⟩, .slice none 0 0] 32)) (.cells #[.func (.func 26) #[] #[], .func (.func 27) #[] #[], .func (.func 28) #[] #[], .func (.func 29) #[] #[], .func (.func 30) #[] #[], .func (.func 31) #[] #[], .func (.func 32) #[] #[], .func (.func 33) #[] #[], .func (.func 34) #[] #[], .func (.func 35) #[] #[], .func (.func 36) #[] #[]] 61)
    rw [World.size_alloc, World.size_alloc] at this
    exact this
  rw [hW1] at hbl
  have hs1 : W.heap.size + 3 ≤ W1.heap.size := by rw [← hW1]; simp
  have hst : step g o = renameS g o := by unfold step; simp [hk]
  rw [hk] at hW1
  have HW := Lib.hid hW1
  have HK := Lib.hid hk
  have HB := Lib.hid hbl
  have HS := Lib.hid hst
  have h3 := (h.below hbl).drew
  have HC := Lib.hid (rename_calls h3 o hp hd)
  have q0 := heap_cell hbox 0 _ rfl
  have q1 := heap_cell hbox 1 _ rfl
  have q2 := heap_cell hbox 2 _ rfl
  have q3 := heap_cell hbox 3 _ rfl
  have q4 := heap_cell hbox 4 _ rfl
  have q5 := heap_cell hbox 5 _ rfl
  have p5 := heap_cell harr 5 _ rfl
  rw [hk] at q0
  unfold opV at HC
  rw [hk] at HC
  have HA := Lib.hid hans
  clear hW1 hk hbl hst h3 hI hle hlk hbox hans harr hs0 h
  unfold opV ptr at *
  go_enter Tryz.func13, Tryz.ntmps13
  rw [HK.out]
  go_wp2_with fail
  rw [HW.out]
  have z0 : (0 : Int) ≤ 5 := by omega
  have z1 : (5 : Int) < 11 := by omega
  go_region_with (first | (go_at_call 31; refine HC.out.mono ?_; rintro e w5 ⟨F', hF1, hF2, hT, hFr, v, rfl, hS, hV⟩; obtain ⟨A9, c9, hv9, _, _⟩ := id hS; subst hv9; obtain ⟨c0, c1, c2, c3, f0, f1, f2, f3⟩ := ans_cells ((hFr.block (W.heap.size + 1) (show W.heap.size + 1 < W1.heap.size by omega) (fun hk => by have := hF _ hk; omega)).trans HA.out)))
  all_goals
    go_wp2_with fail
    refine bodyPost_ret (results_cell_row rfl _ _ (W.heap.size + 1) 32 #[_, _, _, _] (0, 0) _ rfl (put4_at ((hFr.block (W.heap.size + 1) (show W.heap.size + 1 < W1.heap.size by omega) (fun hk => by have := hF _ hk; omega)).trans HA.out)) Tryz.underlying32 rfl (by kernel_rfl)) rfl ?_
    rw [HS.out]
    exact do_post hF HB.out hs1 hF1 hF2 hT ⟨hFr.os, hFr.tape, hFr.output, hFr.size, hFr.block⟩ hS hV

set_option maxRecDepth 100000 in
set_option maxHeartbeats 4000000 in
theorem do_read {W : World} {F : Nat → Prop} {tb : Nat} {g : St} (h : Tree W F tb g) (o : Ask) (hp : o.path.length ≤ 4398046511104) (hd : o.dst.length ≤ 4398046511104) (hda : o.data.length ≤ 4398046511104) (hI : Inv g) (hle : ∀ i, (entsOf g i).length ≤ 1099511627776) (hlk : LinksOk W g) (hk : o.do_ = 6) :
    Calls Tryz.prog 13 #[ptr tb, opV o] W (OpPost W F tb g (step g o)) := by
  have hF := h.2
  have hbl : Below W.heap.size W (((W.alloc (.cells #[.int .i64 o.do_, .string (mk o.path), .string (mk o.dst), .int .i64 o.off, .int .i64 o.len, .string (mk o.data)] 35)).alloc (.cells #[.int .i64 0, .int .i64 0, .string ⟨#[]⟩, .slice none 0 0] 32)).alloc (.cells #[.func (.func 26) #[] #[], .func (.func 27) #[] #[], .func (.func 28) #[] #[], .func (.func 29) #[] #[], .func (.func 30) #[] #[], .func (.func 31) #[] #[], .func (.func 32) #[] #[], .func (.func 33) #[] #[], .func (.func 34) #[] #[], .func (.func 35) #[] #[], .func (.func 36) #[] #[]] 61)) := balloc (balloc (balloc (Below.refl _ _)))
  obtain ⟨W1, hW1⟩ : ∃ W1, ((W.alloc (.cells #[.int .i64 o.do_, .string (mk o.path), .string (mk o.dst), .int .i64 o.off, .int .i64 o.len, .string (mk o.data)] 35)).alloc (.cells #[.int .i64 0, .int .i64 0, .string ⟨#[]⟩, .slice none 0 0] 32)).alloc (.cells #[.func (.func 26) #[] #[], .func (.func 27) #[] #[], .func (.func 28) #[] #[], .func (.func 29) #[] #[], .func (.func 30) #[] #[], .func (.func 31) #[] #[], .func (.func 32) #[] #[], .func (.func 33) #[] #[], .func (.func 34) #[] #[], .func (.func 35) #[] #[], .func (.func 36) #[] #[]] 61) = W1 := ⟨_, rfl⟩
  have hs0 := OpAt.start W F o
  have hbox : W1.heap[W.heap.size]? = some (.cells #[.int .i64 o.do_, .string (mk o.path), .string (mk o.dst), .int .i64 o.off, .int .i64 o.len, .string (mk o.data)] 35 (0, 0)) := by rw [← hW1, Below.heap_alloc _ _ _ (by simp; omega)]; exact hs0.box
  have hans : W1.heap[W.heap.size + 1]? = some (.cells #[.int .i64 0, .int .i64 0, .string ⟨#[]⟩, .slice none 0 0] 32 (0, 0)) := by rw [← hW1, Below.heap_alloc _ _ _ (by simp)]; exact hs0.ans
  have harr : W1.heap[W.heap.size + 2]? = some (.cells #[.func (.func 26) #[] #[], .func (.func 27) #[] #[], .func (.func 28) #[] #[], .func (.func 29) #[] #[], .func (.func 30) #[] #[], .func (.func 31) #[] #[], .func (.func 32) #[] #[], .func (.func 33) #[] #[], .func (.func 34) #[] #[], .func (.func 35) #[] #[], .func (.func 36) #[] #[]] 61 (0, 0)) := by
    rw [← hW1]
    have := heap_alloc_new ((W.alloc (.cells #[.int .i64 o.do_, .string (mk o.path), .string (mk o.dst), .int .i64 o.off, .int .i64 o.len, .string (mk o.data)] 35)).alloc (.cells #[.int .i64 0, .int .i64 0, .string ⟨#[]⟩, .slice none 0 0] 32)) (.cells #[.func (.func 26) #[] #[], .func (.func 27) #[] #[], .func (.func 28) #[] #[], .func (.func 29) #[] #[], .func (.func 30) #[] #[], .func (.func 31) #[] #[], .func (.func 32) #[] #[], .func (.func 33) #[] #[], .func (.func 34) #[] #[], .func (.func 35) #[] #[], .func (.func 36) #[] #[]] 61)
    rw [World.size_alloc, World.size_alloc] at this
    exact this
  rw [hW1] at hbl
  have hs1 : W.heap.size + 3 ≤ W1.heap.size := by rw [← hW1]; simp
  have hst : step g o = readS g o := by unfold step; simp [hk]
  rw [hk] at hW1
  have HW := Lib.hid hW1
  have HK := Lib.hid hk
  have HB := Lib.hid hbl
  have HS := Lib.hid hst
  have h3 := (h.below hbl).drew
  have HC := Lib.hid (read_calls h3 o hp)
  have q0 := heap_cell hbox 0 _ rfl
  have q1 := heap_cell hbox 1 _ rfl
  have q2 := heap_cell hbox 2 _ rfl
  have q3 := heap_cell hbox 3 _ rfl
  have q4 := heap_cell hbox 4 _ rfl
  have q5 := heap_cell hbox 5 _ rfl
  have p6 := heap_cell harr 6 _ rfl
  rw [hk] at q0
  unfold opV at HC
  rw [hk] at HC
  have HA := Lib.hid hans
  clear hW1 hk hbl hst h3 hI hle hlk hbox hans harr hs0 h
  unfold opV ptr at *
  go_enter Tryz.func13, Tryz.ntmps13
  rw [HK.out]
  go_wp2_with fail
  rw [HW.out]
  have z0 : (0 : Int) ≤ 6 := by omega
  have z1 : (6 : Int) < 11 := by omega
  go_region_with (first | (go_at_call 32; refine HC.out.mono ?_; rintro e w5 ⟨F', hF1, hF2, hT, hFr, v, rfl, hS, hV⟩; obtain ⟨A9, c9, hv9, _, _⟩ := id hS; subst hv9; obtain ⟨c0, c1, c2, c3, f0, f1, f2, f3⟩ := ans_cells ((hFr.block (W.heap.size + 1) (show W.heap.size + 1 < W1.heap.size by omega) (fun hk => by have := hF _ hk; omega)).trans HA.out)))
  all_goals
    go_wp2_with fail
    refine bodyPost_ret (results_cell_row rfl _ _ (W.heap.size + 1) 32 #[_, _, _, _] (0, 0) _ rfl (put4_at ((hFr.block (W.heap.size + 1) (show W.heap.size + 1 < W1.heap.size by omega) (fun hk => by have := hF _ hk; omega)).trans HA.out)) Tryz.underlying32 rfl (by kernel_rfl)) rfl ?_
    rw [HS.out]
    exact do_post hF HB.out hs1 hF1 hF2 hT ⟨hFr.os, hFr.tape, hFr.output, hFr.size, hFr.block⟩ hS hV

set_option maxRecDepth 100000 in
set_option maxHeartbeats 4000000 in
theorem do_write {W : World} {F : Nat → Prop} {tb : Nat} {g : St} (h : Tree W F tb g) (o : Ask) (hp : o.path.length ≤ 4398046511104) (hd : o.dst.length ≤ 4398046511104) (hda : o.data.length ≤ 4398046511104) (hI : Inv g) (hle : ∀ i, (entsOf g i).length ≤ 1099511627776) (hlk : LinksOk W g) (hk : o.do_ = 7) :
    Calls Tryz.prog 13 #[ptr tb, opV o] W (OpPost W F tb g (step g o)) := by
  have hF := h.2
  have hbl : Below W.heap.size W (((W.alloc (.cells #[.int .i64 o.do_, .string (mk o.path), .string (mk o.dst), .int .i64 o.off, .int .i64 o.len, .string (mk o.data)] 35)).alloc (.cells #[.int .i64 0, .int .i64 0, .string ⟨#[]⟩, .slice none 0 0] 32)).alloc (.cells #[.func (.func 26) #[] #[], .func (.func 27) #[] #[], .func (.func 28) #[] #[], .func (.func 29) #[] #[], .func (.func 30) #[] #[], .func (.func 31) #[] #[], .func (.func 32) #[] #[], .func (.func 33) #[] #[], .func (.func 34) #[] #[], .func (.func 35) #[] #[], .func (.func 36) #[] #[]] 61)) := balloc (balloc (balloc (Below.refl _ _)))
  obtain ⟨W1, hW1⟩ : ∃ W1, ((W.alloc (.cells #[.int .i64 o.do_, .string (mk o.path), .string (mk o.dst), .int .i64 o.off, .int .i64 o.len, .string (mk o.data)] 35)).alloc (.cells #[.int .i64 0, .int .i64 0, .string ⟨#[]⟩, .slice none 0 0] 32)).alloc (.cells #[.func (.func 26) #[] #[], .func (.func 27) #[] #[], .func (.func 28) #[] #[], .func (.func 29) #[] #[], .func (.func 30) #[] #[], .func (.func 31) #[] #[], .func (.func 32) #[] #[], .func (.func 33) #[] #[], .func (.func 34) #[] #[], .func (.func 35) #[] #[], .func (.func 36) #[] #[]] 61) = W1 := ⟨_, rfl⟩
  have hs0 := OpAt.start W F o
  have hbox : W1.heap[W.heap.size]? = some (.cells #[.int .i64 o.do_, .string (mk o.path), .string (mk o.dst), .int .i64 o.off, .int .i64 o.len, .string (mk o.data)] 35 (0, 0)) := by rw [← hW1, Below.heap_alloc _ _ _ (by simp; omega)]; exact hs0.box
  have hans : W1.heap[W.heap.size + 1]? = some (.cells #[.int .i64 0, .int .i64 0, .string ⟨#[]⟩, .slice none 0 0] 32 (0, 0)) := by rw [← hW1, Below.heap_alloc _ _ _ (by simp)]; exact hs0.ans
  have harr : W1.heap[W.heap.size + 2]? = some (.cells #[.func (.func 26) #[] #[], .func (.func 27) #[] #[], .func (.func 28) #[] #[], .func (.func 29) #[] #[], .func (.func 30) #[] #[], .func (.func 31) #[] #[], .func (.func 32) #[] #[], .func (.func 33) #[] #[], .func (.func 34) #[] #[], .func (.func 35) #[] #[], .func (.func 36) #[] #[]] 61 (0, 0)) := by
    rw [← hW1]
    have := heap_alloc_new ((W.alloc (.cells #[.int .i64 o.do_, .string (mk o.path), .string (mk o.dst), .int .i64 o.off, .int .i64 o.len, .string (mk o.data)] 35)).alloc (.cells #[.int .i64 0, .int .i64 0, .string ⟨#[]⟩, .slice none 0 0] 32)) (.cells #[.func (.func 26) #[] #[], .func (.func 27) #[] #[], .func (.func 28) #[] #[], .func (.func 29) #[] #[], .func (.func 30) #[] #[], .func (.func 31) #[] #[], .func (.func 32) #[] #[], .func (.func 33) #[] #[], .func (.func 34) #[] #[], .func (.func 35) #[] #[], .func (.func 36) #[] #[]] 61)
    rw [World.size_alloc, World.size_alloc] at this
    exact this
  rw [hW1] at hbl
  have hs1 : W.heap.size + 3 ≤ W1.heap.size := by rw [← hW1]; simp
  have hst : step g o = writeS g o := by unfold step; simp [hk]
  rw [hk] at hW1
  have HW := Lib.hid hW1
  have HK := Lib.hid hk
  have HB := Lib.hid hbl
  have HS := Lib.hid hst
  have h3 := (h.below hbl).drew
  have HC := Lib.hid (write_calls h3 o hp hda)
  have q0 := heap_cell hbox 0 _ rfl
  have q1 := heap_cell hbox 1 _ rfl
  have q2 := heap_cell hbox 2 _ rfl
  have q3 := heap_cell hbox 3 _ rfl
  have q4 := heap_cell hbox 4 _ rfl
  have q5 := heap_cell hbox 5 _ rfl
  have p7 := heap_cell harr 7 _ rfl
  rw [hk] at q0
  unfold opV at HC
  rw [hk] at HC
  have HA := Lib.hid hans
  clear hW1 hk hbl hst h3 hI hle hlk hbox hans harr hs0 h
  unfold opV ptr at *
  go_enter Tryz.func13, Tryz.ntmps13
  rw [HK.out]
  go_wp2_with fail
  rw [HW.out]
  have z0 : (0 : Int) ≤ 7 := by omega
  have z1 : (7 : Int) < 11 := by omega
  go_region_with (first | (go_at_call 33; refine HC.out.mono ?_; rintro e w5 ⟨F', hF1, hF2, hT, hFr, v, rfl, hS, hV⟩; obtain ⟨A9, c9, hv9, _, _⟩ := id hS; subst hv9; obtain ⟨c0, c1, c2, c3, f0, f1, f2, f3⟩ := ans_cells ((hFr.block (W.heap.size + 1) (show W.heap.size + 1 < W1.heap.size by omega) (fun hk => by have := hF _ hk; omega)).trans HA.out)))
  all_goals
    go_wp2_with fail
    refine bodyPost_ret (results_cell_row rfl _ _ (W.heap.size + 1) 32 #[_, _, _, _] (0, 0) _ rfl (put4_at ((hFr.block (W.heap.size + 1) (show W.heap.size + 1 < W1.heap.size by omega) (fun hk => by have := hF _ hk; omega)).trans HA.out)) Tryz.underlying32 rfl (by kernel_rfl)) rfl ?_
    rw [HS.out]
    exact do_post hF HB.out hs1 hF1 hF2 hT ⟨hFr.os, hFr.tape, hFr.output, hFr.size, hFr.block⟩ hS hV
end Go.Proofs.YtaccokghjpcijaaGreatDoor
set_option linter.unusedVariables false
set_option linter.unusedSimpArgs false
namespace Go.Proofs.YtaccokghjpcijaaGreatDoor
open Go Go.RowKit Pp Go.Proofs.YtaccokghjpcijaaGreatDoorW.PrintWords

set_option maxRecDepth 100000 in
set_option maxHeartbeats 4000000 in
theorem do_truncate {W : World} {F : Nat → Prop} {tb : Nat} {g : St} (h : Tree W F tb g) (o : Ask) (hp : o.path.length ≤ 4398046511104) (hd : o.dst.length ≤ 4398046511104) (hda : o.data.length ≤ 4398046511104) (hI : Inv g) (hle : ∀ i, (entsOf g i).length ≤ 1099511627776) (hlk : LinksOk W g) (hk : o.do_ = 8) :
    Calls Tryz.prog 13 #[ptr tb, opV o] W (OpPost W F tb g (step g o)) := by
  have hF := h.2
  have hbl : Below W.heap.size W (((W.alloc (.cells #[.int .i64 o.do_, .string (mk o.path), .string (mk o.dst), .int .i64 o.off, .int .i64 o.len, .string (mk o.data)] 35)).alloc (.cells #[.int .i64 0, .int .i64 0, .string ⟨#[]⟩, .slice none 0 0] 32)).alloc (.cells #[.func (.func 26) #[] #[], .func (.func 27) #[] #[], .func (.func 28) #[] #[], .func (.func 29) #[] #[], .func (.func 30) #[] #[], .func (.func 31) #[] #[], .func (.func 32) #[] #[], .func (.func 33) #[] #[], .func (.func 34) #[] #[], .func (.func 35) #[] #[], .func (.func 36) #[] #[]] 61)) := balloc (balloc (balloc (Below.refl _ _)))
  obtain ⟨W1, hW1⟩ : ∃ W1, ((W.alloc (.cells #[.int .i64 o.do_, .string (mk o.path), .string (mk o.dst), .int .i64 o.off, .int .i64 o.len, .string (mk o.data)] 35)).alloc (.cells #[.int .i64 0, .int .i64 0, .string ⟨#[]⟩, .slice none 0 0] 32)).alloc (.cells #[.func (.func 26) #[] #[], .func (.func 27) #[] #[], .func (.func 28) #[] #[], .func (.func 29) #[] #[], .func (.func 30) #[] #[], .func (.func 31) #[] #[], .func (.func 32) #[] #[], .func (.func 33) #[] #[], .func (.func 34) #[] #[], .func (.func 35) #[] #[], .func (.func 36) #[] #[]] 61) = W1 := ⟨_, rfl⟩
  have hs0 := OpAt.start W F o
  have hbox : W1.heap[W.heap.size]? = some (.cells #[.int .i64 o.do_, .string (mk o.path), .string (mk o.dst), .int .i64 o.off, .int .i64 o.len, .string (mk o.data)] 35 (0, 0)) := by rw [← hW1, Below.heap_alloc _ _ _ (by simp; omega)]; exact hs0.box
  have hans : W1.heap[W.heap.size + 1]? = some (.cells #[.int .i64 0, .int .i64 0, .string ⟨#[]⟩, .slice none 0 0] 32 (0, 0)) := by rw [← hW1, Below.heap_alloc _ _ _ (by simp)]; exact hs0.ans
  have harr : W1.heap[W.heap.size + 2]? = some (.cells #[.func (.func 26) #[] #[], .func (.func 27) #[] #[], .func (.func 28) #[] #[], .func (.func 29) #[] #[], .func (.func 30) #[] #[], .func (.func 31) #[] #[], .func (.func 32) #[] #[], .func (.func 33) #[] #[], .func (.func 34) #[] #[], .func (.func 35) #[] #[], .func (.func 36) #[] #[]] 61 (0, 0)) := by
    rw [← hW1]
    have := heap_alloc_new ((W.alloc (.cells #[.int .i64 o.do_, .string (mk o.path), .string (mk o.dst), .int .i64 o.off, .int .i64 o.len, .string (mk o.data)] 35)).alloc (.cells #[.int .i64 0, .int .i64 0, .string ⟨#[]⟩, .slice none 0 0] 32)) (.cells #[.func (.func 26) #[] #[], .func (.func 27) #[] #[], .func (.func 28) #[] #[], .func (.func 29) #[] #[], .func (.func 30) #[] #[], .func (.func 31) #[] #[], .func (.func 32) #[] #[], .func (.func 33) #[] #[], .func (.func 34) #[] #[], .func (.func 35) #[] #[], .func (.func 36) #[] #[]] 61)
    rw [World.size_alloc, World.size_alloc] at this
    exact this
  rw [hW1] at hbl
  have hs1 : W.heap.size + 3 ≤ W1.heap.size := by rw [← hW1]; simp
  have hst : step g o = truncS g o := by unfold step; simp [hk]
  rw [hk] at hW1
  have HW := Lib.hid hW1
  have HK := Lib.hid hk
  have HB := Lib.hid hbl
  have HS := Lib.hid hst
  have h3 := (h.below hbl).drew
  have HC := Lib.hid (truncate_calls h3 o hp)
  have q0 := heap_cell hbox 0 _ rfl
  have q1 := heap_cell hbox 1 _ rfl
  have q2 := heap_cell hbox 2 _ rfl
  have q3 := heap_cell hbox 3 _ rfl
  have q4 := heap_cell hbox 4 _ rfl
  have q5 := heap_cell hbox 5 _ rfl
  have p8 := heap_cell harr 8 _ rfl
  rw [hk] at q0
  unfold opV at HC
  rw [hk] at HC
  have HA := Lib.hid hans
  clear hW1 hk hbl hst h3 hI hle hlk hbox hans harr hs0 h
  unfold opV ptr at *
  go_enter Tryz.func13, Tryz.ntmps13
  rw [HK.out]
  go_wp2_with fail
  rw [HW.out]
  have z0 : (0 : Int) ≤ 8 := by omega
  have z1 : (8 : Int) < 11 := by omega
  go_region_with (first | (go_at_call 34; refine HC.out.mono ?_; rintro e w5 ⟨F', hF1, hF2, hT, hFr, v, rfl, hS, hV⟩; obtain ⟨A9, c9, hv9, _, _⟩ := id hS; subst hv9; obtain ⟨c0, c1, c2, c3, f0, f1, f2, f3⟩ := ans_cells ((hFr.block (W.heap.size + 1) (show W.heap.size + 1 < W1.heap.size by omega) (fun hk => by have := hF _ hk; omega)).trans HA.out)))
  all_goals
    go_wp2_with fail
    refine bodyPost_ret (results_cell_row rfl _ _ (W.heap.size + 1) 32 #[_, _, _, _] (0, 0) _ rfl (put4_at ((hFr.block (W.heap.size + 1) (show W.heap.size + 1 < W1.heap.size by omega) (fun hk => by have := hF _ hk; omega)).trans HA.out)) Tryz.underlying32 rfl (by kernel_rfl)) rfl ?_
    rw [HS.out]
    exact do_post hF HB.out hs1 hF1 hF2 hT ⟨hFr.os, hFr.tape, hFr.output, hFr.size, hFr.block⟩ hS hV

set_option maxRecDepth 100000 in
set_option maxHeartbeats 4000000 in
theorem do_stat {W : World} {F : Nat → Prop} {tb : Nat} {g : St} (h : Tree W F tb g) (o : Ask) (hp : o.path.length ≤ 4398046511104) (hd : o.dst.length ≤ 4398046511104) (hda : o.data.length ≤ 4398046511104) (hI : Inv g) (hle : ∀ i, (entsOf g i).length ≤ 1099511627776) (hlk : LinksOk W g) (hk : o.do_ = 9) :
    Calls Tryz.prog 13 #[ptr tb, opV o] W (OpPost W F tb g (step g o)) := by
  have hF := h.2
  have hbl : Below W.heap.size W (((W.alloc (.cells #[.int .i64 o.do_, .string (mk o.path), .string (mk o.dst), .int .i64 o.off, .int .i64 o.len, .string (mk o.data)] 35)).alloc (.cells #[.int .i64 0, .int .i64 0, .string ⟨#[]⟩, .slice none 0 0] 32)).alloc (.cells #[.func (.func 26) #[] #[], .func (.func 27) #[] #[], .func (.func 28) #[] #[], .func (.func 29) #[] #[], .func (.func 30) #[] #[], .func (.func 31) #[] #[], .func (.func 32) #[] #[], .func (.func 33) #[] #[], .func (.func 34) #[] #[], .func (.func 35) #[] #[], .func (.func 36) #[] #[]] 61)) := balloc (balloc (balloc (Below.refl _ _)))
  obtain ⟨W1, hW1⟩ : ∃ W1, ((W.alloc (.cells #[.int .i64 o.do_, .string (mk o.path), .string (mk o.dst), .int .i64 o.off, .int .i64 o.len, .string (mk o.data)] 35)).alloc (.cells #[.int .i64 0, .int .i64 0, .string ⟨#[]⟩, .slice none 0 0] 32)).alloc (.cells #[.func (.func 26) #[] #[], .func (.func 27) #[] #[], .func (.func 28) #[] #[], .func (.func 29) #[] #[], .func (.func 30) #[] #[], .func (.func 31) #[] #[], .func (.func 32) #[] #[], .func (.func 33) #[] #[], .func (.func 34) #[] #[], .func (.func 35) #[] #[], .func (.func 36) #[] #[]] 61) = W1 := ⟨_, rfl⟩
  have hs0 := OpAt.start W F o
  have hbox : W1.heap[W.heap.size]? = some (.cells #[.int .i64 o.do_, .string (mk o.path), .string (mk o.dst), .int .i64 o.off, .int .i64 o.len, .string (mk o.data)] 35 (0, 0)) := by rw [← hW1, Below.heap_alloc _ _ _ (by simp; omega)]; exact hs0.box
  have hans : W1.heap[W.heap.size + 1]? = some (.cells #[.int .i64 0, .int .i64 0, .string ⟨#[]⟩, .slice none 0 0] 32 (0, 0)) := by rw [← hW1, Below.heap_alloc _ _ _ (by simp)]; exact hs0.ans
  have harr : W1.heap[W.heap.size + 2]? = some (.cells #[.func (.func 26) #[] #[], .func (.func 27) #[] #[], .func (.func 28) #[] #[], .func (.func 29) #[] #[], .func (.func 30) #[] #[], .func (.func 31) #[] #[], .func (.func 32) #[] #[], .func (.func 33) #[] #[], .func (.func 34) #[] #[], .func (.func 35) #[] #[], .func (.func 36) #[] #[]] 61 (0, 0)) := by
    rw [← hW1]
    have := heap_alloc_new ((W.alloc (.cells #[.int .i64 o.do_, .string (mk o.path), .string (mk o.dst), .int .i64 o.off, .int .i64 o.len, .string (mk o.data)] 35)).alloc (.cells #[.int .i64 0, .int .i64 0, .string ⟨#[]⟩, .slice none 0 0] 32)) (.cells #[.func (.func 26) #[] #[], .func (.func 27) #[] #[], .func (.func 28) #[] #[], .func (.func 29) #[] #[], .func (.func 30) #[] #[], .func (.func 31) #[] #[], .func (.func 32) #[] #[], .func (.func 33) #[] #[], .func (.func 34) #[] #[], .func (.func 35) #[] #[], .func (.func 36) #[] #[]] 61)
    rw [World.size_alloc, World.size_alloc] at this
    exact this
  rw [hW1] at hbl
  have hs1 : W.heap.size + 3 ≤ W1.heap.size := by rw [← hW1]; simp
  have hst : step g o = statS g o := by unfold step; simp [hk]
  rw [hk] at hW1
  have HW := Lib.hid hW1
  have HK := Lib.hid hk
  have HB := Lib.hid hbl
  have HS := Lib.hid hst
  have h3 := (h.below hbl).drew
  have HC := Lib.hid (stat_calls h3 o hp (hlk.below hbl.drew))
  have q0 := heap_cell hbox 0 _ rfl
  have q1 := heap_cell hbox 1 _ rfl
  have q2 := heap_cell hbox 2 _ rfl
  have q3 := heap_cell hbox 3 _ rfl
  have q4 := heap_cell hbox 4 _ rfl
  have q5 := heap_cell hbox 5 _ rfl
  have p9 := heap_cell harr 9 _ rfl
  rw [hk] at q0
  unfold opV at HC
  rw [hk] at HC
  have HA := Lib.hid hans
  clear hW1 hk hbl hst h3 hI hle hlk hbox hans harr hs0 h
  unfold opV ptr at *
  go_enter Tryz.func13, Tryz.ntmps13
  rw [HK.out]
  go_wp2_with fail
  rw [HW.out]
  have z0 : (0 : Int) ≤ 9 := by omega
  have z1 : (9 : Int) < 11 := by omega
  go_region_with (first | (go_at_call 35; refine HC.out.mono ?_; rintro e w5 ⟨F', hF1, hF2, hT, hFr, v, rfl, hS, hV⟩; obtain ⟨A9, c9, hv9, _, _⟩ := id hS; subst hv9; obtain ⟨c0, c1, c2, c3, f0, f1, f2, f3⟩ := ans_cells ((hFr.block (W.heap.size + 1) (show W.heap.size + 1 < W1.heap.size by omega) (fun hk => by have := hF _ hk; omega)).trans HA.out)))
  all_goals
    go_wp2_with fail
    refine bodyPost_ret (results_cell_row rfl _ _ (W.heap.size + 1) 32 #[_, _, _, _] (0, 0) _ rfl (put4_at ((hFr.block (W.heap.size + 1) (show W.heap.size + 1 < W1.heap.size by omega) (fun hk => by have := hF _ hk; omega)).trans HA.out)) Tryz.underlying32 rfl (by kernel_rfl)) rfl ?_
    rw [HS.out]
    exact do_post hF HB.out hs1 hF1 hF2 hT ⟨hFr.os, hFr.tape, hFr.output, hFr.size, hFr.block⟩ hS hV

set_option maxRecDepth 100000 in
set_option maxHeartbeats 4000000 in
theorem do_list {W : World} {F : Nat → Prop} {tb : Nat} {g : St} (h : Tree W F tb g) (o : Ask) (hp : o.path.length ≤ 4398046511104) (hd : o.dst.length ≤ 4398046511104) (hda : o.data.length ≤ 4398046511104) (hI : Inv g) (hle : ∀ i, (entsOf g i).length ≤ 1099511627776) (hlk : LinksOk W g) (hk : o.do_ = 10) :
    Calls Tryz.prog 13 #[ptr tb, opV o] W (OpPost W F tb g (step g o)) := by
  have hF := h.2
  have hbl : Below W.heap.size W (((W.alloc (.cells #[.int .i64 o.do_, .string (mk o.path), .string (mk o.dst), .int .i64 o.off, .int .i64 o.len, .string (mk o.data)] 35)).alloc (.cells #[.int .i64 0, .int .i64 0, .string ⟨#[]⟩, .slice none 0 0] 32)).alloc (.cells #[.func (.func 26) #[] #[], .func (.func 27) #[] #[], .func (.func 28) #[] #[], .func (.func 29) #[] #[], .func (.func 30) #[] #[], .func (.func 31) #[] #[], .func (.func 32) #[] #[], .func (.func 33) #[] #[], .func (.func 34) #[] #[], .func (.func 35) #[] #[], .func (.func 36) #[] #[]] 61)) := balloc (balloc (balloc (Below.refl _ _)))
  obtain ⟨W1, hW1⟩ : ∃ W1, ((W.alloc (.cells #[.int .i64 o.do_, .string (mk o.path), .string (mk o.dst), .int .i64 o.off, .int .i64 o.len, .string (mk o.data)] 35)).alloc (.cells #[.int .i64 0, .int .i64 0, .string ⟨#[]⟩, .slice none 0 0] 32)).alloc (.cells #[.func (.func 26) #[] #[], .func (.func 27) #[] #[], .func (.func 28) #[] #[], .func (.func 29) #[] #[], .func (.func 30) #[] #[], .func (.func 31) #[] #[], .func (.func 32) #[] #[], .func (.func 33) #[] #[], .func (.func 34) #[] #[], .func (.func 35) #[] #[], .func (.func 36) #[] #[]] 61) = W1 := ⟨_, rfl⟩
  have hs0 := OpAt.start W F o
  have hbox : W1.heap[W.heap.size]? = some (.cells #[.int .i64 o.do_, .string (mk o.path), .string (mk o.dst), .int .i64 o.off, .int .i64 o.len, .string (mk o.data)] 35 (0, 0)) := by rw [← hW1, Below.heap_alloc _ _ _ (by simp; omega)]; exact hs0.box
  have hans : W1.heap[W.heap.size + 1]? = some (.cells #[.int .i64 0, .int .i64 0, .string ⟨#[]⟩, .slice none 0 0] 32 (0, 0)) := by rw [← hW1, Below.heap_alloc _ _ _ (by simp)]; exact hs0.ans
  have harr : W1.heap[W.heap.size + 2]? = some (.cells #[.func (.func 26) #[] #[], .func (.func 27) #[] #[], .func (.func 28) #[] #[], .func (.func 29) #[] #[], .func (.func 30) #[] #[], .func (.func 31) #[] #[], .func (.func 32) #[] #[], .func (.func 33) #[] #[], .func (.func 34) #[] #[], .func (.func 35) #[] #[], .func (.func 36) #[] #[]] 61 (0, 0)) := by
    rw [← hW1]
    have := heap_alloc_new ((W.alloc (.cells #[.int .i64 o.do_, .string (mk o.path), .string (mk o.dst), .int .i64 o.off, .int .i64 o.len, .string (mk o.data)] 35)).alloc (.cells #[.int .i64 0, .int .i64 0, .string ⟨#[]⟩, .slice none 0 0] 32)) (.cells #[.func (.func 26) #[] #[], .func (.func 27) #[] #[], .func (.func 28) #[] #[], .func (.func 29) #[] #[], .func (.func 30) #[] #[], .func (.func 31) #[] #[], .func (.func 32) #[] #[], .func (.func 33) #[] #[], .func (.func 34) #[] #[], .func (.func 35) #[] #[], .func (.func 36) #[] #[]] 61)
    rw [World.size_alloc, World.size_alloc] at this
    exact this
  rw [hW1] at hbl
  have hs1 : W.heap.size + 3 ≤ W1.heap.size := by rw [← hW1]; simp
  have hst : step g o = listS g o := by unfold step; simp [hk]
  rw [hk] at hW1
  have HW := Lib.hid hW1
  have HK := Lib.hid hk
  have HB := Lib.hid hbl
  have HS := Lib.hid hst
  have h3 := (h.below hbl).drew
  have HC := Lib.hid (list_calls h3 o hp hI hle)
  have q0 := heap_cell hbox 0 _ rfl
  have q1 := heap_cell hbox 1 _ rfl
  have q2 := heap_cell hbox 2 _ rfl
  have q3 := heap_cell hbox 3 _ rfl
  have q4 := heap_cell hbox 4 _ rfl
  have q5 := heap_cell hbox 5 _ rfl
  have p10 := heap_cell harr 10 _ rfl
  rw [hk] at q0
  unfold opV at HC
  rw [hk] at HC
  have HA := Lib.hid hans
  clear hW1 hk hbl hst h3 hI hle hlk hbox hans harr hs0 h
  unfold opV ptr at *
  go_enter Tryz.func13, Tryz.ntmps13
  rw [HK.out]
  go_wp2_with fail
  rw [HW.out]
  have z0 : (0 : Int) ≤ 10 := by omega
  have z1 : (10 : Int) < 11 := by omega
  go_region_with (first | (go_at_call 36; refine HC.out.mono ?_; rintro e w5 ⟨F', hF1, hF2, hT, hFr, v, rfl, hS, hV⟩; obtain ⟨A9, c9, hv9, _, _⟩ := id hS; subst hv9; obtain ⟨c0, c1, c2, c3, f0, f1, f2, f3⟩ := ans_cells ((hFr.block (W.heap.size + 1) (show W.heap.size + 1 < W1.heap.size by omega) (fun hk => by have := hF _ hk; omega)).trans HA.out)))
  all_goals
    go_wp2_with fail
    refine bodyPost_ret (results_cell_row rfl _ _ (W.heap.size + 1) 32 #[_, _, _, _] (0, 0) _ rfl (put4_at ((hFr.block (W.heap.size + 1) (show W.heap.size + 1 < W1.heap.size by omega) (fun hk => by have := hF _ hk; omega)).trans HA.out)) Tryz.underlying32 rfl (by kernel_rfl)) rfl ?_
    rw [HS.out]
    exact do_post hF HB.out hs1 hF1 hF2 hT ⟨hFr.os, hFr.tape, hFr.output, hFr.size, hFr.block⟩ hS hV
end Go.Proofs.YtaccokghjpcijaaGreatDoor
set_option linter.unusedVariables false
set_option linter.unusedSimpArgs false
namespace Go.Proofs.YtaccokghjpcijaaGreatDoor
open Go Go.RowKit Pp Go.Proofs.YtaccokghjpcijaaGreatDoorW.PrintWords

set_option maxRecDepth 100000 in
set_option maxHeartbeats 4000000 in
theorem do_neg {W : World} {F : Nat → Prop} {tb : Nat} {g : St} (h : Tree W F tb g) (o : Ask) (hp : o.path.length ≤ 4398046511104) (hd : o.dst.length ≤ 4398046511104) (hda : o.data.length ≤ 4398046511104) (hI : Inv g) (hle : ∀ i, (entsOf g i).length ≤ 1099511627776) (hlk : LinksOk W g) (hk : o.do_ < 0) :
    Calls Tryz.prog 13 #[ptr tb, opV o] W (OpPost W F tb g (step g o)) := by
  have hst := Lib.hid (show step g o = (g, told 1) by unfold step; rw [if_neg (by omega), if_neg (by omega), if_neg (by omega), if_neg (by omega), if_neg (by omega), if_neg (by omega), if_neg (by omega), if_neg (by omega), if_neg (by omega), if_neg (by omega), if_neg (by omega)])
  have HT := Lib.hid h
  clear h hI hle hlk
  unfold ptr
  have hbl : Below W.heap.size W (((W.alloc (.cells #[.int .i64 o.do_, .string (mk o.path), .string (mk o.dst), .int .i64 o.off, .int .i64 o.len, .string (mk o.data)] 35)).alloc (.cells #[.int .i64 0, .int .i64 0, .string ⟨#[]⟩, .slice none 0 0] 32)).alloc (.cells #[.func (.func 26) #[] #[], .func (.func 27) #[] #[], .func (.func 28) #[] #[], .func (.func 29) #[] #[], .func (.func 30) #[] #[], .func (.func 31) #[] #[], .func (.func 32) #[] #[], .func (.func 33) #[] #[], .func (.func 34) #[] #[], .func (.func 35) #[] #[], .func (.func 36) #[] #[]] 61)) := balloc (balloc (balloc (Below.refl _ _)))
  obtain ⟨W1, hW1⟩ : ∃ W1, ((W.alloc (.cells #[.int .i64 o.do_, .string (mk o.path), .string (mk o.dst), .int .i64 o.off, .int .i64 o.len, .string (mk o.data)] 35)).alloc (.cells #[.int .i64 0, .int .i64 0, .string ⟨#[]⟩, .slice none 0 0] 32)).alloc (.cells #[.func (.func 26) #[] #[], .func (.func 27) #[] #[], .func (.func 28) #[] #[], .func (.func 29) #[] #[], .func (.func 30) #[] #[], .func (.func 31) #[] #[], .func (.func 32) #[] #[], .func (.func 33) #[] #[], .func (.func 34) #[] #[], .func (.func 35) #[] #[], .func (.func 36) #[] #[]] 61) = W1 := ⟨_, rfl⟩
  have hs0 := OpAt.start W (fun _ => False) o
  have hans : W1.heap[W.heap.size + 1]? = some (.cells #[.int .i64 0, .int .i64 0, .string ⟨#[]⟩, .slice none 0 0] 32 (0, 0)) := by rw [← hW1, Below.heap_alloc _ _ _ (by simp)]; exact hs0.ans
  rw [hW1] at hbl
  have hs1 : W.heap.size + 3 ≤ W1.heap.size := by rw [← hW1]; simp
  have HW := Lib.hid hW1
  have HB := Lib.hid hbl
  have HA := Lib.hid hans
  clear hW1 hbl hs0 hans
  unfold opV
  go_enter Tryz.func13, Tryz.ntmps13
  go_wp2_with fail
  rw [HW.out]
  refine (told_calls _ _).mono ?_
  rintro e w5 ⟨rfl, hB5⟩
  have HA5 := Lib.hid (show w5.heap[W.heap.size + 1]? = _ from (hB5.block (W.heap.size + 1) (by omega)).trans HA.out)
  have HB5 := Lib.hid (bstep HB.out hB5)
  obtain ⟨c0, c1, c2, c3, f0, f1, f2, f3⟩ := ans_cells HA5.out
  clear hB5
  go_wp2_with fail
  refine bodyPost_ret (results_cell_row rfl _ _ (W.heap.size + 1) 32 #[_, _, _, _] (0, 0) _ rfl (put4_at HA5.out) Tryz.underlying32 rfl (by kernel_rfl)) rfl ?_
  rw [hst.out]
  refine OpPost.still (HT.out) (put4_below HB5.out (Nat.le_succ _)) (AnsAt.told _ _ 1)

set_option maxRecDepth 100000 in
set_option maxHeartbeats 4000000 in
theorem do_big {W : World} {F : Nat → Prop} {tb : Nat} {g : St} (h : Tree W F tb g) (o : Ask) (hp : o.path.length ≤ 4398046511104) (hd : o.dst.length ≤ 4398046511104) (hda : o.data.length ≤ 4398046511104) (hI : Inv g) (hle : ∀ i, (entsOf g i).length ≤ 1099511627776) (hlk : LinksOk W g) (hk : 10 < o.do_) :
    Calls Tryz.prog 13 #[ptr tb, opV o] W (OpPost W F tb g (step g o)) := by
  have hst := Lib.hid (show step g o = (g, told 1) by unfold step; rw [if_neg (by omega), if_neg (by omega), if_neg (by omega), if_neg (by omega), if_neg (by omega), if_neg (by omega), if_neg (by omega), if_neg (by omega), if_neg (by omega), if_neg (by omega), if_neg (by omega)])
  have hk1 : ¬ o.do_ < 0 := by omega
  have hk2 : (11 : Int) ≤ o.do_ := by omega
  clear hk
  have HT := Lib.hid h
  clear h hI hle hlk
  unfold ptr
  have hbl : Below W.heap.size W (((W.alloc (.cells #[.int .i64 o.do_, .string (mk o.path), .string (mk o.dst), .int .i64 o.off, .int .i64 o.len, .string (mk o.data)] 35)).alloc (.cells #[.int .i64 0, .int .i64 0, .string ⟨#[]⟩, .slice none 0 0] 32)).alloc (.cells #[.func (.func 26) #[] #[], .func (.func 27) #[] #[], .func (.func 28) #[] #[], .func (.func 29) #[] #[], .func (.func 30) #[] #[], .func (.func 31) #[] #[], .func (.func 32) #[] #[], .func (.func 33) #[] #[], .func (.func 34) #[] #[], .func (.func 35) #[] #[], .func (.func 36) #[] #[]] 61)) := balloc (balloc (balloc (Below.refl _ _)))
  obtain ⟨W1, hW1⟩ : ∃ W1, ((W.alloc (.cells #[.int .i64 o.do_, .string (mk o.path), .string (mk o.dst), .int .i64 o.off, .int .i64 o.len, .string (mk o.data)] 35)).alloc (.cells #[.int .i64 0, .int .i64 0, .string ⟨#[]⟩, .slice none 0 0] 32)).alloc (.cells #[.func (.func 26) #[] #[], .func (.func 27) #[] #[], .func (.func 28) #[] #[], .func (.func 29) #[] #[], .func (.func 30) #[] #[], .func (.func 31) #[] #[], .func (.func 32) #[] #[], .func (.func 33) #[] #[], .func (.func 34) #[] #[], .func (.func 35) #[] #[], .func (.func 36) #[] #[]] 61) = W1 := ⟨_, rfl⟩
  have hs0 := OpAt.start W (fun _ => False) o
  have hans : W1.heap[W.heap.size + 1]? = some (.cells #[.int .i64 0, .int .i64 0, .string ⟨#[]⟩, .slice none 0 0] 32 (0, 0)) := by rw [← hW1, Below.heap_alloc _ _ _ (by simp)]; exact hs0.ans
  rw [hW1] at hbl
  have hs1 : W.heap.size + 3 ≤ W1.heap.size := by rw [← hW1]; simp
  have HW := Lib.hid hW1
  have HB := Lib.hid hbl
  have HA := Lib.hid hans
  clear hW1 hbl hs0 hans
  unfold opV
  go_enter Tryz.func13, Tryz.ntmps13
  go_wp2_with fail
  rw [HW.out]
  refine (told_calls _ _).mono ?_
  rintro e w5 ⟨rfl, hB5⟩
  have HA5 := Lib.hid (show w5.heap[W.heap.size + 1]? = _ from (hB5.block (W.heap.size + 1) (by omega)).trans HA.out)
  have HB5 := Lib.hid (bstep HB.out hB5)
  obtain ⟨c0, c1, c2, c3, f0, f1, f2, f3⟩ := ans_cells HA5.out
  clear hB5
  go_wp2_with fail
  refine bodyPost_ret (results_cell_row rfl _ _ (W.heap.size + 1) 32 #[_, _, _, _] (0, 0) _ rfl (put4_at HA5.out) Tryz.underlying32 rfl (by kernel_rfl)) rfl ?_
  rw [hst.out]
  refine OpPost.still (HT.out) (put4_below HB5.out (Nat.le_succ _)) (AnsAt.told _ _ 1)

set_option maxRecDepth 100000 in
set_option maxHeartbeats 4000000 in
theorem do_nil (W : World) (o : Ask) :
    Calls Tryz.prog 13 #[.pointer none, opV o] W fun e W' => e = .returned (.agg #[.int .i64 1, .int .i64 0, .string ⟨#[]⟩, .slice none 0 0]) ∧ Below W.heap.size W W' := by
  have hbl : Below W.heap.size W (((W.alloc (.cells #[.int .i64 o.do_, .string (mk o.path), .string (mk o.dst), .int .i64 o.off, .int .i64 o.len, .string (mk o.data)] 35)).alloc (.cells #[.int .i64 0, .int .i64 0, .string ⟨#[]⟩, .slice none 0 0] 32)).alloc (.cells #[.func (.func 26) #[] #[], .func (.func 27) #[] #[], .func (.func 28) #[] #[], .func (.func 29) #[] #[], .func (.func 30) #[] #[], .func (.func 31) #[] #[], .func (.func 32) #[] #[], .func (.func 33) #[] #[], .func (.func 34) #[] #[], .func (.func 35) #[] #[], .func (.func 36) #[] #[]] 61)) := balloc (balloc (balloc (Below.refl _ _)))
  obtain ⟨W1, hW1⟩ : ∃ W1, ((W.alloc (.cells #[.int .i64 o.do_, .string (mk o.path), .string (mk o.dst), .int .i64 o.off, .int .i64 o.len, .string (mk o.data)] 35)).alloc (.cells #[.int .i64 0, .int .i64 0, .string ⟨#[]⟩, .slice none 0 0] 32)).alloc (.cells #[.func (.func 26) #[] #[], .func (.func 27) #[] #[], .func (.func 28) #[] #[], .func (.func 29) #[] #[], .func (.func 30) #[] #[], .func (.func 31) #[] #[], .func (.func 32) #[] #[], .func (.func 33) #[] #[], .func (.func 34) #[] #[], .func (.func 35) #[] #[], .func (.func 36) #[] #[]] 61) = W1 := ⟨_, rfl⟩
  have hs0 := OpAt.start W (fun _ => False) o
  have hans : W1.heap[W.heap.size + 1]? = some (.cells #[.int .i64 0, .int .i64 0, .string ⟨#[]⟩, .slice none 0 0] 32 (0, 0)) := by rw [← hW1, Below.heap_alloc _ _ _ (by simp)]; exact hs0.ans
  rw [hW1] at hbl
  have hs1 : W.heap.size + 3 ≤ W1.heap.size := by rw [← hW1]; simp
  have HW := Lib.hid hW1
  have HB := Lib.hid hbl
  have HA := Lib.hid hans
  clear hW1 hbl hs0 hans
  unfold opV
  go_enter Tryz.func13, Tryz.ntmps13
  go_wp2_with fail
  rw [HW.out]
  refine (told_calls _ _).mono ?_
  rintro e w5 ⟨rfl, hB5⟩
  have HA5 := Lib.hid (show w5.heap[W.heap.size + 1]? = _ from (hB5.block (W.heap.size + 1) (by omega)).trans HA.out)
  have HB5 := Lib.hid (bstep HB.out hB5)
  obtain ⟨c0, c1, c2, c3, f0, f1, f2, f3⟩ := ans_cells HA5.out
  clear hB5
  go_wp2_with fail
  refine bodyPost_ret (results_cell_row rfl _ _ (W.heap.size + 1) 32 #[_, _, _, _] (0, 0) _ rfl (put4_at HA5.out) Tryz.underlying32 rfl (by kernel_rfl)) rfl ?_
  exact ⟨rfl, put4_below HB5.out (Nat.le_succ _)⟩

theorem do_calls {W : World} {F : Nat → Prop} {tb : Nat} {g : St} (h : Tree W F tb g) (o : Ask) (hp : o.path.length ≤ 4398046511104) (hd : o.dst.length ≤ 4398046511104) (hda : o.data.length ≤ 4398046511104) (hI : Inv g) (hle : ∀ i, (entsOf g i).length ≤ 1099511627776) (hlk : LinksOk W g) : Calls Tryz.prog 13 #[ptr tb, opV o] W (OpPost W F tb g (step g o)) := by
  by_cases h0 : o.do_ < 0
  · exact do_neg h o hp hd hda hI hle hlk h0
  by_cases h1 : 10 < o.do_
  · exact do_big h o hp hd hda hI hle hlk h1
  have hk : o.do_ = 0 ∨ o.do_ = 1 ∨ o.do_ = 2 ∨ o.do_ = 3 ∨ o.do_ = 4 ∨ o.do_ = 5 ∨ o.do_ = 6 ∨ o.do_ = 7 ∨ o.do_ = 8 ∨ o.do_ = 9 ∨ o.do_ = 10 := by omega
  rcases hk with hk | hk | hk | hk | hk | hk | hk | hk | hk | hk | hk
  · exact do_create h o hp hd hda hI hle hlk hk
  · exact do_mkdir h o hp hd hda hI hle hlk hk
  · exact do_link h o hp hd hda hI hle hlk hk
  · exact do_unlink h o hp hd hda hI hle hlk hk
  · exact do_rmdir h o hp hd hda hI hle hlk hk
  · exact do_rename h o hp hd hda hI hle hlk hk
  · exact do_read h o hp hd hda hI hle hlk hk
  · exact do_write h o hp hd hda hI hle hlk hk
  · exact do_truncate h o hp hd hda hI hle hlk hk
  · exact do_stat h o hp hd hda hI hle hlk hk
  · exact do_list h o hp hd hda hI hle hlk hk
end Go.Proofs.YtaccokghjpcijaaGreatDoor
