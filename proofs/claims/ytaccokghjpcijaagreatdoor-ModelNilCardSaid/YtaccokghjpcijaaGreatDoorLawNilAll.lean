/-
  A tree that is none answers nothing: whatever is asked of it. The listed tables stand as the library's text lays them (tied).
-/
import Derived.Test.YtaccokghjpcijaaGreatDoorMH
set_option linter.unusedVariables false
set_option linter.unusedSimpArgs false
namespace Go.Proofs.YtaccokghjpcijaaGreatDoor
open Go Go.RowKit Pp Go.Proofs.YtaccokghjpcijaaGreatDoorW.PrintWords

set_option maxRecDepth 100000 in
set_option maxHeartbeats 2000000 in
theorem copy_nil (W : World) : Calls Tryz.prog 20 #[.pointer none] W fun e W' => e = .returned (.pointer none) ∧ Below W.heap.size W W' := by
  go_enter Tryz.func20, Tryz.ntmps20
  go_wp2_with fail
  go_ret
  exact ⟨rfl, Below.refl _ _⟩
theorem agg_nil (W : World) : Strs W (.slice none ([] : List Str).length 0) [] := Strs.nil W 0 none
set_option maxRecDepth 100000 in
set_option maxHeartbeats 4000000 in
theorem nil_walk (o : Ask) (w : World) : Calls Tryz.prog 8 #[opV o] w fun e w' => e = .returned (.bool true) ∧ Below w.heap.size w w' := by
  unfold opV
  go_enter Tryz.func8, Tryz.ntmps8
  go_wp2_with fail
  refine (count_nil _).mono ?_
  rintro e w1 ⟨rfl, hB⟩
  have hbx := (hB.block w.heap.size (by simp)).trans (heap_alloc_new w (.cells #[.int .i64 o.do_, .string (mk o.path), .string (mk o.dst), .int .i64 o.off, .int .i64 o.len, .string (mk o.data)] 35))
  have q0 := heap_cell hbx 0 _ rfl
  have q1 := heap_cell hbx 1 _ rfl
  have q2 := heap_cell hbx 2 _ rfl
  have q3 := heap_cell hbx 3 _ rfl
  have q4 := heap_cell hbx 4 _ rfl
  have q5 := heap_cell hbx 5 _ rfl
  have HB1 := Lib.hid (bstep (balloc (Below.refl _ _)) hB)
  clear hB hbx
  go_wp2_with fail
  refine (do_nil _ o).mono ?_
  rintro e w2 ⟨rfl, hB⟩
  have HB2 := Lib.hid (bstep HB1.out hB)
  clear hB q0 q1 q2 q3 q4 q5
  go_wp2_with fail
  refine (same17_calls ⟨1, 0, [], []⟩ ⟨1, 0, [], []⟩ none none 0 0 _ (by decide) (Strs.nil _ 0 none) (Strs.nil _ 0 none) true (by simp)).mono ?_
  rintro e w3 ⟨rfl, hB⟩
  have HB3 := Lib.hid (bstep HB2.out hB)
  clear hB
  go_wp2_with fail
  refine (copy_nil _).mono ?_
  rintro e w4 ⟨rfl, hB⟩
  have HB4 := Lib.hid (bstep HB3.out hB)
  clear hB
  go_wp2_with fail
  refine (live_calls _).mono ?_
  rintro e w5 ⟨rfl, hB⟩
  have HB5 := Lib.hid (bstep HB4.out hB)
  clear hB
  go_wp2_with fail
  go_ret
  exact ⟨rfl, HB5.out⟩
end Go.Proofs.YtaccokghjpcijaaGreatDoor
namespace Go.Proofs.YtaccokghjpcijaaGreatDoor
open Go.ChangeShapes Go.WideShapes Go.ChangeAt Go.RowKit Go.ChangeMaps Pp
set_option linter.unusedVariables false

set_option maxRecDepth 100000 in
/-- What the walk gives, for every argument. -/
theorem modelNil_contract (H : Type) (enc : TypeId × Value → H) (W : World) (base : Nat) (args : Array Value) (ds gs : List (DataW H)) (before : List MemPlace)
    (hval0 : ∀ (j : Nat) t v, Tryz.f8.params[j]? = some t → args[j]? = some v → Value.okWide Tryz.prog W .any base t v)
    (hW : DataW.Whole enc Tryz.prog Tryz.f8.params.toList Rows.modelNilSpec.vars false W args.toList ds gs before) :
    Calls Tryz.prog 8 args W fun e W' => ∃ v, e = .returned v ∧ Rows.modelNilSpec.post enc Tryz.prog Tryz.f8 false true false false W args v W' := by
  have hval : ∀ (j : Nat) t v, Tryz.f8.params[j]? = some t → args[j]? = some v → Value.okWide Tryz.prog W .any base t v := hval0
  have hW' := hW
  obtain ⟨p, q, hA0, hV, rfl, hfz, hnd⟩ := hW
  have hA : DataW.TrodAll enc Tryz.prog W 0 (fun _ => true) true Tryz.f8.params.toList args.toList ds p := hA0
  rw [Tryz.params8] at hA hval
  obtain ⟨v0, vs0, d0, ds0, p0, q0, hargs, rfl, rfl, h0, r0⟩ := trodAll_cons hA
  obtain ⟨rfl, rfl, rfl⟩ := trodAll_nil r0
  obtain rfl : args = #[v0] := by cases args; simp_all
  obtain ⟨rfl, rfl⟩ := trodVars_none hV
  have k0 := h0
  have lt0 : ∀ x ∈ p0, x.block < W.heap.size := by obtain ⟨m, hm⟩ := k0; exact DataW.trod_lt m _ _ _ hm
  obtain ⟨o0, rfl⟩ := open_op (hval 0 35 v0 rfl rfl) h0
  clear hA0 hval0
  refine (nil_walk o0 W).mono fun e W' ⟨he, bel⟩ => ?_
  subst he
  exact ⟨_, rfl, _, _, _, [], _, [], hW', trodAll_mk1 (shut_bool Tryz.underlying4 _), (trodAll_cons_mk (Below.trod laidOut (by kernel_rfl) (of_decide_eq_true (by kernel_rfl)) k0 bel lt0) trodAll_mk0), rfl, bel.frame _, fun h => by cases h⟩

theorem modelNil_reads (os : Os) {H : Type} (enc : TypeId × Value → H) : ∃ places, DataW.whole enc Tryz.prog ((World.laidAll Tryz.prog os Rows.modelNilRow.laid).forCall (fun _ _ => 0) ⟨#[], #[.agg #[.int .i64 0, .string ⟨#[]⟩, .string ⟨#[]⟩, .int .i64 0, .int .i64 0, .string ⟨#[]⟩]], []⟩).memory Tryz.f8.params.toList Rows.modelNilSpec.vars false (#[.agg #[.int .i64 0, .string ⟨#[]⟩, .string ⟨#[]⟩, .int .i64 0, .int .i64 0, .string ⟨#[]⟩]] : Array Value).toList 8 = some ([.agg [.lit (.int .i64 0), .lit (.string []), .lit (.string []), .lit (.int .i64 0), .lit (.int .i64 0), .lit (.string [])]], [], places) :=
  ⟨[], by kernel_rfl⟩
theorem modelNil_met (os : Os) : laidMetH Tryz.prog Rows.modelNilRow.laid ((World.laidAll Tryz.prog os Rows.modelNilRow.laid).forCall (fun _ _ => 0) ⟨#[], #[.agg #[.int .i64 0, .string ⟨#[]⟩, .string ⟨#[]⟩, .int .i64 0, .int .i64 0, .string ⟨#[]⟩]], []⟩).memory := by
  rw [MakeChecks.laidMetH_plain _ _ _ (by kernel_rfl)]
  exact laidMet_laidAll _ (by kernel_rfl) (by kernel_rfl)

set_option maxRecDepth 100000 in
theorem modelNil_lifted (os : Os) (started : os.Started) (H : Type) (enc : TypeId × Value → H) (F : Stop.Interp) :
    ReturnsInHanded {} Tryz.checked os 8 .any ((OpenSpec.ofChange Rows.modelNilSpec).preRow enc Tryz.prog Tryz.f8 Rows.modelNilRow.domain false Rows.modelNilRow.laid) (((OpenSpec.ofChange Rows.modelNilSpec).at F).post enc Tryz.prog Tryz.f8 false true false false) := by
  obtain ⟨places, hx⟩ := modelNil_reads os enc
  refine returnsInHanded_of_row (C := Tryz.checked) (s := OpenSpec.ofChange Rows.modelNilSpec) own started (by kernel_rfl) Tryz.func8
    (witness_row_at (enc := enc) (C := Tryz.checked) false (World.laidAll Tryz.prog os Rows.modelNilRow.laid) #[.agg #[.int .i64 0, .string ⟨#[]⟩, .string ⟨#[]⟩, .int .i64 0, .int .i64 0, .string ⟨#[]⟩]] (World.laidAll_os _ _ _) (by kernel_rfl) (by kernel_rfl) (by kernel_rfl)
      (OpenSpec.preRow_of_cond 8 hx (by kernel_rfl) (fun k hk => by cases hk) (by kernel_rfl) (modelNil_met os))) ?_
  intro W base args ds gs before hval hW _ hcond _ hL _ _
  exact modelNil_contract H enc W base args ds gs before hval hW

theorem modelNil_said : Rows.ModelNilSaid :=
  OpenClaim.holds_of_cond 8 Tryz.f8 rfl rfl rfl rfl rfl rfl rfl ⟨rfl, rfl, rfl, rfl, rfl⟩ rfl rfl rfl rfl rfl (by kernel_rfl) Tryz.func8 (by kernel_rfl)
    (of_decide_eq_true (by kernel_rfl)) (by unfold Func.isWrapper; first | (rw [if_pos (by decide +kernel)]; kernel_rfl) | (rw [if_neg (by decide +kernel)]; exact ⟨rfl, rfl⟩))
    (fun os started H enc _ F => by rw [OpenClaim.pre_eq_preRow]; exact modelNil_lifted os started H enc F)

theorem modelNil_plain (f : FuncId) (fn : Func) (hf : Tryz.pinned.checked.prog.funcNamed "permafrost/permafrostlaw17.ModelNil" = some f) (hfn : Tryz.pinned.checked.prog.funcs[f]? = some fn) :
    false = Tryz.pinned.checked.prog.looks [] ∧ ∀ (j : Nat) t, fn.params[j]? = some t → Tryz.pinned.checked.prog.wantsStandIn t = false := by
  obtain rfl : f = 8 := Option.some.inj ((show Tryz.prog.funcNamed "permafrost/permafrostlaw17.ModelNil" = some 8 by kernel_rfl).symm.trans hf) |>.symm
  obtain rfl : fn = Tryz.f8 := (Option.some.inj (Tryz.func8.symm.trans hfn)).symm
  refine ⟨by kernel_rfl, fun j t ht => ?_⟩
  rw [Tryz.params8] at ht
  have hm : t ∈ [35] := by simpa using Array.mem_of_getElem? ht
  have hall : ([35].all fun u => !Tryz.prog.wantsStandIn u) = true := by kernel_rfl
  exact (show Tryz.prog.wantsStandIn t = false by simpa using List.all_eq_true.1 hall t hm)

theorem modelNil_card : Rows.ModelNilCardSaid :=
  Claim7.holds_tied_plain_at .later [] _ _ _ _ modelNil_said (fun _ h => by cases h) (by kernel_rfl) (fun _ h => by cases h) modelNil_row_tie rfl ⟨rfl, rfl⟩ (by kernel_rfl) rfl modelNil_plain (by kernel_rfl)
#print axioms modelNil_card
end Go.Proofs.YtaccokghjpcijaaGreatDoor
