import Derived.Test.YtaccokghjpcijaaGreatDoorShelf
import Derived.Test.YtaccokghjpcijaaGreatDoorME
import Derived.StringKeys
import Derived.Deep.RegionWith
import Derived.BigRegion
import Derived.Shelf.Strconv.Itoa3
import Derived.Lib.AppendIntMem
namespace Go.Proofs
open Go.RowKit Go.Maps Go.Sort Go.Shelf


theorem Tryz.sorts60 (m : Nat) : AnyZ.SortsIn Tryz.prog Tryz.sorted60_ren Fence.wide m :=
  ⟨fun blk off cap ss W hH hblk hsz => callsIn_wide.2 (AnyM.slices_Sort_string Tryz.sort81 blk off cap ss W hH hblk hsz),
   fun p cap W => callsIn_wide.2 (AnyM.slices_Sort_string_none Tryz.sort81 p cap W)⟩

theorem Tryz.maps_Keys_61 (mb : Option Nat) (W : World) : CallsIn Fence.wide 5 Tryz.prog 61 #[.map mb] W fun e w' => e = .returned (.func (.func 82) #[] #[.pointer (some ⟨W.heap.size, 0, none⟩)]) ∧ w' = W.alloc (.cells #[.map mb] 55) :=
  AnyZ.keys_in Tryz.keys61 Fence.wide 5 trivial rfl mb W

set_option maxHeartbeats 1000000 in
theorem Tryz.slices_Sorted_keys_60_61 {H : Type} (b nn : Nat) (D0 : DataW H) (R : Value → Option (DataW H × List MemPlace)) (w : World) (hown : w.ownsMap Tryz.prog 9 R b nn D0) (hmax : Maps.size D0 ≤ maxLen) (hbytes : Maps.size D0 * 16 ≤ 140737488355328) :
    CallsIn Fence.wide 5 Tryz.prog 60 #[.func (.func 82) #[] #[.pointer (some ⟨w.heap.size, 0, none⟩)]] (w.alloc (.cells #[.map (some b)] 55)) fun e w' => ∃ (v : Value) (ss : List (List UInt8)), e = .returned v ∧ ss.Perm (strKeys D0) ∧
      w'.ownsRow (w.alloc (.cells #[.map (some b)] 55)).heap.size 9 1 v ss.length ((ss.mergeSort (fun x y => decide (x ≤ y))).map encStr) ∧ (v = .slice none 0 0 ↔ ss = []) ∧ Below (w.alloc (.cells #[.map (some b)] 55)).heap.size (w.alloc (.cells #[.map (some b)] 55)) w' := by
  have hbl := hown.lt
  have hseq : SeqGives Fence.wide 2 Tryz.prog 82 #[.pointer (some ⟨w.heap.size, 0, none⟩)] encStr (fun ss => ss.Perm (strKeys D0)) (Maps.size D0) (w.alloc (.cells #[.map (some b)] 55)) :=
    AnyZ.keys_gives (ρ := Tryz.keys61_ren) { Tryz.keys61 with } Fence.wide _ trivial rfl (by omega) w.heap.size b nn D0 _ (by simp) (by simp) (by
      obtain ⟨es, clock, hb, Ft, hs, hD⟩ := hown
      exact ⟨es, clock, (Below.heap_alloc _ _ b hbl).trans hb, Ft, hs, hD⟩)
  exact AnyZ.sorted_in Tryz.sorted60 Fence.wide 5 trivial trivial trivial trivial rfl (by omega) (Tryz.sorts60 _) (enters_of Tryz.func81 (by kernel_rfl) rfl) 82 #[.pointer (some ⟨w.heap.size, 0, none⟩)] trivial (enters_of Tryz.func82 (by kernel_rfl) rfl) _ _ hmax hbytes _ hseq

set_option maxHeartbeats 1000000 in
theorem Tryz.slices_Sorted_keys_nil_60_61 (w : World) :
    CallsIn Fence.wide 5 Tryz.prog 60 #[.func (.func 82) #[] #[.pointer (some ⟨w.heap.size, 0, none⟩)]] (w.alloc (.cells #[.map none] 55)) fun e w' => ∃ (v : Value) (ss : List (List UInt8)), e = .returned v ∧ ss = [] ∧
      w'.ownsRow (w.alloc (.cells #[.map none] 55)).heap.size 9 1 v ss.length ((ss.mergeSort (fun x y => decide (x ≤ y))).map encStr) ∧ (v = .slice none 0 0 ↔ ss = []) ∧ Below (w.alloc (.cells #[.map none] 55)).heap.size (w.alloc (.cells #[.map none] 55)) w' := by
  have hseq : SeqGives Fence.wide 2 Tryz.prog 82 #[.pointer (some ⟨w.heap.size, 0, none⟩)] encStr (fun ss : List (List UInt8) => ss = []) 0 (w.alloc (.cells #[.map none] 55)) :=
    AnyZ.keys_gives_nil (ρ := Tryz.keys61_ren) { Tryz.keys61 with } Fence.wide _ trivial rfl w.heap.size _ (by simp) (by simp)
  exact AnyZ.sorted_in Tryz.sorted60 Fence.wide 5 trivial trivial trivial trivial rfl (by omega) (Tryz.sorts60 _) (enters_of Tryz.func81 (by kernel_rfl) rfl) 82 #[.pointer (some ⟨w.heap.size, 0, none⟩)] trivial (enters_of Tryz.func82 (by kernel_rfl) rfl) _ 0 (Nat.zero_le _) (by omega) _ hseq



end Go.Proofs
set_option linter.unusedVariables false
set_option linter.unusedSimpArgs false
namespace Go.Proofs.YtaccokghjpcijaaGreatDoor
open Go Go.RowKit Pp Go.Proofs.YtaccokghjpcijaaGreatDoorW.PrintWords Go.WideShapes Go.Maps

/-! ### the names of a directory, sorted -/
def oneR : Value → Option (DataW Unit × List MemPlace) := fun _ => some (.lit (.bool true), [])
def keyBytes (v : Value) : Str := match v with | .string s => s.data.toList | _ => []
theorem strOf_string (s : Str) : strOf (.string s) = s := rfl
theorem owns_ents {W : World} {loc : Nat → Nat} {b : Nat} {l : List (Str × Nat)} (h : MapAt W b (l.map (entV loc))) (hn : ∀ p ∈ l, p.1.length ≤ 255) (hl : l.length ≤ 1099511627776) :
    ∃ D0 : DataW Unit, W.ownsMap Tryz.prog 9 oneR b l.length D0 ∧ (strKeys D0).Perm (l.map (·.1)) ∧ Maps.size D0 = l.length := by
  obtain ⟨es, clock, hb, hs, hmap⟩ := h
  have hlen : es.size = l.length := by
    have := congrArg List.length hmap
    simpa using this
  have hkey : ∀ x ∈ es.toList, ∃ s : ByteArray, x.key = .string s ∧ keyOf Tryz.prog 9 x.key = some (.string s.data.toList) := by
    intro x hx
    have : (x.key, x.val) ∈ l.map (entV loc) := by rw [← hmap]; exact List.mem_map.2 ⟨x, hx, rfl⟩
    obtain ⟨q, hq, e⟩ := List.mem_map.1 this
    have e1 : x.key = .string (mk q.1) := by
      have := congrArg Prod.fst e
      exact this.symm
    refine ⟨mk q.1, e1, ?_⟩
    rw [e1]
    refine WideMaps.keyOf_string_mk Tryz.underlying9 ?_
    have := hn q hq
    have h2 := mk_size q.1
    unfold maxLen
    omega
  have hrg : ∀ x ∈ es.toList, WideElems.rd Tryz.prog 9 oneR x = some (.string (keyBytes x.key), .lit (.bool true)) := by
    intro x hx
    obtain ⟨s, e1, e2⟩ := hkey x hx
    unfold WideElems.rd
    rw [e2, e1]
    rfl
  refine ⟨_, ⟨es, clock, hb, ⟨by rw [hlen]; unfold maxLen; omega, hs, fun x hx => ⟨_, hrg x hx⟩⟩, by omega, rfl⟩, ?_, ?_⟩
  · show (((es.toList.map (WideElems.rg Tryz.prog 9 oneR)).foldr DataW.insert []).map fun p => strOf p.1).Perm _
    refine ((sorted_perm _).map _).trans (.of_eq ?_)
    rw [List.map_map]
    have e1 : es.toList.map ((fun p : Lit × DataW Unit => strOf p.1) ∘ WideElems.rg Tryz.prog 9 oneR) = (es.toList.map fun e => (e.key, e.val)).map fun p => keyBytes p.1 := by
      rw [List.map_map]
      refine List.map_congr_left (fun x hx => ?_)
      rw [Function.comp_apply, WideElems.rg_of (hrg x hx)]
      exact strOf_string _
    rw [e1, hmap, List.map_map]
    refine List.map_congr_left (fun q _ => ?_)
    show (mk q.1).data.toList = q.1
    exact mk_toList q.1
  · show Maps.size (DataW.map _) = _
    simp [Maps.size, length_sorted]
    exact hlen
theorem keys_calls (mb : Option Nat) (W : World) : Calls Tryz.prog 61 #[.map mb] W fun e w' => e = .returned (.func (.func 82) #[] #[.pointer (some ⟨W.heap.size, 0, none⟩)]) ∧ w' = W.alloc (.cells #[.map mb] 55) :=
  callsIn_wide.1 (Tryz.maps_Keys_61 mb W)
theorem sorted_calls {W : World} {loc : Nat → Nat} {b : Nat} {l : List (Str × Nat)} (h : MapAt W b (l.map (entV loc))) (hn : ∀ p ∈ l, p.1.length ≤ 255) (hl : l.length ≤ 1099511627776) :
    Calls Tryz.prog 60 #[.func (.func 82) #[] #[.pointer (some ⟨W.heap.size, 0, none⟩)]] (W.alloc (.cells #[.map (some b)] 55)) fun e w' =>
      ∃ v, e = .returned v ∧ Strs w' v (sortS (l.map (·.1))) ∧ (∀ bk o n c, v = .slice (some ⟨bk, o, none⟩) n c → W.heap.size + 1 ≤ bk) ∧ Below (W.alloc (.cells #[.map (some b)] 55)).heap.size (W.alloc (.cells #[.map (some b)] 55)) w' := by
  obtain ⟨D0, hown, hperm, hsize⟩ := owns_ents h hn hl
  refine (callsIn_wide.1 (Tryz.slices_Sorted_keys_60_61 b l.length D0 oneR W hown (by rw [hsize]; unfold maxLen; omega) (by rw [hsize]; omega))).mono ?_
  rintro e w' ⟨v, ss, rfl, hss, hrow, hnil, hB⟩
  have e1 : ss.mergeSort (fun x y => decide (x ≤ y)) = sortS (l.map (·.1)) := mergeSort_of_perm (hss.trans hperm)
  have hl2 : (sortS (l.map (·.1))).length = ss.length := by rw [← e1, List.length_mergeSort]
  have hlen : ss.length = l.length := by rw [(hss.trans hperm).length_eq, List.length_map]
  have e2 : (ss.mergeSort (fun x y => decide (x ≤ y))).map encStr = svals (sortS (l.map (·.1))) := by rw [e1]; rfl
  rw [e2, ← hl2] at hrow
  refine ⟨v, rfl, Strs.of_row hrow (by omega), fun bk o n c hv => ?_, hB⟩
  rcases hrow.2 with ⟨rfl, _⟩ | ⟨g, cap, cur, rfl, hb, _⟩
  · cases hv
  · rw [World.size_alloc] at hb
    cases hv
    exact hb
end Go.Proofs.YtaccokghjpcijaaGreatDoor
set_option linter.unusedVariables false
set_option linter.unusedSimpArgs false
namespace Go.Proofs.YtaccokghjpcijaaGreatDoor
open Go Go.RowKit Pp Go.Proofs.YtaccokghjpcijaaGreatDoorW.PrintWords

theorem Tryz.laysM171 : Go.Proofs.LaysM.n171 Tryz.prog Tryz.lays171_ren := { Tryz.lays171 with
  i0 := by kernel_rfl
  i2 := by kernel_rfl
  i3 := by kernel_rfl
  i4 := by kernel_rfl
  i5 := by kernel_rfl
  i9 := by kernel_rfl
  i20 := by kernel_rfl
  i37 := by kernel_rfl
  i46 := by kernel_rfl
  i51 := by kernel_rfl
  i53 := by kernel_rfl
  i171 := by kernel_rfl
  i173 := by kernel_rfl
  i212 := by kernel_rfl
  i232 := by kernel_rfl
  i233 := by kernel_rfl
  m17 := by kernel_rfl
  m18 := by kernel_rfl
  m19 := by kernel_rfl }
/-- The table that Itoa reads, at a world. -/
abbrev TabW (W : World) : Prop := Lib.TabIs Tryz.prog W "internal/strconv.uint64pow10" .u64 Lib.pow10Tab
theorem itoa_any (k : Int) (h0 : 0 ≤ k) (h1 : k ≤ 9223372036854775807) (w : World) (ht : TabW w) : Calls Tryz.prog 59 #[.int .i64 k] w fun e w' => e = .returned (.string (mk (Lib.decDigits k.toNat))) ∧ Below w.heap.size w w' := by
  refine (Any.strconv_Itoa Tryz.laysM171 k (by omega) h1 w ht).mono ?_
  rintro e w' ⟨rfl, n, os, rfl⟩
  obtain ⟨i, rfl⟩ : ∃ i : Nat, k = i := ⟨k.toNat, by omega⟩
  refine ⟨by rw [Lib.itoa_nonneg]; rfl, ?_⟩
  exact Lib.below_grow _ _ (Nat.le_refl _) _ _
theorem TabW.below {W W' : World} (h : TabW W) (hb : Below W.heap.size W W') : TabW W' := Lib.tabBelow_of_tabIs h W' hb
theorem itoa_calls (k : Int) (h0 : 0 ≤ k) (h1 : k < 100) (w : World) : Calls Tryz.prog 59 #[.int .i64 k] w fun e w' => e = .returned (.string (mk (Lib.decDigits k.toNat))) ∧ w' = w := by
  obtain ⟨i, rfl⟩ : ∃ i : Nat, k = i := ⟨k.toNat, by omega⟩
  exact Tryz.strconv_Itoa_small i (by omega) w
/-- Each thing's links can be told at a world. -/
structure LinksOk (W : World) (g : St) : Prop where
  num : ∀ i, 0 ≤ (g.node i).links ∧ (g.node i).links ≤ 9223372036854775807
  way : TabW W ∨ ∀ i, (g.node i).links < 100
theorem LinksOk.few {W : World} {g : St} (h : ∀ i, 0 ≤ (g.node i).links ∧ (g.node i).links < 100) : LinksOk W g := ⟨fun i => ⟨(h i).1, by have := (h i).2; omega⟩, .inr fun i => (h i).2⟩
theorem LinksOk.below {W W' : World} {g : St} (h : LinksOk W g) (hb : Below W.heap.size W W') : LinksOk W' g := ⟨h.num, h.way.imp (fun t => t.below hb) id⟩
theorem itoa_ok {W : World} {g : St} (h : LinksOk W g) (x : Nat) : Calls Tryz.prog 59 #[.int .i64 (g.node x).links] W fun e w' => e = .returned (.string (mk (Lib.decDigits (g.node x).links.toNat))) ∧ Below W.heap.size W w' := by
  rcases h.way with ht | hs
  · exact itoa_any _ (h.num x).1 (h.num x).2 W ht
  · refine (itoa_calls _ (h.num x).1 (hs x) W).mono ?_
    rintro e w' ⟨rfl, rfl⟩
    exact ⟨rfl, Below.refl _ _⟩
end Go.Proofs.YtaccokghjpcijaaGreatDoor
set_option linter.unusedVariables false
set_option linter.unusedSimpArgs false
namespace Go.Proofs.YtaccokghjpcijaaGreatDoor
open Go Go.RowKit Pp Go.Proofs.YtaccokghjpcijaaGreatDoorW.PrintWords

theorem ans_names {F : Nat → Prop} {W : World} {n : Int} {d : ByteArray} {data : Str} {v : Value} {ns : List Str} (hd : d = mk data) (hs : Strs W v ns) (hv : ∀ bk o n c, v = .slice (some ⟨bk, o, none⟩) n c → ¬ F bk) : AnsAt F W (.returned (.agg #[.int .i64 0, .int .i64 n, .string d, v])) ⟨0, n, data, ns⟩ := by
  subst hd
  exact ⟨_, rfl, hs, hv⟩
theorem put4_alloc {W : World} {b : Nat} {x0 x1 x2 x3 : Value} {o : Obj} (h : b < W.heap.size) : ((put4 W b x0 x1 x2 x3).alloc o).drew = put4 (W.alloc o).drew b x0 x1 x2 x3 := by
  unfold put4
  rw [World.setCell_drew, World.setCell_drew, World.setCell_drew, World.setCell_drew, World.setCell_alloc_past _ _ _ _ h, World.setCell_alloc_past _ _ _ _ (by simpa using h), World.setCell_alloc_past _ _ _ _ (by simpa using h), World.setCell_alloc_past _ _ _ _ (by simpa using h)]
theorem put4_alloc0 {W : World} {b : Nat} {x0 x1 x2 x3 : Value} {o : Obj} (h : b < W.heap.size) : (put4 W b x0 x1 x2 x3).alloc o = put4 (W.alloc o) b x0 x1 x2 x3 := by
  unfold put4
  rw [World.setCell_alloc_past _ _ _ _ h, World.setCell_alloc_past _ _ _ _ (by simpa using h), World.setCell_alloc_past _ _ _ _ (by simpa using h), World.setCell_alloc_past _ _ _ _ (by simpa using h)]
theorem cell_same {W W' : World} {b : Nat} (h : W'.heap[b]? = W.heap[b]?) (o : Nat) : W'.cell? ⟨b, o, none⟩ = W.cell? ⟨b, o, none⟩ := by
  unfold World.cell?
  simp only [h]
theorem Strs.kept {W W' : World} {v : Value} {ns : List Str} (h : Strs W v ns) (hk : ∀ bk o n c, v = .slice (some ⟨bk, o, none⟩) n c → W'.heap[bk]? = W.heap[bk]?) : Strs W' v ns := by
  by_cases hne : ns = []
  · subst hne
    obtain ⟨A, c, rfl, _, _⟩ := h
    exact Strs.nil W' c A
  · have hs := h.small
    obtain ⟨bk, o, c, rfl, hc, _, hcell⟩ := h.cells hne
    exact Strs.mk_cells hc hs (fun j x hj => (cell_same (hk _ _ _ _ rfl) _).trans (hcell j x hj))
theorem Strs.one {W : World} {b : Nat} {s : Str} {t : TypeId} {k : Nat} (h : W.heap[b]? = some (.cells #[.string (mk s)] t (0, 0))) : Strs W (.slice (some ⟨b, 0, none⟩) 1 (1 + k)) [s] := by
  refine Strs.mk_cells (ns := [s]) (by simp) (by simp) ?_
  intro j x hj
  match j, hj with
  | 0, hj => cases hj; exact heap_cell h 0 _ rfl
  | j + 1, hj => simp at hj

set_option maxRecDepth 100000 in
set_option maxHeartbeats 2000000 in
theorem stat_calls {W : World} {F : Nat → Prop} {tb : Nat} {g : St} (h : Tree W F tb g) (o : Ask) (hp : o.path.length ≤ 4398046511104) (hl : LinksOk W g) :
    Calls Tryz.prog 35 #[ptr tb, opV o] W (OpPost W F tb g (statS g o)) := by
  obtain ⟨⟨S, loc, mloc, hr⟩, hF⟩ := h
  obtain ⟨B, hB⟩ : ∃ B, W.heap.size = B := ⟨_, rfl⟩
  have HBB := Lib.hid hB
  have hs0 := OpAt.start W F o
  have hb0 : Below W.heap.size W ((W.alloc (.cells #[.int .i64 o.do_, .string (mk o.path), .string (mk o.dst), .int .i64 o.off, .int .i64 o.len, .string (mk o.data)] 35)).alloc (.cells #[.int .i64 0, .int .i64 0, .string ⟨#[]⟩, .slice none 0 0] 32)) := balloc (balloc (Below.refl _ _))
  obtain ⟨W0, hW0⟩ : ∃ W0, (W.alloc (.cells #[.int .i64 o.do_, .string (mk o.path), .string (mk o.dst), .int .i64 o.off, .int .i64 o.len, .string (mk o.data)] 35)).alloc (.cells #[.int .i64 0, .int .i64 0, .string ⟨#[]⟩, .slice none 0 0] 32) = W0 := ⟨_, rfl⟩
  rw [hW0] at hs0 hb0
  have HO := Lib.hid hs0
  have HR := Lib.hid (hr.below hb0)
  have HW := Lib.hid hW0
  have HB0 := Lib.hid hb0
  have hep : (mk o.path).toList = o.path := mk_list _
  clear hs0 hb0 hr hW0
  unfold opV ptr
  go_enter Tryz.func35, Tryz.ntmps35
  go_wp2_with fail
  rw [HW.out]
  have HC := Lib.hid (leads_calls HR.out o.path hp)
  unfold ptr at HC
  have HL := Lib.hid hl
  clear hl
  cases hk : leads g o.path with
  | error c =>
    rw [hk] at HC
    have hc0 : ¬ c = 0 := by have := leads_err hk; omega
    refine HC.out.mono ?_
    rintro e w1 ⟨rfl, hBw⟩
    replace HO := Lib.hid (HO.out.below hBw)
    replace HR := Lib.hid (HR.out.below hBw)
    clear hBw
    unfold resP resE
    obtain ⟨q1, q2, q3, q4, q5⟩ := HO.out.cells
    rw [hB] at q1 q2 q3 q4 q5
    obtain ⟨c0, c1, c2, c3, f0, f1, f2, f3⟩ := HO.out.acells
    rw [hB] at c0 c1 c2 c3 f0 f1 f2 f3
    go_wp2_with fail
    clear q1 q2 q3 q4 q5 c0 c1 c2 c3 f0 f1 f2 f3
    refine (told_calls _ _).mono ?_
    rintro e w2 ⟨rfl, hBw⟩
    replace HO := Lib.hid (HO.out.below hBw)
    replace HR := Lib.hid (HR.out.below hBw)
    clear hBw
    obtain ⟨q1, q2, q3, q4, q5⟩ := HO.out.cells
    rw [hB] at q1 q2 q3 q4 q5
    obtain ⟨c0, c1, c2, c3, f0, f1, f2, f3⟩ := HO.out.acells
    rw [hB] at c0 c1 c2 c3 f0 f1 f2 f3
    go_wp2_with fail
    skip
    refine bodyPost_ret (results_cell_row rfl _ _ (B + 1) 32 #[.int .i64 c, .int .i64 0, .string ⟨#[]⟩, .slice none 0 0] (0, 0) _ rfl (put4_at (hB ▸ HO.out.ans)) Tryz.underlying32 rfl (by kernel_rfl)) rfl ?_
    rw [show statS g o = (g, told c) by unfold statS; rw [hk]]
    have hd := OpAt.done (g := g) (x0 := .int .i64 c) (x1 := .int .i64 0) (x2 := .string ⟨#[]⟩) (x3 := .slice none 0 0) HO.out hF HR.out (AnsAt.told _ _ c)
    rw [hB] at hd
    exact hd
  | ok x =>
    rw [hk] at HC
    refine HC.out.mono ?_
    rintro e w3 ⟨rfl, hBw⟩
    have HB3 := Lib.hid (bstep HB0.out hBw)
    replace HO := Lib.hid (HO.out.below hBw)
    replace HR := Lib.hid (HR.out.below hBw)
    clear hBw
    unfold resP resE
    have hx := leads_in HR.out hk
    have HN := Lib.hid (HR.out.node x hx)
    have hxh := HN.out.heap
    cases hdx : isDir g x with
    | true =>
      have he := dir_entsOf hdx
      rw [show entsV mloc x (g.node x) = .map (some (mloc x)) by unfold entsV; rw [he]] at hxh
      have hxc : w3.cell? ⟨loc x, 0, none⟩ = some (Value.map (some (mloc x))) := heap_cell hxh 0 _ rfl
      have hln := map_len (ty := 3) Tryz.underlying55 (HN.out.map he)
      rw [List.length_map] at hln
      have HQ := Lib.hid (show statS g o = (g, ⟨0, (entsOf g x).length, dirT, []⟩) by unfold statS; rw [hk]; simp [hdx])
      have HD := Lib.hid (dir_calls w3 (loc x) _ hxc)
      clear hxh hk hx he hdx
      obtain ⟨q1, q2, q3, q4, q5⟩ := HO.out.cells
      rw [hB] at q1 q2 q3 q4 q5
      obtain ⟨c0, c1, c2, c3, f0, f1, f2, f3⟩ := HO.out.acells
      rw [hB] at c0 c1 c2 c3 f0 f1 f2 f3
      unfold ptr at HD ⊢
      go_wp2_with fail
      refine HD.out.mono ?_
      rintro e w8 ⟨rfl, rfl⟩
      go_wp2_with fail
      skip
      refine bodyPost_ret (results_cell_row rfl _ _ (B + 1) 32 #[.int .i64 0, .int .i64 ((entsOf g x).length : Int), .string ⟨#[100, 105, 114]⟩, .slice none 0 0] (0, 0) _ rfl (put4_at (hB ▸ HO.out.ans)) Tryz.underlying32 rfl (by kernel_rfl)) rfl ?_
      rw [HQ.out]
      have hd := OpAt.done (g := g) (x0 := .int .i64 0) (x1 := .int .i64 ((entsOf g x).length : Int)) (x2 := .string ⟨#[100, 105, 114]⟩) (x3 := .slice none 0 0) HO.out hF HR.out (ans_data (d := ⟨#[100, 105, 114]⟩) (data := dirT) (n := ((entsOf g x).length : Int)) (m := ((entsOf g x).length : Int)) rfl rfl)
      rw [hB] at hd
      exact hd
    | false =>
      have he : (g.node x).ents = none := by unfold isDir at hdx; cases h : (g.node x).ents with | none => rfl | some l => rw [h] at hdx; cases hdx
      rw [show entsV mloc x (g.node x) = .map none by unfold entsV; rw [he]] at hxh
      have hxc : w3.cell? ⟨loc x, 0, none⟩ = some (Value.map none) := heap_cell hxh 0 _ rfl
      have hxc1 : w3.cell? ⟨loc x, 1, none⟩ = some (Value.string (mk (g.node x).bytes)) := heap_cell hxh 1 _ rfl
      have hxc2 : w3.cell? ⟨loc x, 2, none⟩ = some (Value.int .i64 (g.node x).links) := heap_cell hxh 2 _ rfl
      obtain ⟨s, hs⟩ : ∃ s, (g.node x).bytes = s := ⟨_, rfl⟩
      obtain ⟨k, hkk⟩ : ∃ k, (g.node x).links = k := ⟨_, rfl⟩
      rw [hs] at hxc1
      rw [hkk] at hxc2
      have hss : (mk s).size = s.length := mk_size s
      have HQ := Lib.hid (show statS g o = (g, ⟨0, s.length, fileT, [Lib.decDigits k.toNat]⟩) by unfold statS; rw [hk]; simp [hdx, hs, hkk])
      have HD := Lib.hid (dir_calls w3 (loc x) _ hxc)
      have HI : Hid (∀ w, Below W.heap.size W w → Calls Tryz.prog 59 #[.int .i64 k] w fun e w' => e = .returned (.string (mk (Lib.decDigits k.toNat))) ∧ Below w.heap.size w w') := Lib.hid (fun w hw => by rw [← hkk]; exact itoa_ok (HL.out.below hw) x)
      have HXH := Lib.hid hxh
      have HSS := Lib.hid hs
      have HSZ := Lib.hid HO.out.size
      have zs : B + 1 < w3.heap.size := by have := HSZ.out; omega
      have zl : loc x < w3.heap.size := HN.out.loc_lt
      clear hxh hk hx he hdx hs hkk
      obtain ⟨q1, q2, q3, q4, q5⟩ := HO.out.cells
      rw [hB] at q1 q2 q3 q4 q5
      obtain ⟨c0, c1, c2, c3, f0, f1, f2, f3⟩ := HO.out.acells
      rw [hB] at c0 c1 c2 c3 f0 f1 f2 f3
      unfold ptr at HD ⊢
      go_wp2_with fail
      refine HD.out.mono ?_
      rintro e w8 ⟨rfl, rfl⟩
      go_wp2_with fail
      go_region_with (first | (go_at_call 59; go_loud (refine (HI.out _ (by first | exact HB3.out | exact HB3.out.drew)).mono ?_; rintro e w9 ⟨rfl, hB⟩; have hB9 : Below w8.heap.size w8 w9 := ⟨hB.os, hB.tape, hB.output, hB.size, hB.block⟩; obtain ⟨c09, c19, c29, c39, f09, f19, f29, f39⟩ := (HO.out.below hB9).acells; rw [HBB.out] at c09 c19 c29 c39 f09 f19 f29 f39; have hx19 := heap_cell ((hB9.block (loc x) zl).trans HXH.out) 1 _ rfl; rw [HSS.out] at hx19; have zb9 : B + 1 < w9.heap.size := Nat.lt_of_lt_of_le zs hB9.size; have zl9 : loc x < w9.heap.size := Nat.lt_of_lt_of_le zl hB9.size)))
      all_goals
        have HB9 := Lib.hid hB9
        clear c09 c19 c29 c39 f09 f19 f29 f39 hx19 hB hB9
        go_wp2_with fail
        change bodyPost _ _ _ _ _ (World.alloc (put4 w9 (B + 1) (.int .i64 0) (.int .i64 (s.length : Int)) (.string ⟨#[102, 105, 108, 101]⟩) (.slice (some ⟨w9.heap.size, 0, none⟩) 1 1)) (.cells #[.string (mk (Lib.decDigits k.toNat))] 9))
        rw [put4_alloc0 zb9]
        have hst := Strs.one (k := 0) (show (w9.alloc (.cells #[.string (mk (Lib.decDigits k.toNat))] 9)).heap[w9.heap.size]? = _ from heap_alloc_new w9 _)
        replace HO := Lib.hid (HO.out.below (bstep HB9.out (balloc (o := .cells #[.string (mk (Lib.decDigits k.toNat))] 9) (Below.refl _ _))))
        replace HR := Lib.hid (HR.out.below (bstep HB9.out (balloc (o := .cells #[.string (mk (Lib.decDigits k.toNat))] 9) (Below.refl _ _))))
        refine bodyPost_ret (results_cell_row rfl _ _ (B + 1) 32 #[_, _, _, _] (0, 0) _ rfl (put4_at (hB ▸ HO.out.ans)) Tryz.underlying32 rfl (by kernel_rfl)) rfl ?_
        rw [HQ.out, ← hB]
        refine OpAt.done HO.out hF HR.out ?_
        refine ans_names (d := ⟨#[102, 105, 108, 101]⟩) (data := fileT) rfl (hst.kept (fun bk o n c h => put4_other (by cases h; omega))) (fun bk o n c h hf => ?_)
        cases h
        have h2 := HSZ.out
        have h9 := HB9.out.size
        rcases hf with hf | hf
        · have := hF _ hf; omega
        · omega

set_option maxRecDepth 100000 in
set_option maxHeartbeats 2000000 in
theorem list_calls {W : World} {F : Nat → Prop} {tb : Nat} {g : St} (h : Tree W F tb g) (o : Ask) (hp : o.path.length ≤ 4398046511104) (hI : Inv g) (hl : ∀ i, (entsOf g i).length ≤ 1099511627776) :
    Calls Tryz.prog 36 #[ptr tb, opV o] W (OpPost W F tb g (listS g o)) := by
  obtain ⟨⟨S, loc, mloc, hr⟩, hF⟩ := h
  obtain ⟨B, hB⟩ : ∃ B, W.heap.size = B := ⟨_, rfl⟩
  have hs0 := OpAt.start W F o
  have hb0 : Below W.heap.size W ((W.alloc (.cells #[.int .i64 o.do_, .string (mk o.path), .string (mk o.dst), .int .i64 o.off, .int .i64 o.len, .string (mk o.data)] 35)).alloc (.cells #[.int .i64 0, .int .i64 0, .string ⟨#[]⟩, .slice none 0 0] 32)) := balloc (balloc (Below.refl _ _))
  obtain ⟨W0, hW0⟩ : ∃ W0, (W.alloc (.cells #[.int .i64 o.do_, .string (mk o.path), .string (mk o.dst), .int .i64 o.off, .int .i64 o.len, .string (mk o.data)] 35)).alloc (.cells #[.int .i64 0, .int .i64 0, .string ⟨#[]⟩, .slice none 0 0] 32) = W0 := ⟨_, rfl⟩
  rw [hW0] at hs0 hb0
  have HO := Lib.hid hs0
  have HR := Lib.hid (hr.below hb0)
  have HW := Lib.hid hW0
  have hep : (mk o.path).toList = o.path := mk_list _
  clear hs0 hb0 hr hW0
  unfold opV ptr
  go_enter Tryz.func36, Tryz.ntmps36
  go_wp2_with fail
  rw [HW.out]
  have HC := Lib.hid (kind_calls HR.out o.path hp true)
  unfold ptr at HC
  have HI := Lib.hid hI
  have HL := Lib.hid hl
  clear hI hl
  cases hk : kind g o.path true with
  | error c =>
    rw [hk] at HC
    have hc0 : ¬ c = 0 := by have := kind_err hk; omega
    refine HC.out.mono ?_
    rintro e w1 ⟨rfl, hBw⟩
    replace HO := Lib.hid (HO.out.below hBw)
    replace HR := Lib.hid (HR.out.below hBw)
    clear hBw
    unfold resP resE
    obtain ⟨q1, q2, q3, q4, q5⟩ := HO.out.cells
    rw [hB] at q1 q2 q3 q4 q5
    obtain ⟨c0, c1, c2, c3, f0, f1, f2, f3⟩ := HO.out.acells
    rw [hB] at c0 c1 c2 c3 f0 f1 f2 f3
    go_wp2_with fail
    clear q1 q2 q3 q4 q5 c0 c1 c2 c3 f0 f1 f2 f3
    refine (told_calls _ _).mono ?_
    rintro e w2 ⟨rfl, hBw⟩
    replace HO := Lib.hid (HO.out.below hBw)
    replace HR := Lib.hid (HR.out.below hBw)
    clear hBw
    obtain ⟨q1, q2, q3, q4, q5⟩ := HO.out.cells
    rw [hB] at q1 q2 q3 q4 q5
    obtain ⟨c0, c1, c2, c3, f0, f1, f2, f3⟩ := HO.out.acells
    rw [hB] at c0 c1 c2 c3 f0 f1 f2 f3
    go_wp2_with fail
    skip
    refine bodyPost_ret (results_cell_row rfl _ _ (B + 1) 32 #[.int .i64 c, .int .i64 0, .string ⟨#[]⟩, .slice none 0 0] (0, 0) _ rfl (put4_at (hB ▸ HO.out.ans)) Tryz.underlying32 rfl (by kernel_rfl)) rfl ?_
    rw [show listS g o = (g, told c) by unfold listS; rw [hk]]
    have hd := OpAt.done (g := g) (x0 := .int .i64 c) (x1 := .int .i64 0) (x2 := .string ⟨#[]⟩) (x3 := .slice none 0 0) HO.out hF HR.out (AnsAt.told _ _ c)
    rw [hB] at hd
    exact hd
  | ok x =>
    rw [hk] at HC
    refine HC.out.mono ?_
    rintro e w3 ⟨rfl, hBw⟩
    replace HO := Lib.hid (HO.out.below hBw)
    replace HR := Lib.hid (HR.out.below hBw)
    clear hBw
    unfold resP resE
    have hx := leads_in HR.out (kind_ok hk).1
    have HN := Lib.hid (HR.out.node x hx)
    have he := dir_entsOf (kind_ok hk).2
    have HE := Lib.hid he
    have hxh := HN.out.heap
    rw [show entsV mloc x (g.node x) = .map (some (mloc x)) by unfold entsV; rw [he]] at hxh
    have hxc : w3.cell? ⟨loc x, 0, none⟩ = some (Value.map (some (mloc x))) := heap_cell hxh 0 _ rfl
    have HQ := Lib.hid (show listS g o = (g, ⟨0, 0, [], sortS ((entsOf g x).map (·.1))⟩) by unfold listS; rw [hk])
    clear hxh hk hx he
    obtain ⟨q1, q2, q3, q4, q5⟩ := HO.out.cells
    rw [hB] at q1 q2 q3 q4 q5
    obtain ⟨c0, c1, c2, c3, f0, f1, f2, f3⟩ := HO.out.acells
    rw [hB] at c0 c1 c2 c3 f0 f1 f2 f3
    unfold ptr
    go_wp2_with fail
    refine (keys_calls _ _).mono ?_
    rintro e w8 ⟨rfl, rfl⟩
    go_wp2_with fail
    refine (sorted_calls (HN.out.map HE.out) (fun p hp => ((okName_iff _).1 (HI.out.ent x p hp).2.2.1).2.2.2.1) (HL.out x)).mono ?_
    rintro e w9 ⟨v, rfl, hS, hvb, hB9⟩
    have hBB : Below w3.heap.size w3 w9 := (balloc (Below.refl _ _)).trans (hB9.mono (by simp))
    obtain ⟨A9, c9, hv9, _, _⟩ := id hS
    subst hv9
    have HS := Lib.hid hS
    have HV := Lib.hid hvb
    have HSZ := Lib.hid HO.out.size
    have HFR := Lib.hid HO.out.fr
    replace HO := Lib.hid (HO.out.below hBB)
    replace HR := Lib.hid (HR.out.below hBB)
    clear hBB hB9 hS hvb
    clear q1 q2 q3 q4 q5 c0 c1 c2 c3 f0 f1 f2 f3
    obtain ⟨q1, q2, q3, q4, q5⟩ := HO.out.cells
    rw [hB] at q1 q2 q3 q4 q5
    obtain ⟨c0, c1, c2, c3, f0, f1, f2, f3⟩ := HO.out.acells
    rw [hB] at c0 c1 c2 c3 f0 f1 f2 f3
    go_wp2_with fail
    skip
    refine bodyPost_ret (results_cell_row rfl _ _ (B + 1) 32 #[_, _, _, _] (0, 0) _ rfl (put4_at (hB ▸ HO.out.ans)) Tryz.underlying32 rfl (by kernel_rfl)) rfl ?_
    rw [HQ.out, ← hB]
    refine OpAt.done HO.out hF HR.out ?_
    refine ans_names (d := ⟨#[]⟩) rfl ?_ ?_
    · exact HS.out.kept (fun bk o n c h => put4_other (by have h1 := HV.out bk o n c h; have h2 := HSZ.out; omega))
    · intro bk o n c h hf
      have h1 := HV.out bk o n c h
      have h2 := HSZ.out
      rcases hf with hf | hf
      · have := hF _ hf; omega
      · omega

end Go.Proofs.YtaccokghjpcijaaGreatDoor
