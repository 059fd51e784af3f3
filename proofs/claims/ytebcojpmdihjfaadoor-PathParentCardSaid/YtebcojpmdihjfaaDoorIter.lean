import Derived.Test.YtebcojpmdihjfaaDoorPure
import Derived.Test.YtebcojpmdihjfaaDoorBox
import Derived.Test.YtebcojpmdihjfaaDoorShelf
import Derived.Lib.Hide
set_option linter.unusedVariables false
set_option linter.unusedSimpArgs false
namespace Go.Proofs.YtebcojpmdihjfaaDoor
open Go Go.RowKit Go.Shelf Pp
attribute [local go_sem] Oper.semAt_some

/-- The bytes of a text. -/
def mk (l : Str) : ByteArray := ⟨l.toArray⟩
theorem mk_toList (l : Str) : (mk l).data.toList = l := by simp [mk]
theorem mk_size (l : Str) : (mk l).size = l.length := by simp [mk, ByteArray.size]
theorem mk_data (s : ByteArray) : mk s.data.toList = s := by cases s; simp [mk]
theorem mk_inj {a b : Str} (h : mk a = mk b) : a = b := by rw [← mk_toList a, h, mk_toList]
theorem mk_extract (l : Str) (i j : Nat) : (mk l).extract i j = mk ((l.drop i).take (j - i)) := by
  have h : ((mk l).extract i j).data.toList = (l.drop i).take (j - i) := by
    rw [Lib.extract_data]
    simp [mk]
  rw [← mk_data ((mk l).extract i j), h]

theorem idx_none {l : Str} (h : (47 : UInt8) ∉ l) : Lib.indexByte l 47 = -1 := by
  have hg := Lib.indexByte_ge l 47
  by_cases e : Lib.indexByte l 47 = -1
  · exact e
  · exfalso
    have ho : Lib.indexByte l 47 = ((Lib.indexByte l 47).toNat : Nat) := by omega
    have := (Lib.indexByte_some ho).1
    exact h (List.mem_of_getElem? this)
theorem idx_some {x r : Str} (h : (47 : UInt8) ∉ x) : Lib.indexByte (x ++ 47 :: r) 47 = (x.length : Int) := by
  have hg := Lib.indexByte_ge (x ++ 47 :: r) 47
  by_cases e : Lib.indexByte (x ++ 47 :: r) 47 = -1
  · exact absurd (by simp) (Lib.indexByte_none e x.length)
  · have ho : Lib.indexByte (x ++ 47 :: r) 47 = ((Lib.indexByte (x ++ 47 :: r) 47).toNat : Nat) := by omega
    obtain ⟨h1, h2⟩ := Lib.indexByte_some ho
    rcases Nat.lt_trichotomy (Lib.indexByte (x ++ 47 :: r) 47).toNat x.length with hlt | heq | hgt
    · rw [List.getElem?_append_left hlt] at h1
      exact absurd (List.mem_of_getElem? h1) h
    · omega
    · exact absurd (by simp) (h2 x.length hgt)
theorem cut_at {l : Str} (h : (47 : UInt8) ∈ l) : ∃ x r, l = x ++ 47 :: r ∧ (47 : UInt8) ∉ x := by
  induction l with
  | nil => cases h
  | cons c l ih =>
    by_cases hc : c = 47
    · exact ⟨[], l, by rw [hc]; rfl, by simp⟩
    · rcases List.mem_cons.1 h with e | h
      · exact absurd e.symm hc
      · obtain ⟨x, r, rfl, hx⟩ := ih h
        exact ⟨c :: x, r, rfl, fun hm => by
          rcases List.mem_cons.1 hm with e | hm
          · exact hc e.symm
          · exact hx hm⟩

theorem index_none (l : Str) (w : World) (h : (47 : UInt8) ∉ l) : Calls Tryd.prog 34 #[.string (mk l), .string ⟨#[47]⟩] w fun e w' => e = .returned (.int .i64 (-1)) ∧ w' = w := by
  have := Tryd.strings_Index_one (mk l) 47 w
  rw [mk_toList, idx_none h] at this
  exact this
theorem index_some (x r : Str) (w : World) (h : (47 : UInt8) ∉ x) : Calls Tryd.prog 34 #[.string (mk (x ++ 47 :: r)), .string ⟨#[47]⟩] w fun e w' => e = .returned (.int .i64 (x.length : Int)) ∧ w' = w := by
  have := Tryd.strings_Index_one (mk (x ++ 47 :: r)) 47 w
  rw [mk_toList, idx_some h] at this
  exact this

/-- What the iterator keeps: the separator, what is left, 0. -/
def Boxes (b1 b2 b3 : Nat) (rest : Str) (W : World) : Prop :=
  W.heap[b1]? = some (.cells #[.string ⟨#[47]⟩] 9 (0, 0)) ∧ W.heap[b2]? = some (.cells #[.string (mk rest)] 9 (0, 0)) ∧ W.heap[b3]? = some (.cells #[.int .i64 0] 3 (0, 0))
def KpB (b1 b2 b3 : Nat) (X Y : World) : Prop := Y.heap[b1]? = X.heap[b1]? ∧ Y.heap[b2]? = X.heap[b2]? ∧ Y.heap[b3]? = X.heap[b3]?
def StB (b2 : Nat) (X Y : World) : Prop := ∃ v : Value, Y = X.setCell ⟨b2, 0, none⟩ v
theorem Boxes.kept {b1 b2 b3 : Nat} {rest : Str} {X Y : World} (h : Boxes b1 b2 b3 rest X) (k : KpB b1 b2 b3 X Y) : Boxes b1 b2 b3 rest Y := ⟨k.1.trans h.1, k.2.1.trans h.2.1, k.2.2.trans h.2.2⟩
theorem Boxes.cells {b1 b2 b3 : Nat} {rest : Str} {W : World} (h : Boxes b1 b2 b3 rest W) :
    W.cell? ⟨b1, 0, none⟩ = some (.string ⟨#[47]⟩) ∧ W.cell? ⟨b2, 0, none⟩ = some (.string (mk rest)) ∧ W.cell? ⟨b3, 0, none⟩ = some (.int .i64 0) ∧ W.frozen? ⟨b2, 0, none⟩ = false := by
  refine ⟨?_, ?_, ?_, ?_⟩
  · simp [World.cell?, h.1]
  · simp [World.cell?, h.2.1]
  · simp [World.cell?, h.2.2]
  · simp [World.frozen?, h.2.1]
theorem Boxes.put {b1 b2 b3 : Nat} {rest : Str} {W : World} (h : Boxes b1 b2 b3 rest W) (h12 : b1 ≠ b2) (h23 : b3 ≠ b2) (r : Str) : Boxes b1 b2 b3 r (W.setCell ⟨b2, 0, none⟩ (.string (mk r))) := by
  refine ⟨?_, ?_, ?_⟩
  · rw [Below.heap_setCell _ _ _ _ h12]; exact h.1
  · simp only [World.setCell, Array.getElem?_modify, if_pos, h.2.1]
    simp
  · rw [Below.heap_setCell _ _ _ _ h23]; exact h.2.2
/-- How much is left, read off the world. -/
def leftB (b2 : Nat) (W : World) : Nat := match W.cell? ⟨b2, 0, none⟩ with
  | some (.string s) => s.size
  | _ => 0
theorem leftB_eq {b1 b2 b3 : Nat} {rest : Str} {W : World} (h : Boxes b1 b2 b3 rest W) : leftB b2 W = rest.length := by
  unfold leftB; rw [h.cells.2.1]; exact mk_size rest

theorem wide_depth {m : Nat} : Fence.wide.depth.isSome = true → 1 ≤ m := fun h => by cases h
set_option maxRecDepth 100000 in
set_option maxHeartbeats 1000000 in
/-- The closure that strings.SplitSeq hands back, at '/': it yields the parts, one behind the other. -/
theorem split_iter (n : Nat) (b1 b2 b3 : Nat) (h12 : b1 ≠ b2) (h23 : b3 ≠ b2) (l : Str) (hl : l.length ≤ 140737488355328) (w : World) (hw : Boxes b1 b2 b3 l w) :
    SeqStopsB Fence.wide n Tryd.prog 32 #[.pointer (some ⟨b1, 0, none⟩), .pointer (some ⟨b2, 0, none⟩), .pointer (some ⟨b3, 0, none⟩)] (fun x : Str => #[.string (mk x)]) (StB b2) (KpB b1 b2 b3) (fun xs => xs = parts l) (fun pre => pre <+: parts l) (fun pre x => pre ++ [x] <+: parts l) w := by
  intro lp J Jx W hk hJ hJx hY h0
  have hB := hw.kept hk
  refine callsIn_of_wp Tryd.func32 rfl trivial ?_ rfl
  simp only [Tryd.ntmps32, List.size_toArray, List.length_cons, List.length_nil, Nat.reduceAdd, Nat.reduceSub, Array.replicate_succ, Array.replicate_zero, List.push_toArray, List.append_toArray, List.nil_append, List.cons_append]
  obtain ⟨q1, q2, q3, q4⟩ := hB.cells
  gi_wp2_with fail
  clear q1 q2 q3 q4
  gi_loopw [7] (fun v wr => ∃ (pre : List Str) (rest : Str), parts l = pre ++ parts rest ∧ rest.length ≤ l.length ∧ Boxes b1 b2 b3 rest wr ∧ J pre wr) (fun _ wr => leftB b2 wr)
  case atStart => exact ⟨[], l, rfl, Nat.le_refl _, hB, h0⟩
  case round =>
    obtain ⟨pre, rest, hp, hle, hbx, hJs⟩ := hrel
    obtain ⟨q1, q2, q3, q4⟩ := hbx.cells
    by_cases hm : (47 : UInt8) ∈ rest
    · obtain ⟨x, r, rfl, hx⟩ := cut_at hm
      have hpre : pre ++ [x] <+: parts l := by rw [hp, parts_some hx]; exact ⟨parts r, by simp⟩
      have hp' := Lib.hid (show parts l = (pre ++ [x]) ++ parts r by rw [hp, parts_some hx]; simp)
      obtain ⟨fn, tmps, assign, body, hy, hR⟩ := hY pre x wr hJs hpre
      have hlen : x.length + 1 + r.length = (x ++ 47 :: r).length := by simp; omega
      have hsz : (mk (x ++ 47 :: r)).size = x.length + 1 + r.length := by rw [mk_size, hlen]
      have e1 : (mk (x ++ 47 :: r)).extract 0 x.length = mk x := by rw [mk_extract]; simp
      have e2 := Lib.hid (show (mk (x ++ 47 :: r)).extract (x.length + 1) (x.length + 1 + r.length) = mk r by rw [mk_extract]; congr 1; rw [List.drop_append, List.drop_eq_nil_of_le (by omega)]; simp)
      have hb1 : (x.length : Int) ≤ 140737488355328 := by omega
      have HP := Lib.hid hp
      have HB := Lib.hid hbx
      clear hp hbx hm hpre hlen
      gi_wp2_with (refine ⟨trivial, wide_depth, ?_⟩; gi_at_call 34; refine (callsIn_wide.2 (index_some x r _ hx)).mono ?_; rintro e w' ⟨rfl, rfl⟩)
      refine ⟨wide_depth, hR.mono ?_⟩
      clear hR hy
      rintro e W3 (⟨rfl, hJ3, hk3⟩ | ⟨rfl, hJx3⟩)
      · have HB3 := Lib.hid (HB.out.kept hk3)
        clear q1 q2 q3 q4 hk3
        obtain ⟨q1, q2, q3, q4⟩ := HB3.out.cells
        gi_wp2_with fail
        rw [e2.out]
        have hput := HB3.out.put h12 h23 r
        refine ⟨⟨pre ++ [x], r, hp'.out, by simp at hle ⊢; omega, hput, hJ _ _ _ hJ3 ⟨_, rfl⟩⟩, ?_⟩
        rw [leftB_eq hput, leftB_eq HB.out]
        simp
        omega
      · gi_wp2_with fail
        refine bodyPost_ret (results_none rfl _ _ _) rfl ?_
        exact ⟨⟨_, rfl⟩, .inr ⟨_, ⟨parts r, hp'.out.symm⟩, hJx3⟩⟩
    · have hpre : pre ++ [rest] <+: parts l := by rw [hp, parts_none hm]; exact ⟨[], by simp⟩
      have hp' := Lib.hid (show parts l = pre ++ [rest] by rw [hp, parts_none hm])
      obtain ⟨fn, tmps, assign, body, hy, hR⟩ := hY pre rest wr hJs hpre
      have HP := Lib.hid hp
      have HB := Lib.hid hbx
      have HX := Lib.hid hpre
      clear hp hbx hpre
      gi_wp2_with (refine ⟨trivial, wide_depth, ?_⟩; gi_at_call 34; refine (callsIn_wide.2 (index_none rest _ hm)).mono ?_; rintro e w' ⟨rfl, rfl⟩)
      refine ⟨wide_depth, hR.mono ?_⟩
      rintro e W3 (⟨rfl, hJ3, hk3⟩ | ⟨rfl, hJx3⟩)
      · gi_wp2
        go_end0
        exact ⟨⟨_, rfl⟩, .inl ⟨_, hp'.out.symm, hJ3⟩⟩
      · gi_wp2
        go_end0
        exact ⟨⟨_, rfl⟩, .inr ⟨_, HX.out, hJx3⟩⟩
end Go.Proofs.YtebcojpmdihjfaaDoor
