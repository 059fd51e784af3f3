import Derived.Test.YtacplkanjhjbpaaStep
import Derived.ProofKit
import Derived.OpenShut
import Derived.ShutString
import Derived.ChangeOld
import Derived.Below
import Derived.Lib.SmallJoins
namespace Go.Proofs.Ytacplkanjhjbpaa
open Go.ChangeShapes Go.WideShapes Go.ChangeAt Go.RowKit Go.Proofs.YtacplkanjhjbpaaW.PrintWords
set_option linter.unusedVariables false
theorem own : ownKnob Try.prog.godebug = none := by kernel_rfl
theorem laidOut : laidOutB Try.prog = true := by kernel_rfl
section
variable {H : Type} {enc : TypeId × Value → H} {W : World} {base b0 : Nat} {spare : Nat → Bool} {held : Bool} {r : Reach}
theorem cells38 : Try.prog.cellsOf 38 = 4 := by kernel_rfl
theorem cells23 : Try.prog.cellsOf 23 = 5 := by kernel_rfl
theorem cells26 : Try.prog.cellsOf 26 = 8 := by kernel_rfl
theorem cells3 : Try.prog.cellsOf 3 = 1 := by kernel_rfl
theorem cells4 : Try.prog.cellsOf 4 = 1 := by kernel_rfl
theorem cells24 : Try.prog.cellsOf 24 = 1 := by kernel_rfl
theorem five {α : Type} {cs : List α} (h : cs.length = 5) : ∃ a b c d e, cs = [a, b, c, d, e] := by
  match cs, h with
  | [a, b, c, d, e], _ => exact ⟨a, b, c, d, e, rfl⟩
theorem eight {α : Type} {cs : List α} (h : cs.length = 8) : ∃ a b c d e f g i, cs = [a, b, c, d, e, f, g, i] := by
  match cs, h with
  | [a, b, c, d, e, f, g, i], _ => exact ⟨a, b, c, d, e, f, g, i, rfl⟩
theorem four4 {α : Type} {cs : List α} (h : cs.length = 4) : ∃ a b c d, cs = [a, b, c, d] := by
  match cs, h with
  | [a, b, c, d], _ => exact ⟨a, b, c, d, rfl⟩
theorem some_of {α : Type} {l : List α} {n i : Nat} (h : l.length = n) (hi : i < n) : ∃ y, l[i]? = some y := ⟨l[i]'(by omega), by simp⟩
/-- One field's reading. -/
theorem field_at {fs : Array Field} {m : Nat} {cs : List Value} {xs : List (DataW H × List MemPlace)} (hf : ∀ (i : Nat) (f : Field), fs[i]? = some f → DataW.trod enc Try.prog W base spare held m f.type ((cs.drop f.offset).take (Try.prog.cellsOf f.type)) = xs[i]?)
    (i T off n : Nat) (h : (fs[i]?).map (fun f => (f.type, f.offset)) = some (T, off)) (hc : Try.prog.cellsOf T = n) {y : DataW H × List MemPlace} (hy : xs[i]? = some y) : DataW.trod enc Try.prog W base spare held m T ((cs.drop off).take n) = some y := by
  obtain ⟨f, hf1, hf2⟩ := Option.map_eq_some_iff.1 h
  simp only [Prod.mk.injEq] at hf2
  obtain ⟨rfl, rfl⟩ := hf2
  rw [← hc, ← hy]
  exact hf i f hf1
/-- The cells of a policy. -/
theorem pol_cells_of {n : Nat} {cs : List Value} {x : DataW H × List MemPlace} (h : DataW.trod enc Try.prog W base spare held n 23 cs = some x) :
    ∃ b0 b1 n2 n3 n4, cs = [.bool b0, .bool b1, .int .i64 n2, .int .i64 n3, .int .i64 n4] := by
  obtain ⟨xs, m, _, _, hl, hn, hf⟩ := DataW.trod_struct Try.underlying23 h
  rw [cells23] at hl
  obtain ⟨c0, c1, c2, c3, c4, rfl⟩ := five hl
  have hn' : xs.length = 5 := hn
  obtain ⟨y0, e0⟩ := some_of hn' (show 0 < 5 by omega)
  obtain ⟨y1, e1⟩ := some_of hn' (show 1 < 5 by omega)
  obtain ⟨y2, e2⟩ := some_of hn' (show 2 < 5 by omega)
  obtain ⟨y3, e3⟩ := some_of hn' (show 3 < 5 by omega)
  obtain ⟨y4, e4⟩ := some_of hn' (show 4 < 5 by omega)
  have g0 := field_at hf 0 4 0 1 rfl cells4 e0
  have g1 := field_at hf 1 4 1 1 rfl cells4 e1
  have g2 := field_at hf 2 3 2 1 rfl cells3 e2
  have g3 := field_at hf 3 3 3 1 rfl cells3 e3
  have g4 := field_at hf 4 3 4 1 rfl cells3 e4
  simp only [List.drop_zero, List.drop_succ_cons, List.take_succ_cons, List.take_zero] at g0 g1 g2 g3 g4
  obtain ⟨b0, k0, _⟩ := DataW.trod_bool Try.underlying4 g0
  obtain ⟨b1, k1, _⟩ := DataW.trod_bool Try.underlying4 g1
  obtain ⟨n2, k2, _⟩ := DataW.trod_int Try.underlying3 g2
  obtain ⟨n3, k3, _⟩ := DataW.trod_int Try.underlying3 g3
  obtain ⟨n4, k4, _⟩ := DataW.trod_int Try.underlying3 g4
  simp only [List.cons.injEq, and_true] at k0 k1 k2 k3 k4
  exact ⟨b0, b1, n2, n3, n4, by rw [k0, k1, k2, k3, k4]⟩
theorem open_pol {v : Value} {d : DataW H} {p : List MemPlace} (hv : Value.okWide Try.prog W r b0 23 v) (h : DataW.Trod enc Try.prog W base spare held 23 v d p) :
    ∃ b0 b1 n2 n3 n4, v = .agg #[.bool b0, .bool b1, .int .i64 n2, .int .i64 n3, .int .i64 n4] := by
  obtain ⟨cs, rfl, hsz⟩ := okWide_struct Try.underlying23 hv
  obtain ⟨fuel, hf⟩ := h
  obtain ⟨b0, b1, n2, n3, n4, hc⟩ := pol_cells_of hf
  obtain ⟨l⟩ := cs
  refine ⟨b0, b1, n2, n3, n4, ?_⟩
  have hl : l = _ := hc
  rw [hl]
theorem open_four {v : Value} {d : DataW H} {p : List MemPlace} (hv : Value.okWide Try.prog W r b0 38 v) (h : DataW.Trod enc Try.prog W base spare held 38 v d p) :
    ∃ a b c d, v = .agg #[.int .i64 a, .int .i64 b, .int .i64 c, .int .i64 d] := by
  obtain ⟨cs, rfl, hsz⟩ := okWide_struct Try.underlying38 hv
  obtain ⟨fuel, hf0⟩ := h
  obtain ⟨xs, m, _, _, hl, hn, hf⟩ := DataW.trod_struct Try.underlying38 hf0
  obtain ⟨l⟩ := cs
  rw [cells38] at hl
  have hl' : l.length = 4 := hl
  obtain ⟨c0, c1, c2, c3, rfl⟩ := four4 hl'
  have hn' : xs.length = 4 := hn
  obtain ⟨y0, e0⟩ := some_of hn' (show 0 < 4 by omega)
  obtain ⟨y1, e1⟩ := some_of hn' (show 1 < 4 by omega)
  obtain ⟨y2, e2⟩ := some_of hn' (show 2 < 4 by omega)
  obtain ⟨y3, e3⟩ := some_of hn' (show 3 < 4 by omega)
  have g0 := field_at hf 0 3 0 1 rfl cells3 e0
  have g1 := field_at hf 1 3 1 1 rfl cells3 e1
  have g2 := field_at hf 2 3 2 1 rfl cells3 e2
  have g3 := field_at hf 3 3 3 1 rfl cells3 e3
  simp only [Value.cells, List.drop_zero, List.drop_succ_cons, List.take_succ_cons, List.take_zero] at g0 g1 g2 g3
  obtain ⟨n0, k0, _⟩ := DataW.trod_int Try.underlying3 g0
  obtain ⟨n1, k1, _⟩ := DataW.trod_int Try.underlying3 g1
  obtain ⟨n2, k2, _⟩ := DataW.trod_int Try.underlying3 g2
  obtain ⟨n3, k3, _⟩ := DataW.trod_int Try.underlying3 g3
  simp only [List.cons.injEq, and_true] at k0 k1 k2 k3
  exact ⟨n0, n1, n2, n3, by rw [k0, k1, k2, k3]⟩
theorem ints_of_trod {n : Nat} {cs : List Value} {x : DataW H × List MemPlace} (h : DataW.trod enc Try.prog W base (fun _ => true) held n 24 cs = some x) :
    ∃ A c l, cs = [.slice A l.length c] ∧ Kd.C (Kd.int .i64) W A l.length l ∧ l.length ≤ c := by
  rcases open_ints Try.underlying24 Try.underlying3 cells3 h with ⟨rfl, _⟩ | ⟨a, len, cap, zs, rfl, _, hl, hm, hz, _, hcell, _⟩
  · exact ⟨none, 0, [], rfl, ⟨rfl, by simp, fun h => by simp at h⟩, Nat.le_refl _⟩
  · have hz' : zs.length = cap := by simpa using hz
    have hlen : (zs.take len).length = len := by rw [List.length_take]; omega
    refine ⟨some a, cap, zs.take len, by rw [hlen], ?_, by omega⟩
    unfold maxLen at hm
    refine ⟨rfl, by omega, fun _ => ⟨a, rfl, fun j p hj => ⟨[.int .i64 p], rfl, rfl, fun i u hu => ?_⟩⟩⟩
    have hi : i = 0 := by
      rcases Nat.eq_zero_or_pos i with h0 | h0
      · exact h0
      · rw [List.getElem?_eq_none (by simp; omega)] at hu
        cases hu
    subst hi
    have hu' : u = .int .i64 p := by simpa using hu.symm
    subst hu'
    have hs : (Kd.int .i64).sz = 1 := rfl
    rw [hs]
    have hj' : j < zs.length := by
      rcases Nat.lt_or_ge j (zs.take len).length with hlt | hge
      · omega
      · rw [List.getElem?_eq_none hge] at hj
        cases hj
    have hc := hcell j hj'
    have he : zs.getD j 0 = p := by
      rcases Nat.lt_or_ge j len with hlt | hge
      · rw [List.getElem?_take_of_lt hlt] at hj
        simp [List.getD_eq_getElem?_getD, hj]
      · rw [List.getElem?_eq_none (by omega)] at hj
        cases hj
    rw [he] at hc
    simpa using hc
theorem open_ask {v : Value} {d : DataW H} {p : List MemPlace} (hv : Value.okWide Try.prog W r b0 26 v) (h : DataW.Trod enc Try.prog W base (fun _ => true) held 26 v d p) :
    ∃ b0 b1 n2 n3 n4 kind size A c l, v = .agg #[.bool b0, .bool b1, .int .i64 n2, .int .i64 n3, .int .i64 n4, .int .i64 kind, .int .i64 size, .slice A l.length c] ∧ Kd.C (Kd.int .i64) W A l.length l ∧ l.length ≤ c := by
  obtain ⟨cs, rfl, hsz⟩ := okWide_struct Try.underlying26 hv
  obtain ⟨fuel, hf0⟩ := h
  obtain ⟨xs, m, _, _, hl, hn, hf⟩ := DataW.trod_struct Try.underlying26 hf0
  obtain ⟨l⟩ := cs
  rw [cells26] at hl
  have hl' : l.length = 8 := hl
  obtain ⟨c0, c1, c2, c3, c4, c5, c6, c7, rfl⟩ := eight hl'
  have hn' : xs.length = 4 := hn
  obtain ⟨y0, e0⟩ := some_of hn' (show 0 < 4 by omega)
  obtain ⟨y1, e1⟩ := some_of hn' (show 1 < 4 by omega)
  obtain ⟨y2, e2⟩ := some_of hn' (show 2 < 4 by omega)
  obtain ⟨y3, e3⟩ := some_of hn' (show 3 < 4 by omega)
  have g0 := field_at hf 0 23 0 5 rfl cells23 e0
  have g1 := field_at hf 1 3 5 1 rfl cells3 e1
  have g2 := field_at hf 2 3 6 1 rfl cells3 e2
  have g3 := field_at hf 3 24 7 1 rfl cells24 e3
  simp only [Value.cells, List.drop_zero, List.drop_succ_cons, List.take_succ_cons, List.take_zero] at g0 g1 g2 g3
  obtain ⟨b0, b1, n2, n3, n4, k0⟩ := pol_cells_of g0
  obtain ⟨kind, k1, _⟩ := DataW.trod_int Try.underlying3 g1
  obtain ⟨size, k2, _⟩ := DataW.trod_int Try.underlying3 g2
  obtain ⟨A, c, zs, k3, hr, hc⟩ := ints_of_trod g3
  simp only [List.cons.injEq, and_true] at k0 k1 k2 k3
  obtain ⟨rfl, rfl, rfl, rfl, rfl⟩ := k0
  exact ⟨b0, b1, n2, n3, n4, kind, size, A, c, zs, by rw [k1, k2, k3], hr, hc⟩
end
end Go.Proofs.Ytacplkanjhjbpaa
