import Derived.Test.YtacplkanjhjbpaaPlain
import Derived.Test.YtacplkanjhjbpaaLive
import Derived.BigQuiet
import Derived.Deep.QuietTactic
namespace Go.Proofs.Ytacplkanjhjbpaa
open Go.RowKit Go.Proofs.YtacplkanjhjbpaaW.PrintWords Go.Proofs.YtacplkanjhjbpaaW.PrintLast Go.Proofs.YtacplkanjhjbpaaW.PrintMore
open PClassChooses
set_option linter.unusedVariables false
set_option linter.unusedSimpArgs false

/-- Steps of a world, one behind the other. -/
theorem bstep {w W W' : World} (h : Below w.heap.size w W) (k : Below W.heap.size W W') : Below w.heap.size w W' := h.trans (k.mono h.size)
theorem balloc {w W : World} {o : Obj} (h : Below w.heap.size w W) : Below w.heap.size w (W.alloc o) := h.alloc h.size o
theorem bdrew {w W : World} {n : Nat} (h : Below w.heap.size w W) : Below w.heap.size w (W.drewN n) := pw_below_drewN h n
theorem b0 {w : World} : Below w.heap.size w w := Below.refl _ _
/-- A box (a struct that came in by value) that the call laid first, and what the world is since. -/
def Box (w W : World) (cs : Array Value) (t : TypeId) : Prop := Below w.heap.size w W ∧ w.heap.size < W.heap.size ∧ W.heap[w.heap.size]? = some (.cells cs t (0, 0))
theorem Box.start (w : World) (cs : Array Value) (t : TypeId) : Box w (w.alloc (.cells cs t)) cs t := ⟨balloc b0, by simp, heap_alloc_new _ _⟩
theorem Box.alloc {w W : World} {cs : Array Value} {t : TypeId} {o : Obj} (h : Box w W cs t) : Box w (W.alloc o) cs t :=
  ⟨balloc h.1, by have := h.2.1; simp; omega, by rw [Below.heap_alloc _ _ _ h.2.1]; exact h.2.2⟩
theorem Box.drew {w W : World} {cs : Array Value} {t : TypeId} {n : Nat} (h : Box w W cs t) : Box w (W.drewN n) cs t := ⟨bdrew h.1, h.2.1, h.2.2⟩
theorem Box.drew1 {w W : World} {cs : Array Value} {t : TypeId} (h : Box w W cs t) : Box w W.drew cs t := ⟨h.1.drew, h.2.1, h.2.2⟩
theorem Box.step {w W W' : World} {cs : Array Value} {t : TypeId} (h : Box w W cs t) (hb : Below W.heap.size W W') : Box w W' cs t :=
  ⟨bstep h.1 hb, Nat.lt_of_lt_of_le h.2.1 hb.size, by rw [hb.block _ h.2.1]; exact h.2.2⟩
theorem Box.cell {w W : World} {cs : Array Value} {t : TypeId} (h : Box w W cs t) (i : Nat) (v : Value) (hv : cs[i]? = some v) : W.cell? ⟨w.heap.size, i, none⟩ = some v := by
  simp [World.cell?, h.2.2, hv]
/-- The eight cells of an Ask. -/
def askCells (b0 b1 : Bool) (n2 n3 n4 kind size : Int) (A : Option Addr) (n c : Nat) : Array Value := #[.bool b0, .bool b1, .int .i64 n2, .int .i64 n3, .int .i64 n4, .int .i64 kind, .int .i64 size, .slice A n c]
theorem Box.ask {w W : World} {b0 b1 : Bool} {n2 n3 n4 kind size : Int} {A : Option Addr} {n c : Nat} {t : TypeId} (h : Box w W (askCells b0 b1 n2 n3 n4 kind size A n c) t) :
    W.cell? ⟨w.heap.size, 0, none⟩ = some (.bool b0) ∧ W.cell? ⟨w.heap.size, 1, none⟩ = some (.bool b1) ∧ W.cell? ⟨w.heap.size, 2, none⟩ = some (.int .i64 n2) ∧ W.cell? ⟨w.heap.size, 3, none⟩ = some (.int .i64 n3) ∧ W.cell? ⟨w.heap.size, 4, none⟩ = some (.int .i64 n4) ∧ W.cell? ⟨w.heap.size, 5, none⟩ = some (.int .i64 kind) ∧ W.cell? ⟨w.heap.size, 6, none⟩ = some (.int .i64 size) ∧ W.cell? ⟨w.heap.size, 7, none⟩ = some (.slice A n c) :=
  ⟨h.cell 0 _ rfl, h.cell 1 _ rfl, h.cell 2 _ rfl, h.cell 3 _ rfl, h.cell 4 _ rfl, h.cell 5 _ rfl, h.cell 6 _ rfl, h.cell 7 _ rfl⟩
theorem Box.pol {w W : World} {b0 b1 : Bool} {n2 n3 n4 : Int} {t : TypeId} (h : Box w W #[.bool b0, .bool b1, .int .i64 n2, .int .i64 n3, .int .i64 n4] t) :
    W.cell? ⟨w.heap.size, 0, none⟩ = some (.bool b0) ∧ W.cell? ⟨w.heap.size, 1, none⟩ = some (.bool b1) ∧ W.cell? ⟨w.heap.size, 2, none⟩ = some (.int .i64 n2) ∧ W.cell? ⟨w.heap.size, 3, none⟩ = some (.int .i64 n3) ∧ W.cell? ⟨w.heap.size, 4, none⟩ = some (.int .i64 n4) :=
  ⟨h.cell 0 _ rfl, h.cell 1 _ rfl, h.cell 2 _ rfl, h.cell 3 _ rfl, h.cell 4 _ rfl⟩
theorem new2d {W : World} {b : Nat} (hb : b = W.heap.size) (x y : Int) :
    Kd.C (Kd.int .i64) (W.alloc (.cells #[.int .i64 x, .int .i64 y] 3)).drew (some ⟨b, 0, none⟩) [x, y].length [x, y] := Kd.C_below (new2 hb x y) (b0 : Below _ _ _).drew
theorem b0drew {w : World} : Below w.heap.size w w.drew := b0.drew
theorem one_cell {w : World} {A : Option Addr} {x : Int} (h : Kd.C (Kd.int .i64) w A 1 [x]) : ∃ b off, A = some ⟨b, off, none⟩ ∧ w.cell? ⟨b, off, none⟩ = some (.int .i64 x) := by
  obtain ⟨_, _, h⟩ := h
  obtain ⟨⟨b, off, spot⟩, rfl, hc⟩ := h (by omega)
  obtain ⟨c0, _, hk0, h0⟩ := hc 0 x rfl
  have e0 : c0 = [.int .i64 x] := hk0
  subst e0
  have h0' := h0 0 _ rfl
  have hs : (Kd.int .i64).sz = 1 := rfl
  rw [hs] at h0'
  simp [Go.Addr.add] at h0'
  have hspot : spot = none := by simpa using World.cell?_spot h0'
  subst hspot
  exact ⟨b, off, rfl, h0'⟩
theorem two_cells {w : World} {A : Option Addr} {x y : Int} (h : Kd.C (Kd.int .i64) w A 2 [x, y]) : ∃ b off, A = some ⟨b, off, none⟩ ∧ w.cell? ⟨b, off, none⟩ = some (.int .i64 x) ∧ w.cell? ⟨b, off + 1, none⟩ = some (.int .i64 y) := by
  obtain ⟨_, _, h⟩ := h
  obtain ⟨⟨b, off, spot⟩, rfl, hc⟩ := h (by omega)
  obtain ⟨c0, _, hk0, h0⟩ := hc 0 x rfl
  obtain ⟨c1, _, hk1, h1⟩ := hc 1 y rfl
  have e0 : c0 = [.int .i64 x] := hk0
  have e1 : c1 = [.int .i64 y] := hk1
  subst e0 e1
  have h0' := h0 0 _ rfl
  have h1' := h1 0 _ rfl
  have hs : (Kd.int .i64).sz = 1 := rfl
  rw [hs] at h0' h1'
  simp [Go.Addr.add] at h0' h1'
  have hspot : spot = none := by simpa using World.cell?_spot h0'
  subst hspot
  exact ⟨b, off, rfl, h0', h1'⟩

end Go.Proofs.Ytacplkanjhjbpaa
