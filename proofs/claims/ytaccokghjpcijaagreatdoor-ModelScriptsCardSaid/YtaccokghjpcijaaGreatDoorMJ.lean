import Derived.Test.YtaccokghjpcijaaGreatDoorMI
import Derived.Deep.AppendLies
import Derived.Laws.OwnMore
import Derived.Deep.Onto
import Derived.Deep.QuietTactic
import Derived.BigQuiet
import Derived.BigRegion
import Derived.RegionTactic
import Derived.Deep.RegionWith
import Derived.Laws.AppendOwnNone
import Derived.Deep.RegionLaw
set_option linter.unusedVariables false
set_option linter.unusedSimpArgs false
namespace Go.Proofs.YtaccokghjpcijaaGreatDoor
open Go Go.RowKit Pp Go.Proofs.YtaccokghjpcijaaGreatDoorW.PrintWords

/-! ### the document's tree in memory -/
def eV (e : Str × Nat) : List Value := [.string (mk e.1), .int .i64 e.2]
def tV (t : Bool × Str) : List Value := [.bool t.1, .string (mk t.2)]
def cellsE (E : List (Str × Nat)) : List Value := E.flatMap eV
def cellsT (T : List (Bool × Str)) : List Value := T.flatMap tV
theorem flat_len {α : Type} {f : α → List Value} (hf : ∀ a, (f a).length = 2) : ∀ l : List α, (l.flatMap f).length = l.length * 2
  | [] => rfl
  | a :: l => by rw [List.flatMap_cons, List.length_append, hf, flat_len hf l, List.length_cons]; omega
theorem flat_at {α : Type} {f : α → List Value} (hf : ∀ a, (f a).length = 2) : ∀ (l : List α) (i : Nat) (a : α), l[i]? = some a → ∀ j, j < 2 → (l.flatMap f)[i * 2 + j]? = (f a)[j]?
  | [], i, a, h, j, hj => by cases h
  | x :: l, 0, a, h, j, hj => by
    have : x = a := by simpa using h
    subst this
    rw [List.flatMap_cons, List.getElem?_append_left (by rw [hf]; omega), Nat.zero_mul, Nat.zero_add]
  | x :: l, i + 1, a, h, j, hj => by
    rw [List.flatMap_cons, List.getElem?_append_right (by rw [hf]; omega), hf, show (i + 1) * 2 + j - 2 = i * 2 + j by omega]
    exact flat_at hf l i a (by simpa using h) j hj
theorem flat_set {α : Type} {f : α → List Value} (hf : ∀ a, (f a).length = 2) (j : Nat) (hj : j < 2) : ∀ (l : List α) (i : Nat) (a b : α) (u : Value), l[i]? = some a → (f a).set j u = f b → (l.flatMap f).set (i * 2 + j) u = (l.set i b).flatMap f
  | [], i, a, b, u, h, hb => by cases h
  | x :: l, 0, a, b, u, h, hb => by
    have : x = a := by simpa using h
    subst this
    rw [List.flatMap_cons, List.set_append_left _ _ (by rw [hf]; omega), Nat.zero_mul, Nat.zero_add, hb, List.set_cons_zero, List.flatMap_cons]
  | x :: l, i + 1, a, b, u, h, hb => by
    rw [List.flatMap_cons, List.set_append_right _ _ (by rw [hf]; omega), hf, show (i + 1) * 2 + j - 2 = i * 2 + j by omega, List.set_cons_succ, List.flatMap_cons, flat_set hf j hj l i a b u (by simpa using h) hb]
theorem eV_len (e : Str × Nat) : (eV e).length = 2 := rfl
theorem tV_len (t : Bool × Str) : (tV t).length = 2 := rfl
structure KMs (W : World) (G : Nat → Prop) (n0 kb : Nat) (E : List (Str × Nat)) (T : List (Bool × Str)) (vE vT : Value) : Prop where
  root : W.heap[kb]? = some (.cells #[vE, vT] 77 (0, 0))
  oE : W.ownsRow n0 107 2 vE E.length (cellsE E)
  oT : W.ownsRow n0 73 2 vT T.length (cellsT T)
  low : n0 ≤ kb
  mem : ∀ b, G b ↔ b = kb ∨ vE.ownBlock = some b ∨ vT.ownBlock = some b
def KM (W : World) (G : Nat → Prop) (n0 kb : Nat) (E : List (Str × Nat)) (T : List (Bool × Str)) : Prop := ∃ vE vT, KMs W G n0 kb E T vE vT
theorem own_same {W W' : World} {n0 e size n : Nat} {v : Value} {xs : List Value} (h : W.ownsRow n0 e size v n xs) (hs : ∀ b, v.ownBlock = some b → W'.heap[b]? = W.heap[b]?) : W'.ownsRow n0 e size v n xs := by
  refine ⟨h.1, ?_⟩
  rcases h.2 with h2 | ⟨g, cap, cur, rfl, hb, hg, r⟩
  · exact .inl h2
  · exact .inr ⟨g, cap, cur, rfl, hb, (hs g rfl).trans hg, r⟩
theorem own_form {W : World} {n0 e size n : Nat} {v : Value} {xs : List Value} (h : W.ownsRow n0 e size v n xs) : ∃ A c, v = .slice A n c ∧ n ≤ c := by
  rcases h.2 with ⟨rfl, rfl⟩ | ⟨g, cap, cur, rfl, hb, hg, hn, _⟩
  · exact ⟨none, 0, rfl, Nat.le_refl _⟩
  · exact ⟨_, cap, rfl, hn⟩
section
variable {W W' : World} {G : Nat → Prop} {n0 kb : Nat} {E : List (Str × Nat)} {T : List (Bool × Str)} {vE vT : Value}
theorem KMs.same (h : KMs W G n0 kb E T vE vT) (hs : ∀ b, G b → W'.heap[b]? = W.heap[b]?) : KMs W' G n0 kb E T vE vT :=
  { h with
    root := (hs kb ((h.mem kb).2 (.inl rfl))).trans h.root
    oE := own_same h.oE (fun b hb => hs b ((h.mem b).2 (.inr (.inl hb))))
    oT := own_same h.oT (fun b hb => hs b ((h.mem b).2 (.inr (.inr hb)))) }
theorem KMs.lt (h : KMs W G n0 kb E T vE vT) : ∀ b, G b → b < W.heap.size ∧ n0 ≤ b := fun b hb => by
  rcases (h.mem b).1 hb with rfl | hb | hb
  · exact ⟨some_lt h.root, h.low⟩
  · exact ⟨(h.oE.lt b hb).2, (h.oE.lt b hb).1⟩
  · exact ⟨(h.oT.lt b hb).2, (h.oT.lt b hb).1⟩
theorem KMs.below (h : KMs W G n0 kb E T vE vT) (hb : Below W.heap.size W W') : KMs W' G n0 kb E T vE vT := h.same (fun b hg => hb.block b (h.lt b hg).1)
theorem KM.same (h : KM W G n0 kb E T) (hs : ∀ b, G b → W'.heap[b]? = W.heap[b]?) : KM W' G n0 kb E T := by
  obtain ⟨vE, vT, h⟩ := h
  exact ⟨vE, vT, h.same hs⟩
theorem KM.below (h : KM W G n0 kb E T) (hb : Below W.heap.size W W') : KM W' G n0 kb E T := by
  obtain ⟨vE, vT, h⟩ := h
  exact ⟨vE, vT, h.below hb⟩
theorem KM.lt (h : KM W G n0 kb E T) : ∀ b, G b → b < W.heap.size ∧ n0 ≤ b := by
  obtain ⟨vE, vT, h⟩ := h
  exact h.lt
/-- The two slices, and the cells of each element. -/
theorem KMs.open_ (h : KMs W G n0 kb E T vE vT) : ∃ A c B d, vE = .slice A E.length c ∧ vT = .slice B T.length d ∧ E.length ≤ c ∧ T.length ≤ d ∧ W.cell? ⟨kb, 0, none⟩ = some (.slice A E.length c) ∧ W.cell? ⟨kb, 1, none⟩ = some (.slice B T.length d) ∧
    (∀ i e, E[i]? = some e → ∃ ad, A = some ad ∧ W.cell? (ad.add (i * 2)) = some (.string (Go.Proofs.YtaccokghjpcijaaGreatDoor.mk e.1)) ∧ W.cell? ⟨(ad.add (i * 2)).block, (ad.add (i * 2)).off + 1, none⟩ = some (.int .i64 e.2)) ∧
    (∀ i t, T[i]? = some t → ∃ ad, B = some ad ∧ W.cell? (ad.add (i * 2)) = some (.bool t.1) ∧ W.cell? ⟨(ad.add (i * 2)).block, (ad.add (i * 2)).off + 1, none⟩ = some (.string (Go.Proofs.YtaccokghjpcijaaGreatDoor.mk t.2))) := by
  obtain ⟨A, c, hA, hc⟩ := own_form h.oE
  obtain ⟨B, d, hB, hd⟩ := own_form h.oT
  have hroot := h.root
  rw [hA, hB] at hroot
  have hadd : ∀ (b k : Nat), (⟨b, 0, none⟩ : Addr).add k = ⟨b, k, none⟩ := fun b k => by
    unfold Addr.add
    split
    · rename_i h0; subst h0; rfl
    · simp
  refine ⟨A, c, B, d, hA, hB, hc, hd, heap_cell hroot 0 _ rfl, heap_cell hroot 1 _ rfl, fun i e hi => ?_, fun i t hi => ?_⟩
  · have hlt : i < E.length := (List.getElem?_eq_some_iff.1 hi).1
    obtain ⟨g, cap, hv, _, _⟩ := h.oE.form (by omega)
    rw [hA] at hv
    injection hv with e1 e2 e3
    subst e1
    have h0 := h.oE.cells (g := g) (by rw [hA]; rfl)
    refine ⟨_, rfl, ?_, ?_⟩
    · rw [hadd]
      have := h0 (i * 2 + 0) (.string (Go.Proofs.YtaccokghjpcijaaGreatDoor.mk e.1)) ((flat_at eV_len E i e hi 0 (by omega)).trans rfl)
      rw [hadd] at this
      exact this
    · rw [hadd]
      have := h0 (i * 2 + 1) (.int .i64 e.2) ((flat_at eV_len E i e hi 1 (by omega)).trans rfl)
      rw [hadd] at this
      exact this
  · have hlt : i < T.length := (List.getElem?_eq_some_iff.1 hi).1
    obtain ⟨g, cap, hv, _, _⟩ := h.oT.form (by omega)
    rw [hB] at hv
    injection hv with e1 e2 e3
    subst e1
    have h0 := h.oT.cells (g := g) (by rw [hB]; rfl)
    refine ⟨_, rfl, ?_, ?_⟩
    · rw [hadd]
      have := h0 (i * 2 + 0) (.bool t.1) ((flat_at tV_len T i t hi 0 (by omega)).trans rfl)
      rw [hadd] at this
      exact this
    · rw [hadd]
      have := h0 (i * 2 + 1) (.string (Go.Proofs.YtaccokghjpcijaaGreatDoor.mk t.2)) ((flat_at tV_len T i t hi 1 (by omega)).trans rfl)
      rw [hadd] at this
      exact this
end
def ofL : List (Str × Nat) → Str → Int
  | [], _ => -1
  | e :: t, p => if e.1 = p then e.2 else ofL t p
def ofR (E : List (Str × Nat)) (p : Str) : Int := if p = [47] then 0 else ofL E p
set_option maxRecDepth 100000 in
set_option maxHeartbeats 2000000 in
theorem of_calls {W : World} {G : Nat → Prop} {n0 kb : Nat} {E : List (Str × Nat)} {T : List (Bool × Str)} (h : KM W G n0 kb E T) (hE : E.length ≤ 1000000) (p : Str) :
    Calls Tryz.prog 90 #[.pointer (some ⟨kb, 0, none⟩), .string (mk p)] W fun e W' => e = .returned (.int .i64 (ofR E p)) ∧ W' = W := by
  obtain ⟨vE, vT, hs⟩ := h
  obtain ⟨A, c, B, d, _, _, hc, _, c0, c1, hEs, _⟩ := hs.open_
  have HE := Lib.hid hEs
  have tp := mk_list p
  obtain ⟨n, hn⟩ : ∃ n, E.length = n := ⟨_, rfl⟩
  rw [hn] at c0 hc hE
  have HN := Lib.hid hn
  clear hs hEs c1 hn
  have hof : ofR E p = if p = [47] then 0 else ofL E p := rfl
  have HOF := Lib.hid hof
  clear hof
  by_cases hr : p = [47]
  · have hb : (p == [47]) = true := beq_iff_eq.2 hr
    have HR := Lib.hid hr
    clear hr
    go_enter Tryz.func90, Tryz.ntmps90
    go_wp2_with fail
    go_ret
    exact ⟨by rw [HOF.out, if_pos HR.out]; rfl, rfl⟩
  have hb : (p == [47]) = false := beq_eq_false_iff_ne.2 hr
  have HOF2 : Hid (ofR E p = ofL E p) := Lib.hid (by rw [HOF.out, if_neg hr])
  clear hr HOF
  go_enter Tryz.func90, Tryz.ntmps90
  go_wp2_with fail
  go_loopw [5] (fun i W' => ∃ k : Nat, k ≤ n ∧ i = .int .i64 k ∧ W' = W ∧ Hid (ofL (E.drop k) p = ofL E p)) (fun i _ => n - (intOf i).toNat)
  case atStart => exact ⟨0, Nat.zero_le _, rfl, rfl, Lib.hid rfl⟩
  case round =>
    obtain ⟨k, hk, rfl, rfl, HO⟩ := hrel
    by_cases hlt : k < n
    · obtain ⟨e, he⟩ : ∃ e, E[k]? = some e := ⟨_, List.getElem?_eq_getElem (by have := HN.out; omega)⟩
      obtain ⟨ad, had, x0, x1⟩ := HE.out k e he
      have hdrop : E.drop k = e :: E.drop (k + 1) := by
        obtain ⟨h1, h2⟩ := List.getElem?_eq_some_iff.1 he
        rw [← h2]
        exact List.drop_eq_getElem_cons h1
      have z0 : (0 : Int) ≤ (k : Int) := by omega
      have z1 : (k : Int) < (n : Int) := by omega
      have z2 : (k : Int) < (c : Int) := by omega
      have te := mk_list e.1
      subst had
      by_cases hq : e.1 = p
      · have hb2 : (e.1 == p) = true := beq_iff_eq.2 hq
        have HQ : Hid (ofR E p = e.2) := Lib.hid (by rw [HOF2.out, ← HO.out, hdrop]; unfold ofL; rw [if_pos hq])
        clear hdrop hq he
        go_wp2_with fail
        go_ret
        exact ⟨by rw [HQ.out]; rfl, rfl⟩
      · have hb2 : (e.1 == p) = false := beq_eq_false_iff_ne.2 hq
        have HQ : Hid (ofL (E.drop (k + 1)) p = ofL E p) := Lib.hid (by rw [← HO.out, hdrop]; conv => rhs; unfold ofL; rw [if_neg hq])
        clear hdrop hq he x1
        go_wp2_with fail
        go_roundw
        case rel => exact ⟨k + 1, by omega, by go_num, trivial, HQ⟩
        case measure => simp [intOf]; omega
    · obtain rfl : k = n := by omega
      have HQ : Hid (ofR E p = -1) := Lib.hid (by rw [HOF2.out, ← HO.out, List.drop_of_length_le (by have := HN.out; omega)]; rfl)
      clear hlt
      go_wp2_with fail
      go_ret
      exact ⟨by rw [HQ.out]; rfl, rfl⟩
end Go.Proofs.YtaccokghjpcijaaGreatDoor
set_option linter.unusedVariables false
set_option linter.unusedSimpArgs false
namespace Go.Proofs.YtaccokghjpcijaaGreatDoor
open Go Go.RowKit Pp

/-! ### the document's tree, and model's: the same numbers -/
def jE (En : Ents) : List (Str × Nat) := En.map fun e => (join e.1, e.2)
structure KRel (g : St) (E : List (Str × Nat)) (T : List (Bool × Str)) : Prop where
  ex : ∃ En : Ents, Rel g En ∧ E = jE En
  len : T.length = g.next
  at_ : ∀ i, i < g.next → T[i]? = some (isDir g i, (g.node i).bytes)
def okNs (ns : List Str) : Prop := ∀ q ∈ ns, okName q = true ∧ (47 : UInt8) ∉ q
theorem join_inj {a b : List Str} (ha : okNs a) (hb : okNs b) (h : join a = join b) : a = b := by
  have h1 := split_join ha
  rw [h, split_join hb] at h1
  exact (Option.some.inj h1).symm
theorem Rel.ok {g : St} {En : Ents} (r : Rel g En) (h : Inv g) {e : List Str × Nat} (he : e ∈ En) : okNs e.1 := go_names h ((r.mem e.1 e.2).1 he).2
theorem ofL_hit : ∀ {En : Ents} {ns : List Str} {x : Nat}, (En.map (·.1)).Nodup → (∀ e ∈ En, okNs e.1) → okNs ns → (ns, x) ∈ En → ofL (jE En) (join ns) = x
  | e :: En, ns, x, hn, hv, hs, hm => by
    show (if join e.1 = join ns then (e.2 : Int) else ofL (jE En) (join ns)) = x
    rw [List.map_cons, List.nodup_cons] at hn
    rcases List.mem_cons.1 hm with h | h
    · subst h; rw [if_pos rfl]
    · have hne : e.1 ≠ ns := fun e1 => hn.1 (by rw [e1]; exact key_mem.2 ⟨x, h⟩)
      rw [if_neg (fun e1 => hne (join_inj (hv e List.mem_cons_self) hs e1))]
      exact ofL_hit hn.2 (fun e he => hv e (List.mem_cons_of_mem _ he)) hs h
theorem ofL_miss : ∀ {En : Ents} {p : Str}, (∀ e ∈ En, join e.1 ≠ p) → ofL (jE En) p = -1
  | [], p, _ => rfl
  | e :: En, p, h => by
    show (if join e.1 = p then (e.2 : Int) else ofL (jE En) p) = -1
    rw [if_neg (h e List.mem_cons_self)]
    exact ofL_miss (fun e he => h e (List.mem_cons_of_mem _ he))
def goI (r : Option Nat) : Int := match r with | some x => x | none => -1
theorem join_ne_root {ns : List Str} (hs : okNs ns) (hne : ns ≠ []) : join ns ≠ [47] := fun e => by
  have := split_join hs
  rw [e, split_root] at this
  cases this
  exact hne rfl
section
variable {g : St} {E : List (Str × Nat)} {T : List (Bool × Str)}
theorem KRel.of_go (r : KRel g E T) (h : Inv g) {ns : List Str} (hs : okNs ns) : ofR E (join ns) = goI (go g 0 ns) := by
  obtain ⟨En, hr, rfl⟩ := r.ex
  unfold ofR
  by_cases hne : ns = []
  · subst hne
    rw [if_pos (show join [] = [47] from rfl)]
    rfl
  · rw [if_neg (join_ne_root hs hne)]
    cases hg : go g 0 ns with
    | some x => exact ofL_hit hr.nodup (fun e he => hr.ok h he) hs ((hr.mem ns x).2 ⟨hne, hg⟩)
    | none => exact ofL_miss (fun e he e1 => by
        have : e.1 = ns := join_inj (hr.ok h he) hs e1
        have h2 := ((hr.mem e.1 e.2).1 he).2
        rw [this, hg] at h2
        cases h2)
theorem KRel.of_none (r : KRel g E T) (h : Inv g) {p : Str} (hp : split p = none) : ofR E p = -1 := by
  obtain ⟨En, hr, rfl⟩ := r.ex
  unfold ofR
  rw [if_neg (fun e => by rw [e, split_root] at hp; cases hp)]
  exact ofL_miss (fun e he e1 => by rw [← e1, split_join (hr.ok h he)] at hp; cases hp)
theorem KRel.dirAt (r : KRel g E T) {i : Nat} (hi : i < g.next) : ∃ s, T[i]? = some (isDir g i, s) := ⟨_, r.at_ i hi⟩
/-- Along a path. -/
theorem walk_stop {ns : List Str} {k x : Nat} (hk : k < ns.length) (hg : go g 0 (ns.take k) = some x) (hd : isDir g x = false) : walk g 0 ns = .error 11 := by
  have e : ns = ns.take k ++ ns.drop k := (List.take_append_drop k ns).symm
  rw [e, walk_append, go_walk.2 hg]
  simp only
  rw [List.drop_eq_getElem_cons hk, walk_cons, hd]
  rfl
theorem walk_miss {ns : List Str} {k x : Nat} (hk : k < ns.length) (hg : go g 0 (ns.take k) = some x) (hd : isDir g x = true) (hn : go g 0 (ns.take (k + 1)) = none) : walk g 0 ns = .error 8 := by
  have e : ns = ns.take k ++ ns.drop k := (List.take_append_drop k ns).symm
  have e2 : ns.take (k + 1) = ns.take k ++ [ns[k]] := List.take_succ_eq_append_getElem hk
  rw [e2, go_snoc, hg] at hn
  have hn' : look (entsOf g x) ns[k] = none := hn
  rw [e, walk_append, go_walk.2 hg]
  simp only
  rw [List.drop_eq_getElem_cons hk, walk_cons, hd, if_pos rfl, hn']
end
end Go.Proofs.YtaccokghjpcijaaGreatDoor
set_option linter.unusedVariables false
set_option linter.unusedSimpArgs false
namespace Go.Proofs.YtaccokghjpcijaaGreatDoor
open Go Go.RowKit Pp Go.Proofs.YtaccokghjpcijaaGreatDoorW.PrintWords

def resN (r : Except Int Nat) : Int := match r with | .ok x => x | .error _ => 0
theorem resN_ret {r : Except Int Nat} {a b : Int} (h1 : a = resN r) (h2 : b = resE r) : Ending.returned (.tuple #[.int .i64 a, .int .i64 b]) = .returned (.tuple #[.int .i64 (resN r), .int .i64 (resE r)]) := by rw [h1, h2]
theorem of_at {W : World} {G : Nat → Prop} {n0 kb : Nat} {E : List (Str × Nat)} {T : List (Bool × Str)} (h : KM W G n0 kb E T) (hE : E.length ≤ 1000000) (p : Str) (v : Int) (hv : ofR E p = v) :
    Calls Tryz.prog 90 #[.pointer (some ⟨kb, 0, none⟩), .string (mk p)] W fun e W' => e = .returned (.int .i64 v) ∧ W' = W := hv ▸ of_calls h hE p
set_option maxRecDepth 100000 in
set_option maxHeartbeats 4000000 in
theorem kleads_calls {W : World} {G : Nat → Prop} {n0 kb : Nat} {E : List (Str × Nat)} {T : List (Bool × Str)} {g : St} (h : KM W G n0 kb E T) (hr : KRel g E T) (hI : Inv g) (hE : E.length ≤ 1000000) (p : Str) (hp : p.length ≤ 4096) :
    Calls Tryz.prog 69 #[.pointer (some ⟨kb, 0, none⟩), .string (mk p)] W fun e W' => e = .returned (.tuple #[.int .i64 (resN (leads g p)), .int .i64 (resE (leads g p))]) ∧ Below W.heap.size W W' := by
  have HK := Lib.hid h
  have HR := Lib.hid hr
  have HI := Lib.hid hI
  clear h hr hI
  go_enter Tryz.func69, Tryz.ntmps69
  go_wp2_with fail
  obtain ⟨x0, hx0⟩ : ∃ x, errV p = x := ⟨_, rfl⟩
  refine (refsplit_at p x0 hx0 (by omega) _).mono ?_
  rintro e w1 ⟨v, rfl, hst, hB⟩
  have HB := Lib.hid hB
  clear hB
  cases hsp : split p with
  | none =>
    have hx12 : x0 = 12 := by rw [← hx0]; unfold errV; rw [hsp]; rfl
    subst hx12
    have HL : Hid (leads g p = .error 12) := Lib.hid (by unfold leads; rw [hsp])
    clear hx0 hsp hst
    go_wp2_with fail
    go_ret2
    exact ⟨by rw [HL.out]; rfl, HB.out⟩
  | some l =>
    have hx0' : x0 = 0 := by rw [← hx0]; unfold errV; rw [hsp]; rfl
    subst hx0'
    have hN : namesV p = l := by unfold namesV; rw [hsp]; rfl
    rw [hN] at hst
    have HOK : Hid (okNs l) := Lib.hid (split_names hsp)
    have HLD : Hid (leads g p = walk g 0 l) := Lib.hid (by unfold leads; rw [hsp])
    have HJ : Hid (join l = p) := Lib.hid (join_split hsp)
    have hlp : l.length ≤ p.length := split_length hsp
    obtain ⟨A, c, hv, hc, _⟩ := id hst
    subst hv
    obtain ⟨n, hn⟩ : ∃ n, l.length = n := ⟨_, rfl⟩
    have HN := Lib.hid hn
    have HST := Lib.hid hst
    have hst2 := hst
    rw [hn] at hc hlp ⊢
    clear hx0 hsp hst hN hst2 hn
    go_wp2_with fail
    go_loopw [8] (fun i W' => ∃ k : Nat, k ≤ n ∧ i = .int .i64 k ∧ Hid (Below w1.heap.size w1 W' ∧ ∃ x, go g 0 (l.take k) = some x)) (fun i _ => n - (intOf i).toNat)
    case atStart => exact ⟨0, Nat.zero_le _, rfl, Lib.hid ⟨Below.refl _ _, 0, rfl⟩⟩
    case round =>
      obtain ⟨k, hk, rfl, HKK⟩ := hrel
      obtain ⟨hBw, x, hx⟩ := HKK.out
      have HBw := Lib.hid hBw
      have HX := Lib.hid hx
      clear hBw HKK
      by_cases hlt : k < n
      · have HKr : Hid (KM wr G n0 kb E T) := Lib.hid (HK.out.below (bstep HB.out HBw.out))
        have HKd : Hid (KM wr.drew G n0 kb E T) := Lib.hid (HKr.out.below ((Below.refl _ _).drew))
        obtain ⟨vE, vT, hks⟩ := id HKr.out
        obtain ⟨A', cE, B', cT, _, _, hcE, hcT, c0, c1, _, hTs⟩ := hks.open_
        have hxl : x < g.next := go_lt HI.out HI.out.pos hx
        obtain ⟨bs, hT⟩ := HR.out.dirAt hxl
        obtain ⟨ad, had, t0, t1⟩ := hTs x _ hT
        have hmx : x < T.length := (List.getElem?_eq_some_iff.1 hT).1
        obtain ⟨m, hm⟩ : ∃ m, T.length = m := ⟨_, rfl⟩
        rw [hm] at c1 hcT hmx
        subst had
        obtain ⟨sk, hsk⟩ : ∃ s, join (l.take k) = s := ⟨_, rfl⟩
        have hof : ofR E sk = (x : Int) := by
          rw [← hsk, HR.out.of_go HI.out (fun q hq => HOK.out q (List.mem_of_mem_take hq)), hx]
          rfl
        have hskl : sk.length ≤ 4096 := by rw [← hsk]; exact Nat.le_trans (join_take_length l k) (by rw [HJ.out]; exact hp)
        have hSk : Strs wr (.slice A k c) (l.take k) := (HST.out.below HBw.out).take' k (by have := HN.out; omega)
        have hkl : (l.take k).length ≤ 1099511627776 := by rw [List.length_take]; omega
        have HSk := Lib.hid hSk
        have HSK := Lib.hid hsk
        have HOF := Lib.hid hof
        have HC1 := Lib.hid c1
        have HT0 := Lib.hid t0
        have z0 : (0 : Int) ≤ (k : Int) := by omega
        have z1 : (k : Int) ≤ (n : Int) := by omega
        have z1' : (k : Int) < (n : Int) := by omega
        have z2 : (k : Int) ≤ (c : Int) := by omega
        have z3 : (0 : Int) ≤ (x : Int) := by omega
        have z4 : (x : Int) < (m : Int) := by omega
        have z5 : (x : Int) < (cT : Int) := by omega
        clear hks hTs t1 hof hsk hSk hT hm c0
        cases hd : isDir g x with
        | false =>
          have HW : Hid (leads g p = .error 11) := Lib.hid (by rw [HLD.out]; exact walk_stop (by have := HN.out; omega) HX.out hd)
          rw [hd] at t0 HT0
          clear hd
          go_wp2_with fail
          go_region_with (first | (go_at_call 91; refine (refjoin_lit _ (l.take k) sk HSK.out _ (HSk.out.below ((Below.refl _ _).drew)) hkl (by omega)).mono ?_; rintro e w5 ⟨rfl, hB5⟩; have HK5 := Lib.hid (HKd.out.below hB5); have c15 := pw_cell_below hB5 (show wr.drew.cell? ⟨kb, 1, none⟩ = _ from HC1.out); have t05 := pw_cell_below hB5 (show wr.drew.cell? (ad.add (x * 2)) = _ from HT0.out); have HB5 := Lib.hid hB5; clear hB5) | (go_at_call 90; refine (of_at HK5.out hE sk x HOF.out).mono ?_; rintro e w6 ⟨rfl, rfl⟩))
          all_goals
            go_wp2_with fail
            go_ret2
            exact ⟨by rw [HW.out]; rfl, bstep (bstep (bstep HB.out HBw.out) (Below.refl _ _).drew) HB5.out⟩
        | true =>
          rw [hd] at t0 HT0
          have HD := Lib.hid hd
          obtain ⟨sk1, hsk1⟩ : ∃ s, join (l.take (k + 1)) = s := ⟨_, rfl⟩
          obtain ⟨y1, hy1⟩ : ∃ y, go g 0 (l.take (k + 1)) = y := ⟨_, rfl⟩
          have hof1 : ofR E sk1 = goI y1 := by rw [← hsk1, HR.out.of_go HI.out (fun q hq => HOK.out q (List.mem_of_mem_take hq)), hy1]
          have hskl1 : sk1.length ≤ 4096 := by rw [← hsk1]; exact Nat.le_trans (join_take_length l (k + 1)) (by rw [HJ.out]; exact hp)
          have hkl1 : (l.take (k + 1)).length ≤ 1099511627776 := by rw [List.length_take]; omega
          have HSK1 := Lib.hid hsk1
          have HY1 := Lib.hid hy1
          have z6 : (k : Int) + 1 ≤ (n : Int) := by omega
          have z7 : (k : Int) + 1 ≤ (c : Int) := by omega
          have z8 : (0 : Int) ≤ (k : Int) + 1 := by omega
          clear hd hsk1 hy1
          go_wp2_with fail
          go_region_with (first | (go_at_call 91; refine (refjoin_lit _ (l.take k) sk HSK.out _ (HSk.out.below ((Below.refl _ _).drew)) hkl (by omega)).mono ?_; rintro e w5 ⟨rfl, hB5⟩; have HK5 := Lib.hid (HKd.out.below hB5); have c15 := pw_cell_below hB5 (show wr.drew.cell? ⟨kb, 1, none⟩ = _ from HC1.out); have t05 := pw_cell_below hB5 (show wr.drew.cell? (ad.add (x * 2)) = _ from HT0.out); have HB5 := Lib.hid hB5; clear hB5) | (go_at_call 90; refine (of_at HK5.out hE sk x HOF.out).mono ?_; rintro e w6 ⟨rfl, rfl⟩))
          all_goals
            have HB6 : Hid (Below w1.heap.size w1 w6) := Lib.hid (bstep (bstep HBw.out (Below.refl _ _).drew) HB5.out)
            have hS1 : Strs w6 (.slice A (k + 1) c) (l.take (k + 1)) := (HST.out.below HB6.out).take' (k + 1) (by have := HN.out; omega)
            have HS1 := Lib.hid hS1
            clear hS1 c15 t05
            cases y1 with
            | none =>
              have HW : Hid (leads g p = .error 8) := Lib.hid (by rw [HLD.out]; exact walk_miss (by have := HN.out; omega) HX.out HD.out HY1.out)
              go_wp2_with (first | (go_at_call 91; refine (refjoin_lit _ (l.take (k + 1)) sk1 HSK1.out _ HS1.out hkl1 (by omega)).mono ?_; rintro e w7 ⟨rfl, hB7⟩; have HK7 := Lib.hid (HK5.out.below hB7); have HB7 := Lib.hid hB7; clear hB7) | (go_at_call 90; refine (of_at HK7.out hE sk1 (-1) hof1).mono ?_; rintro e w8 ⟨rfl, rfl⟩))
              go_ret2
              exact ⟨by rw [HW.out]; rfl, bstep (bstep HB.out HB6.out) HB7.out⟩
            | some y =>
              have hyn : ¬ ((y : Int) < 0) := by omega
              go_wp2_with (first | (go_at_call 91; refine (refjoin_lit _ (l.take (k + 1)) sk1 HSK1.out _ HS1.out hkl1 (by omega)).mono ?_; rintro e w7 ⟨rfl, hB7⟩; have HK7 := Lib.hid (HK5.out.below hB7); have HB7 := Lib.hid hB7; clear hB7) | (go_at_call 90; refine (of_at HK7.out hE sk1 (y : Int) hof1).mono ?_; rintro e w8 ⟨rfl, rfl⟩))
              go_roundw
              case rel => exact ⟨k + 1, by omega, by go_num, Lib.hid ⟨bstep HB6.out HB7.out, y, HY1.out⟩⟩
              case measure => simp [intOf]; omega
      · obtain rfl : k = n := by omega
        have HKr : Hid (KM wr G n0 kb E T) := Lib.hid (HK.out.below (bstep HB.out HBw.out))
        have htk : l.take k = l := List.take_of_length_le (by have := HN.out; omega)
        have hxl : go g 0 l = some x := by have := HX.out; rwa [htk] at this
        have HW : Hid (leads g p = .ok x) := Lib.hid (by rw [HLD.out]; exact go_walk.2 hxl)
        have hof : ofR E p = (x : Int) := by rw [← HJ.out, HR.out.of_go HI.out HOK.out, hxl]; rfl
        have HOF := Lib.hid hof
        clear htk hxl hof hx
        go_wp2_with (first | (go_at_call 90; refine (of_at HKr.out hE p x HOF.out).mono ?_; rintro e w8 ⟨rfl, rfl⟩))
        go_ret2
        exact ⟨by rw [HW.out]; rfl, bstep HB.out HBw.out⟩
end Go.Proofs.YtaccokghjpcijaaGreatDoor
set_option linter.unusedVariables false
set_option linter.unusedSimpArgs false
namespace Go.Proofs.YtaccokghjpcijaaGreatDoor
open Go Go.RowKit Pp Go.Proofs.YtaccokghjpcijaaGreatDoorW.PrintWords

theorem kleads_at {W : World} {G : Nat → Prop} {n0 kb : Nat} {E : List (Str × Nat)} {T : List (Bool × Str)} {g : St} (h : KM W G n0 kb E T) (hr : KRel g E T) (hI : Inv g) (hE : E.length ≤ 1000000) (p : Str) (hp : p.length ≤ 4096) {r : Except Int Nat} (hl : leads g p = r) :
    Calls Tryz.prog 69 #[.pointer (some ⟨kb, 0, none⟩), .string (mk p)] W fun e W' => e = .returned (.tuple #[.int .i64 (resN r), .int .i64 (resE r)]) ∧ Below W.heap.size W W' := hl ▸ kleads_calls h hr hI hE p hp
theorem free_snoc {g : St} {p : Str} {ini : List Str} {nm : Str} (hs : split p = some (ini ++ [nm])) : free g p = match kind g (join ini) true with | .error e => .error e | .ok x => match look (entsOf g x) nm with | some _ => .error 9 | none => .ok (x, nm) := by
  unfold free
  rw [parentV_snoc hs]
  rfl
theorem leads_join {g : St} {ini : List Str} (h : okNs ini) : leads g (join ini) = walk g 0 ini := by
  unfold leads
  rw [split_join h]
/-- The two slices at a world, and a thing. -/
theorem KM.thing {W : World} {G : Nat → Prop} {n0 kb : Nat} {E : List (Str × Nat)} {T : List (Bool × Str)} (h : KM W G n0 kb E T) {i : Nat} {t : Bool × Str} (ht : T[i]? = some t) :
    ∃ ad d, T.length ≤ d ∧ W.cell? ⟨kb, 1, none⟩ = some (.slice (some ad) T.length d) ∧ W.cell? (ad.add (i * 2)) = some (.bool t.1) ∧ W.cell? ⟨(ad.add (i * 2)).block, (ad.add (i * 2)).off + 1, none⟩ = some (.string (mk t.2)) := by
  obtain ⟨vE, vT, hs⟩ := h
  obtain ⟨A, c, B, d, _, _, _, hd, _, c1, _, hTs⟩ := hs.open_
  obtain ⟨ad, had, t0, t1⟩ := hTs i t ht
  subst had
  exact ⟨ad, d, hd, c1, t0, t1⟩
set_option maxRecDepth 100000 in
set_option maxHeartbeats 4000000 in
theorem kfree_calls {W : World} {G : Nat → Prop} {n0 kb : Nat} {E : List (Str × Nat)} {T : List (Bool × Str)} {g : St} (h : KM W G n0 kb E T) (hr : KRel g E T) (hI : Inv g) (hE : E.length ≤ 1000000) (p : Str) (hp : p.length ≤ 4096) :
    Calls Tryz.prog 70 #[.pointer (some ⟨kb, 0, none⟩), .string (mk p)] W fun e W' => e = .returned (.int .i64 (resFE (free g p))) ∧ Below W.heap.size W W' := by
  have HK := Lib.hid h
  have HR := Lib.hid hr
  have HI := Lib.hid hI
  clear h hr hI
  have tp := mk_list p
  go_enter Tryz.func70, Tryz.ntmps70
  go_wp2_with fail
  obtain ⟨x0, hx0⟩ : ∃ x, errV p = x := ⟨_, rfl⟩
  refine (refsplit_at p x0 hx0 (by omega) _).mono ?_
  rintro e w1 ⟨v, rfl, hst, hB⟩
  have HB := Lib.hid hB
  clear hB hst
  cases hsp : split p with
  | none =>
    have hx12 : x0 = 12 := by rw [← hx0]; unfold errV; rw [hsp]; rfl
    subst hx12
    have HW : Hid (free g p = .error 12) := Lib.hid (by unfold free; rw [parentV_none hsp]; rfl)
    clear hx0 hsp
    go_wp2_with fail
    go_ret
    exact ⟨by rw [HW.out]; rfl, HB.out⟩
  | some l =>
    have hx0' : x0 = 0 := by rw [← hx0]; unfold errV; rw [hsp]; rfl
    subst hx0'
    by_cases hl : l = []
    · have hpr : p = [47] := by have := join_split hsp; rw [hl] at this; exact this.symm
      have hb : (p == [47]) = true := beq_iff_eq.2 hpr
      have HW : Hid (free g p = .error 9) := Lib.hid (by unfold free; rw [parentV_nil (by rw [hsp, hl])]; rfl)
      clear hx0 hsp hpr
      go_wp2_with fail
      go_ret
      exact ⟨by rw [HW.out]; rfl, HB.out⟩
    · obtain ⟨ini, nm, rfl⟩ := snoc_of hl
      have hpr : p ≠ [47] := fun e => by rw [e, split_root] at hsp; injection hsp with hsp; exact hl hsp.symm
      have hb : (p == [47]) = false := beq_eq_false_iff_ne.2 hpr
      have HF := Lib.hid (free_snoc (g := g) hsp)
      have HOK : Hid (okNs (ini ++ [nm])) := Lib.hid (split_names hsp)
      have HJ : Hid (join (ini ++ [nm]) = p) := Lib.hid (join_split hsp)
      obtain ⟨q, hq⟩ : ∃ q, join ini = q := ⟨_, rfl⟩
      have hql : q.length ≤ 4096 := by have := join_snoc_length ini nm; rw [hq, HJ.out] at this; omega
      have HPV : Hid (parentV p = (q, nm, 0)) := Lib.hid (by rw [parentV_snoc hsp, hq])
      have HQ := Lib.hid hq
      clear hx0 hsp hpr hl hq
      obtain ⟨r, hr⟩ : ∃ r, leads g q = r := ⟨_, rfl⟩
      have HL := Lib.hid hr
      have HK1 : Hid (KM w1 G n0 kb E T) := Lib.hid (HK.out.below HB.out)
      clear hr
      go_wp2_with (first | (go_at_call 92; refine (refparent_lit p q nm 0 HPV.out (by omega) _).mono ?_; rintro e w2 ⟨rfl, hB2⟩; have HB2 := Lib.hid hB2; have HK2 := Lib.hid (HK1.out.below hB2); clear hB2))
      refine (kleads_at HK2.out HR.out HI.out hE q hql HL.out).mono ?_
      rintro e w3 ⟨rfl, hB3⟩
      have HK3 := Lib.hid (HK2.out.below hB3)
      have HB3 := Lib.hid (bstep (bstep HB.out HB2.out) hB3)
      clear hB3
      have hfree : free g p = match kind g q true with | .error e => .error e | .ok x => match look (entsOf g x) nm with | some _ => .error 9 | none => .ok (x, nm) := by rw [HF.out, HQ.out]
      cases r with
      | error ec =>
        have hc0 : ¬ ec = 0 := by have := leads_err HL.out; omega
        have HW : Hid (free g p = .error ec) := Lib.hid (by rw [hfree]; unfold kind; rw [HL.out])
        have hcb : (ec != 0) = true := bne_iff_ne.2 hc0
        clear hfree
        unfold resN resE
        go_wp2_with fail
        go_ret
        exact ⟨by rw [HW.out]; rfl, HB3.out⟩
      | ok x =>
        have hxl := leads_ne HI.out HL.out
        obtain ⟨bs, hT⟩ := HR.out.dirAt hxl
        obtain ⟨ad, d, hd, c1, t0, _⟩ := HK3.out.thing hT
        have hmx : x < T.length := (List.getElem?_eq_some_iff.1 hT).1
        obtain ⟨m, hm⟩ : ∃ m, T.length = m := ⟨_, rfl⟩
        rw [hm] at c1 hd hmx
        have z3 : (0 : Int) ≤ (x : Int) := by omega
        have z4 : (x : Int) < (m : Int) := by omega
        have z5 : (x : Int) < (d : Int) := by omega
        unfold resN resE
        cases hdx : isDir g x with
        | false =>
          rw [hdx] at t0
          have HW : Hid (free g p = .error 11) := Lib.hid (by rw [hfree]; unfold kind; rw [HL.out]; simp [hdx])
          clear hfree hT hm hdx
          go_wp2_with fail
          go_ret
          exact ⟨by rw [HW.out]; rfl, HB3.out⟩
        | true =>
          rw [hdx] at t0
          have hgo : go g 0 ini = some x := by
            have := HL.out
            rw [← HQ.out, leads_join (fun q hq => HOK.out q (List.mem_append_left _ hq))] at this
            exact go_walk.1 this
          have hgo2 : go g 0 (ini ++ [nm]) = look (entsOf g x) nm := by rw [go_snoc, hgo]; rfl
          have hof : ofR E p = goI (look (entsOf g x) nm) := by rw [← HJ.out, HR.out.of_go HI.out HOK.out, hgo2]
          have hkind : kind g q true = .ok x := by unfold kind; rw [HL.out]; simp [hdx]
          rw [hkind] at hfree
          simp only at hfree
          cases hlk : look (entsOf g x) nm with
          | some y =>
            rw [hlk] at hof hfree
            have HW : Hid (free g p = .error 9) := Lib.hid hfree
            have HOF : Hid (ofR E p = (y : Int)) := Lib.hid hof
            have hge : (0 : Int) ≤ (y : Int) := by omega
            clear hfree hT hm hdx hgo hgo2 hof hkind hlk
            go_wp2_with (first | (go_at_call 90; refine (of_at HK3.out hE p y HOF.out).mono ?_; rintro e w8 ⟨rfl, rfl⟩))
            go_ret
            exact ⟨by rw [HW.out]; rfl, HB3.out⟩
          | none =>
            rw [hlk] at hof hfree
            have HW : Hid (free g p = .ok (x, nm)) := Lib.hid hfree
            have HOF : Hid (ofR E p = -1) := Lib.hid hof
            clear hfree hT hm hdx hgo hgo2 hof hkind hlk
            go_wp2_with (first | (go_at_call 90; refine (of_at HK3.out hE p (-1) HOF.out).mono ?_; rintro e w8 ⟨rfl, rfl⟩))
            go_ret
            exact ⟨by rw [HW.out]; rfl, HB3.out⟩
end Go.Proofs.YtaccokghjpcijaaGreatDoor
set_option linter.unusedVariables false
set_option linter.unusedSimpArgs false
namespace Go.Proofs.YtaccokghjpcijaaGreatDoor
open Go Go.RowKit Pp Go.Proofs.YtaccokghjpcijaaGreatDoorW.PrintWords

def cntR (E : List (Str × Nat)) (x : Nat) : Nat := E.countP fun e => decide (e.2 = x)
theorem cntR_snoc {E : List (Str × Nat)} {k : Nat} {e : Str × Nat} (he : E[k]? = some e) (x : Nat) : cntR (E.take (k + 1)) x = cntR (E.take k) x + if e.2 = x then 1 else 0 := by
  obtain ⟨h1, h2⟩ := List.getElem?_eq_some_iff.1 he
  unfold cntR
  rw [List.take_succ_eq_append_getElem h1, List.countP_append, h2, List.countP_singleton]
  by_cases h : e.2 = x <;> simp [h]
theorem KRel.links {g : St} {E : List (Str × Nat)} {T : List (Bool × Str)} (r : KRel g E T) (x : Nat) : (cntR E x : Int) = (g.node x).links := by
  obtain ⟨En, hr, rfl⟩ := r.ex
  rw [hr.links]
  unfold cntR cnt jE
  rw [List.countP_map]
  rfl
set_option maxRecDepth 100000 in
set_option maxHeartbeats 2000000 in
theorem klinks_calls {W : World} {G : Nat → Prop} {n0 kb : Nat} {E : List (Str × Nat)} {T : List (Bool × Str)} (h : KM W G n0 kb E T) (hE : E.length ≤ 1000000) (x : Nat) :
    Calls Tryz.prog 52 #[.pointer (some ⟨kb, 0, none⟩), .int .i64 x] W fun e W' => e = .returned (.int .i64 (cntR E x)) ∧ W' = W := by
  obtain ⟨vE, vT, hs⟩ := h
  obtain ⟨A, c, B, d, _, _, hc, _, c0, c1, hEs, _⟩ := hs.open_
  have HE := Lib.hid hEs
  obtain ⟨n, hn⟩ : ∃ n, E.length = n := ⟨_, rfl⟩
  rw [hn] at c0 hc hE
  have HN := Lib.hid hn
  clear hs hEs c1 hn
  go_enter Tryz.func52, Tryz.ntmps52
  go_wp2_with fail
  go_loopw [5, 6] (fun s i W' => ∃ (k q : Nat), k ≤ n ∧ q ≤ k ∧ i = .int .i64 k ∧ s = .int .i64 q ∧ W' = W ∧ Hid (q = cntR (E.take k) x)) (fun _ i _ => n - (intOf i).toNat)
  case atStart => exact ⟨0, 0, Nat.zero_le _, Nat.le_refl _, rfl, rfl, rfl, Lib.hid rfl⟩
  case round =>
    obtain ⟨k, q, hk, hqk, rfl, rfl, rfl, HO⟩ := hrel
    by_cases hlt : k < n
    · obtain ⟨e, he⟩ : ∃ e, E[k]? = some e := ⟨_, List.getElem?_eq_getElem (by have := HN.out; omega)⟩
      obtain ⟨ad, had, x0, x1⟩ := HE.out k e he
      have HS := Lib.hid (cntR_snoc he x)
      have z0 : (0 : Int) ≤ (k : Int) := by omega
      have z1 : (k : Int) < (n : Int) := by omega
      have z2 : (k : Int) < (c : Int) := by omega
      subst had
      by_cases hq : e.2 = x
      · have hb2 : ((e.2 : Int) == (x : Int)) = true := beq_iff_eq.2 (by rw [hq])
        have HQ : Hid (q + 1 = cntR (E.take (k + 1)) x) := Lib.hid (by rw [HS.out, if_pos hq, HO.out])
        clear hq he x0
        go_wp2_with fail
        go_roundw
        case rel => exact ⟨k + 1, q + 1, by omega, by omega, by go_num, by go_num, trivial, HQ⟩
        case measure => simp [intOf]; omega
      · have hb2 : ((e.2 : Int) == (x : Int)) = false := beq_eq_false_iff_ne.2 (by omega)
        have HQ : Hid (q = cntR (E.take (k + 1)) x) := Lib.hid (by rw [HS.out, if_neg hq, HO.out]; rfl)
        clear hq he x0
        go_wp2_with fail
        go_roundw
        case rel => exact ⟨k + 1, q, by omega, by omega, by go_num, by go_num, trivial, HQ⟩
        case measure => simp [intOf]; omega
    · obtain rfl : k = n := by omega
      have HQ : Hid (cntR E x = q) := Lib.hid (by rw [HO.out, List.take_of_length_le (by have := HN.out; omega)])
      clear hlt
      go_wp2_with fail
      go_ret
      exact ⟨by rw [HQ.out]; rfl, rfl⟩
end Go.Proofs.YtaccokghjpcijaaGreatDoor
set_option linter.unusedVariables false
set_option linter.unusedSimpArgs false
namespace Go.Proofs.YtaccokghjpcijaaGreatDoor
open Go Go.RowKit Pp Go.Proofs.YtaccokghjpcijaaGreatDoorW.PrintWords

theorem Tryz.infoEntry : (Tryz.prog.info? 107).map (fun i => (i.zero, i.size, i.bytes)) = some (some (.agg #[.string ⟨#[]⟩, .int .i64 0]), 2, 24) := by kernel_rfl
theorem Tryz.infoThing17 : (Tryz.prog.info? 73).map (fun i => (i.zero, i.size, i.bytes)) = some (some (.agg #[.bool false, .string ⟨#[]⟩]), 2, 24) := by kernel_rfl
theorem cells_new (w : World) (cs : Array Value) (t : TypeId) : ∀ j u, cs.toList[j]? = some u → (w.alloc (.cells cs t)).cell? ((⟨w.heap.size, 0, none⟩ : Addr).add j) = some u := fun j u h => heap_add (heap_alloc_new w _) j u (by simpa using h)
/-- Behind what turns the document's tree. -/
def KPost (W : World) (G : Nat → Prop) (n0 kb : Nat) (E : List (Str × Nat)) (T : List (Bool × Str)) (W' : World) : Prop := ∃ G', KM W' G' n0 kb E T ∧ Ext G W G' W'
section
variable {W wr : World} {G : Nat → Prop} {n0 kb : Nat} {E E' : List (Str × Nat)} {T T' : List (Bool × Str)} {vE vE' vT vT' vO : Value}
theorem KMs.putE (h : KMs W G n0 kb E T vE vT) (hf : Fr G W wr) (hroot : wr.heap[kb]? = some (.cells #[vE', vT] 77 (0, 0))) (hT : wr.ownsRow n0 73 2 vT T.length (cellsT T))
    (hO : wr.ownsRow n0 107 2 vO E'.length (cellsE E')) (hnew : ∀ b, vO.ownBlock = some b → G b ∨ W.heap.size ≤ b) : KPost W G n0 kb E' T (wr.setCell ⟨kb, 0, none⟩ vO) := by
  have ne1 : ∀ b, vO.ownBlock = some b → b ≠ kb := fun b hb e => by
    obtain ⟨cs, hcs⟩ := own_typed hO b hb
    rw [e, hroot] at hcs
    simp at hcs
  have ne2 : ∀ b, vT.ownBlock = some b → b ≠ kb := fun b hb e => by
    obtain ⟨cs, hcs⟩ := own_typed hT b hb
    rw [e, hroot] at hcs
    simp at hcs
  refine ⟨fun b => b = kb ∨ vO.ownBlock = some b ∨ vT.ownBlock = some b, ⟨vO, vT, ?_, own_same hO (fun b hb => Below.heap_setCell _ _ _ _ (ne1 b hb)), own_same hT (fun b hb => Below.heap_setCell _ _ _ _ (ne2 b hb)), h.low, fun b => Iff.rfl⟩, hf.trans (Fr.cell (p := ⟨kb, 0, none⟩) _ ((h.mem kb).2 (.inl rfl))), fun b hb => ?_⟩
  · rw [heap_setCell_same _ _ 0 _ _ _ hroot]
    rfl
  · rcases hb with rfl | hb | hb
    · exact .inl ((h.mem _).2 (.inl rfl))
    · exact hnew b hb
    · exact .inl ((h.mem b).2 (.inr (.inr hb)))
theorem KMs.putT (h : KMs W G n0 kb E T vE vT) (hf : Fr G W wr) (hroot : wr.heap[kb]? = some (.cells #[vE, vT'] 77 (0, 0))) (hE : wr.ownsRow n0 107 2 vE E.length (cellsE E))
    (hO : wr.ownsRow n0 73 2 vO T'.length (cellsT T')) (hnew : ∀ b, vO.ownBlock = some b → G b ∨ W.heap.size ≤ b) : KPost W G n0 kb E T' (wr.setCell ⟨kb, 1, none⟩ vO) := by
  have ne1 : ∀ b, vO.ownBlock = some b → b ≠ kb := fun b hb e => by
    obtain ⟨cs, hcs⟩ := own_typed hO b hb
    rw [e, hroot] at hcs
    simp at hcs
  have ne2 : ∀ b, vE.ownBlock = some b → b ≠ kb := fun b hb e => by
    obtain ⟨cs, hcs⟩ := own_typed hE b hb
    rw [e, hroot] at hcs
    simp at hcs
  refine ⟨fun b => b = kb ∨ vE.ownBlock = some b ∨ vO.ownBlock = some b, ⟨vE, vO, ?_, own_same hE (fun b hb => Below.heap_setCell _ _ _ _ (ne2 b hb)), own_same hO (fun b hb => Below.heap_setCell _ _ _ _ (ne1 b hb)), h.low, fun b => Iff.rfl⟩, hf.trans (Fr.cell (p := ⟨kb, 1, none⟩) _ ((h.mem kb).2 (.inl rfl))), fun b hb => ?_⟩
  · rw [heap_setCell_same _ _ 1 _ _ _ hroot]
    rfl
  · rcases hb with rfl | hb | hb
    · exact .inl ((h.mem _).2 (.inl rfl))
    · exact .inl ((h.mem b).2 (.inr (.inl hb)))
    · exact hnew b hb
end
theorem cellsE_snoc (D : List (Str × Nat)) (e : Str × Nat) : cellsE (D ++ [e]) = cellsE D ++ [.string (mk e.1), .int .i64 e.2] := by unfold cellsE; rw [List.flatMap_append]; rfl
theorem cellsT_snoc (D : List (Bool × Str)) (e : Bool × Str) : cellsT (D ++ [e]) = cellsT D ++ [.bool e.1, .string (mk e.2)] := by unfold cellsT; rw [List.flatMap_append]; rfl
def dropR (E : List (Str × Nat)) (p : Str) : List (Str × Nat) := E.filter fun e => !decide (e.1 = p)
theorem dropR_snoc {E : List (Str × Nat)} {k : Nat} {e : Str × Nat} (he : E[k]? = some e) (p : Str) : dropR (E.take (k + 1)) p = dropR (E.take k) p ++ if e.1 = p then [] else [e] := by
  obtain ⟨h1, h2⟩ := List.getElem?_eq_some_iff.1 he
  unfold dropR
  rw [List.take_succ_eq_append_getElem h1, List.filter_append, h2]
  by_cases h : e.1 = p <;> simp [h]
theorem dropR_len (E : List (Str × Nat)) (k : Nat) (p : Str) : (dropR (E.take k) p).length ≤ E.length := Nat.le_trans (List.length_filter_le _ _) (by rw [List.length_take]; omega)
set_option maxRecDepth 100000 in
set_option maxHeartbeats 4000000 in
theorem kdrop_calls {W : World} {G : Nat → Prop} {n0 kb : Nat} {E : List (Str × Nat)} {T : List (Bool × Str)} (h : KM W G n0 kb E T) (hE : E.length ≤ 1000000) (hn0 : n0 ≤ W.heap.size) (p : Str) :
    Calls Tryz.prog 74 #[.pointer (some ⟨kb, 0, none⟩), .string (mk p)] W fun e W' => e = .returned (.tuple #[]) ∧ KPost W G n0 kb (dropR E p) T W' := by
  obtain ⟨vE, vT, hs⟩ := h
  obtain ⟨A, c, B, d, hvE, hvT, hc, _, c0, c1, hEs, _⟩ := hs.open_
  have HE := Lib.hid hEs
  have HKS := Lib.hid hs
  have HVE := Lib.hid hvE
  have tp := mk_list p
  obtain ⟨n, hn⟩ : ∃ n, E.length = n := ⟨_, rfl⟩
  rw [hn] at c0 hc hE
  have HN := Lib.hid hn
  have HC0 := Lib.hid c0
  obtain ⟨i0, hi, hz0, hz1, hz2⟩ := info_parts Tryz.infoEntry
  clear hs hEs c1 hn hvE hvT c0
  go_enter Tryz.func74, Tryz.ntmps74
  go_wp2_with fail
  go_loopw [4, 5] (fun s i W' => ∃ (k : Nat), k ≤ n ∧ i = .int .i64 k ∧ Hid (Below W.heap.size W W' ∧ W'.ownsRow W.heap.size 107 2 s (dropR (E.take k) p).length (cellsE (dropR (E.take k) p)))) (fun _ i _ => n - (intOf i).toNat)
  case atStart => exact ⟨0, Nat.zero_le _, rfl, Lib.hid ⟨Below.refl _ _, World.ownsRow_nil _ _ _ _⟩⟩
  case round =>
    obtain ⟨k, hk, rfl, HO⟩ := hrel
    obtain ⟨hB, hO⟩ := HO.out
    have HB := Lib.hid hB
    have HOw := Lib.hid hO
    have c0r := pw_cell_below hB HC0.out
    obtain ⟨A1, c1, hv1, hc1⟩ := own_form hO
    subst hv1
    obtain ⟨nd, hnd⟩ : ∃ m, (dropR (E.take k) p).length = m := ⟨_, rfl⟩
    have hndl : nd ≤ 1000000 := by have h1 := dropR_len E k p; have := HN.out; omega
    rw [hnd] at HOw ⊢
    have HND := Lib.hid hnd
    by_cases hlt : k < n
    · obtain ⟨e, he⟩ : ∃ e, E[k]? = some e := ⟨_, List.getElem?_eq_getElem (by have := HN.out; omega)⟩
      obtain ⟨ad, had, x0, x1⟩ := HE.out k e he
      have y0 := pw_cell_below hB x0
      have y1 := pw_cell_below hB x1
      have HS := Lib.hid (dropR_snoc he p)
      have te := mk_list e.1
      have z0 : (0 : Int) ≤ (k : Int) := by omega
      have z1 : (k : Int) < (n : Int) := by omega
      have z2 : (k : Int) < (c : Int) := by omega
      subst had
      by_cases hq : e.1 = p
      · have hb2 : (e.1 == p) = true := beq_iff_eq.2 hq
        have HQ : Hid (dropR (E.take (k + 1)) p = dropR (E.take k) p) := Lib.hid (by rw [HS.out, if_pos hq, List.append_nil])
        clear hq he x0 x1 hB hO hnd
        go_wp2_with fail
        go_roundw
        case rel => exact ⟨k + 1, by omega, by go_num, Lib.hid ⟨HB.out, by rw [HQ.out, HND.out]; exact HOw.out⟩⟩
        case measure => simp [intOf]; omega
      · have hb2 : (e.1 == p) = false := beq_eq_false_iff_ne.2 hq
        have HQ : Hid (dropR (E.take (k + 1)) p = dropR (E.take k) p ++ [e]) := Lib.hid (by rw [HS.out, if_neg hq])
        clear hq he x0 x1 hB hO hnd
        go_wp2_with (at_builtin; refine wpList_append_own _ rfl _ _ 75 rfl W.heap.size 107 i0 (.agg #[.string ⟨#[]⟩, .int .i64 0]) 2 24 Tryz.underlying75 hi hz0 hz1 hz2 rfl (by decide) (.slice A1 nd c1) nd (cellsE (dropR (E.take k) p)) rfl (HOw.out.alloc _) ⟨wr.heap.size, 0, none⟩ 1 1 [.string (mk e.1), .int .i64 e.2] rfl rfl (cells_new _ _ _) (by simp [Value.oneCell']) (by unfold maxLen; omega) (by omega) (by rw [World.size_alloc]; have := HB.out.size; omega) ?_; intro v3 w3 hown hgrow _; have HO3 := Lib.hid hown; have HB3 := Lib.hid (Below.grown (balloc HB.out) hgrow (by rw [World.size_alloc]; have := HB.out.size; omega) (fun q e => (HOw.out.lt q e).1)); clear hown hgrow)
        go_roundw
        case rel => exact ⟨k + 1, by omega, by go_num, Lib.hid ⟨HB3.out, by rw [HQ.out, List.length_append, HND.out, cellsE_snoc]; exact HO3.out⟩⟩
        case measure => simp [intOf]; omega
    · obtain rfl : k = n := by omega
      have htk : E.take k = E := List.take_of_length_le (by have := HN.out; omega)
      rw [htk] at HOw
      have HND2 : Hid ((dropR E p).length = nd) := Lib.hid (by rw [← htk]; exact HND.out)
      have hroot := HKS.out.root
      have hroot2 := (hB.block _ (some_lt hroot)).trans hroot
      have hfz := frozen_of_row _ _ 0 _ _ hroot2
      have HROOT := Lib.hid hroot2
      clear hlt htk hO hB hroot hroot2 hnd
      go_wp2_with fail
      go_end0
      exact ⟨rfl, HKS.out.putE (Fr.of_below HB.out) HROOT.out (own_same HKS.out.oT (fun b hb => HB.out.block b (HKS.out.lt b ((HKS.out.mem b).2 (.inr (.inr hb)))).1)) (by rw [HND2.out]; exact HOw.out.mono hn0) (fun b hb => .inr (HOw.out.lt b hb).1)⟩
end Go.Proofs.YtaccokghjpcijaaGreatDoor
set_option linter.unusedVariables false
set_option linter.unusedSimpArgs false
namespace Go.Proofs.YtaccokghjpcijaaGreatDoor
open Go Go.RowKit Pp Go.Proofs.YtaccokghjpcijaaGreatDoorW.PrintWords

theorem add_zero_base (b k : Nat) : (⟨b, 0, none⟩ : Addr).add k = ⟨b, k, none⟩ := by
  unfold Addr.add
  split
  · rename_i h0; subst h0; rfl
  · simp
section
variable {W : World} {G : Nat → Prop} {n0 kb : Nat} {E : List (Str × Nat)} {T : List (Bool × Str)} {vE vT : Value}
theorem KMs.far {x y : Nat → Prop} (h : KMs W G n0 kb E T vE vT) : (∀ b, vE.ownBlock = some b → b ≠ kb) ∧ (∀ b, vT.ownBlock = some b → b ≠ kb) ∧ ∀ b, vE.ownBlock = some b → vT.ownBlock = some b → False := by
  refine ⟨fun b hb e => ?_, fun b hb e => ?_, fun b hb hb' => ?_⟩
  · obtain ⟨cs, hcs⟩ := own_typed h.oE b hb
    rw [e, h.root] at hcs
    simp at hcs
  · obtain ⟨cs, hcs⟩ := own_typed h.oT b hb
    rw [e, h.root] at hcs
    simp at hcs
  · obtain ⟨cs, hcs⟩ := own_typed h.oE b hb
    obtain ⟨ds, hds⟩ := own_typed h.oT b hb'
    rw [hcs] at hds
    simp at hds
/-- An entry, and a store of its path. -/
theorem KMs.slotE (h : KMs W G n0 kb E T vE vT) {i : Nat} {e : Str × Nat} (hi : E[i]? = some e) : ∃ ad c, E.length ≤ c ∧ W.cell? ⟨kb, 0, none⟩ = some (.slice (some ad) E.length c) ∧ W.cell? (ad.add (i * 2)) = some (.string (Go.Proofs.YtaccokghjpcijaaGreatDoor.mk e.1)) ∧ W.frozen? (ad.add (i * 2)) = false ∧
    ∀ s, KMs (W.setCell (ad.add (i * 2)) (.string (Go.Proofs.YtaccokghjpcijaaGreatDoor.mk s))) G n0 kb (E.set i (s, e.2)) T vE vT ∧ Fr G W (W.setCell (ad.add (i * 2)) (.string (Go.Proofs.YtaccokghjpcijaaGreatDoor.mk s))) := by
  have hlt : i < E.length := (List.getElem?_eq_some_iff.1 hi).1
  obtain ⟨f1, f2, f3⟩ := h.far (x := fun _ => True) (y := fun _ => True)
  obtain ⟨g, cap, hv, hb, hg⟩ := h.oE.form (by omega)
  have hE := h.oE
  rw [hv] at hE
  have hgk : g ≠ kb := f1 g (by rw [hv]; rfl)
  obtain ⟨A, c, e1, hc⟩ := own_form h.oE
  rw [hv] at e1
  injection e1 with e1 e2 e3
  have hroot := h.root
  rw [hv] at hroot
  refine ⟨⟨g, 0, none⟩, cap, by omega, heap_cell hroot 0 _ rfl, ?_, ?_, fun s => ⟨?_, ?_⟩⟩
  · have := h.oE.cells (g := g) (by rw [hv]; rfl) (i * 2 + 0) (.string (Go.Proofs.YtaccokghjpcijaaGreatDoor.mk e.1)) ((flat_at eV_len E i e hi 0 (by omega)).trans rfl)
    exact this
  · rw [add_zero_base]
    exact hE.frozenAt _
  · rw [add_zero_base]
    obtain ⟨hs, _⟩ := hE.stored (i * 2) (.string (Go.Proofs.YtaccokghjpcijaaGreatDoor.mk s))
    refine { root := ?_, oE := ?_, oT := own_same h.oT (fun b hb => Below.heap_setCell _ _ _ _ (fun e => f3 b (by rw [hv, e]; rfl) hb)), low := h.low, mem := h.mem }
    · rw [Below.heap_setCell _ _ _ _ (fun e => hgk e.symm)]
      exact h.root
    · rw [hv]
      have hfl := flat_set (f := eV) eV_len 0 (by omega) E i e (s, e.2) (.string (Go.Proofs.YtaccokghjpcijaaGreatDoor.mk s)) hi rfl
      rw [Nat.add_zero] at hfl
      unfold cellsE at hs ⊢
      rw [hfl] at hs
      rw [List.length_set]
      exact hs
  · rw [add_zero_base]
    exact Fr.cell (p := ⟨g, i * 2, none⟩) _ ((h.mem g).2 (.inr (.inl (by rw [hv]; rfl))))
/-- A thing, and a store of its bytes. -/
theorem KMs.slotT (h : KMs W G n0 kb E T vE vT) {i : Nat} {t : Bool × Str} (hi : T[i]? = some t) : ∃ ad d, T.length ≤ d ∧ W.cell? ⟨kb, 1, none⟩ = some (.slice (some ad) T.length d) ∧ W.cell? (ad.add (i * 2)) = some (.bool t.1) ∧ W.cell? ⟨(ad.add (i * 2)).block, (ad.add (i * 2)).off + 1, none⟩ = some (.string (Go.Proofs.YtaccokghjpcijaaGreatDoor.mk t.2)) ∧ W.frozen? ⟨(ad.add (i * 2)).block, (ad.add (i * 2)).off + 1, none⟩ = false ∧
    ∀ s, KMs (W.setCell ⟨(ad.add (i * 2)).block, (ad.add (i * 2)).off + 1, none⟩ (.string (Go.Proofs.YtaccokghjpcijaaGreatDoor.mk s))) G n0 kb E (T.set i (t.1, s)) vE vT ∧ Fr G W (W.setCell ⟨(ad.add (i * 2)).block, (ad.add (i * 2)).off + 1, none⟩ (.string (Go.Proofs.YtaccokghjpcijaaGreatDoor.mk s))) := by
  have hlt : i < T.length := (List.getElem?_eq_some_iff.1 hi).1
  obtain ⟨f1, f2, f3⟩ := h.far (x := fun _ => True) (y := fun _ => True)
  obtain ⟨g, cap, hv, hb, hg⟩ := h.oT.form (by omega)
  have hT := h.oT
  rw [hv] at hT
  have hgk : g ≠ kb := f2 g (by rw [hv]; rfl)
  obtain ⟨A, c, e1, hc⟩ := own_form h.oT
  rw [hv] at e1
  injection e1 with e1 e2 e3
  have hroot := h.root
  rw [hv] at hroot
  have h0 := h.oT.cells (g := g) (by rw [hv]; rfl)
  refine ⟨⟨g, 0, none⟩, cap, by omega, heap_cell hroot 1 _ rfl, ?_, ?_, ?_, fun s => ⟨?_, ?_⟩⟩
  · exact h0 (i * 2 + 0) (.bool t.1) ((flat_at tV_len T i t hi 0 (by omega)).trans rfl)
  · have := h0 (i * 2 + 1) (.string (Go.Proofs.YtaccokghjpcijaaGreatDoor.mk t.2)) ((flat_at tV_len T i t hi 1 (by omega)).trans rfl)
    rw [add_zero_base] at this ⊢
    exact this
  · rw [add_zero_base]
    exact hT.frozenAt _
  · rw [add_zero_base]
    obtain ⟨hs, _⟩ := hT.stored (i * 2 + 1) (.string (Go.Proofs.YtaccokghjpcijaaGreatDoor.mk s))
    refine { root := ?_, oT := ?_, oE := own_same h.oE (fun b hb => Below.heap_setCell _ _ _ _ (fun e => f3 b hb (by rw [hv, e]; rfl))), low := h.low, mem := h.mem }
    · rw [Below.heap_setCell _ _ _ _ (fun e => hgk e.symm)]
      exact h.root
    · rw [hv]
      have hfl := flat_set (f := tV) tV_len 1 (by omega) T i t (t.1, s) (.string (Go.Proofs.YtaccokghjpcijaaGreatDoor.mk s)) hi rfl
      unfold cellsT at hs ⊢
      rw [hfl] at hs
      rw [List.length_set]
      exact hs
  · rw [add_zero_base]
    exact Fr.cell (p := ⟨g, i * 2 + 1, none⟩) _ ((h.mem g).2 (.inr (.inr (by rw [hv]; rfl))))
end
end Go.Proofs.YtaccokghjpcijaaGreatDoor
set_option linter.unusedVariables false
set_option linter.unusedSimpArgs false
namespace Go.Proofs.YtaccokghjpcijaaGreatDoor
open Go Go.RowKit Pp Go.Proofs.YtaccokghjpcijaaGreatDoorW.PrintWords Go.Proofs.YtaccokghjpcijaaGreatDoorW.PrintLast Go.Proofs.YtaccokghjpcijaaGreatDoorW.PrintMore

def renE (a b : Str) (e : Str × Nat) : Str × Nat := if within a e.1 = true then (b ++ e.1.drop a.length, e.2) else e
theorem part_at {α : Type} {f : α → α} {E : List α} {k : Nat} {e : α} (he : E[k]? = some e) : ((E.take k).map f ++ E.drop k)[k]? = some e := by
  have hk : k < E.length := (List.getElem?_eq_some_iff.1 he).1
  rw [List.getElem?_append_right (by rw [List.length_map, List.length_take]; omega), List.length_map, List.length_take, Nat.min_eq_left (by omega), Nat.sub_self, List.getElem?_drop, Nat.add_zero, he]
theorem part_len {α : Type} (f : α → α) (E : List α) (k : Nat) : ((E.take k).map f ++ E.drop k).length = E.length := by
  rw [List.length_append, List.length_map, List.length_take, List.length_drop]; omega
theorem part_set {α : Type} {f : α → α} {E : List α} {k : Nat} {e : α} (he : E[k]? = some e) : ((E.take k).map f ++ E.drop k).set k (f e) = (E.take (k + 1)).map f ++ E.drop (k + 1) := by
  obtain ⟨hk, h2⟩ := List.getElem?_eq_some_iff.1 he
  rw [List.set_append_right _ _ (by rw [List.length_map, List.length_take]; omega), List.length_map, List.length_take, Nat.min_eq_left (by omega), Nat.sub_self, List.drop_eq_getElem_cons hk, List.set_cons_zero, List.take_succ_eq_append_getElem hk, List.map_append, h2, List.append_assoc]
  rfl
theorem part_same {α : Type} {f : α → α} {E : List α} {k : Nat} {e : α} (he : E[k]? = some e) (hf : f e = e) : (E.take k).map f ++ E.drop k = (E.take (k + 1)).map f ++ E.drop (k + 1) := by
  rw [← part_set he, hf]
  generalize hL : (E.take k).map f ++ E.drop k = L
  have hp := part_at (f := f) he
  rw [hL] at hp
  apply List.ext_getElem?
  intro i
  rw [List.getElem?_set]
  by_cases hki : k = i
  · subst hki
    rw [if_pos rfl, if_pos (List.getElem?_eq_some_iff.1 hp).1, hp]
  · rw [if_neg hki]
theorem within_len {a b : Str} (h : within a b = true) : a.length ≤ b.length := by
  obtain ⟨k, l, hk, hl, hp⟩ := within_iff.1 h
  obtain ⟨r, rfl⟩ := hp
  have := join_take_length (k ++ r) k.length
  rw [List.take_left, join_split hk, join_split hl] at this
  exact this
set_option maxRecDepth 100000 in
set_option maxHeartbeats 4000000 in
theorem kren_calls {W : World} {G : Nat → Prop} {n0 kb : Nat} {E : List (Str × Nat)} {T : List (Bool × Str)} (h : KM W G n0 kb E T) (hE : E.length ≤ 1000000) (hm : ∀ e ∈ E, e.1.length ≤ 1000000) (a b : Str) (ha : a.length ≤ 4096) (hb : b.length ≤ 4096) :
    Calls Tryz.prog 72 #[.pointer (some ⟨kb, 0, none⟩), .string (mk a), .string (mk b)] W fun e W' => e = .returned (.tuple #[]) ∧ KPost W G n0 kb (E.map (renE a b)) T W' := by
  obtain ⟨vE, vT, hs⟩ := h
  have hza : (mk a).size = a.length := mk_size _
  have hzb : (mk b).size = b.length := mk_size _
  obtain ⟨n, hn⟩ : ∃ n, E.length = n := ⟨_, rfl⟩
  have HN := Lib.hid hn
  have HM := Lib.hid hm
  have HS0 : Hid (KMs W G n0 kb ((E.take 0).map (renE a b) ++ E.drop 0) T vE vT ∧ Fr G W W) := Lib.hid ⟨hs, Fr.refl _ _⟩
  rw [hn] at hE
  clear hs hn hm
  go_enter Tryz.func72, Tryz.ntmps72
  go_wp2_with fail
  go_loopw [6] (fun i W' => ∃ (k : Nat), k ≤ n ∧ i = .int .i64 k ∧ Hid (KMs W' G n0 kb ((E.take k).map (renE a b) ++ E.drop k) T vE vT ∧ Fr G W W')) (fun i _ => n - (intOf i).toNat)
  case atStart => exact ⟨0, Nat.zero_le _, rfl, HS0⟩
  case round =>
    obtain ⟨k, hk, rfl, HO⟩ := hrel
    obtain ⟨hO, hF⟩ := HO.out
    have HF := Lib.hid hF
    have HKr := Lib.hid hO
    clear hF
    by_cases hlt : k < n
    · obtain ⟨e, he⟩ : ∃ e, E[k]? = some e := ⟨_, List.getElem?_eq_getElem (by have := HN.out; omega)⟩
      obtain ⟨ad, c, hc, c0, x0, _, _⟩ := hO.slotE (part_at he)
      rw [part_len, HN.out] at hc c0
      have z0 : (0 : Int) ≤ (k : Int) := by omega
      have z1 : (k : Int) < (n : Int) := by omega
      have z2 : (k : Int) < (c : Int) := by omega
      have hel : e.1.length ≤ 1000000 := HM.out e (List.mem_of_getElem? he)
      have HE := Lib.hid he
      obtain ⟨wi, hwi⟩ : ∃ x, within a e.1 = x := ⟨_, rfl⟩
      have HWI := Lib.hid hwi
      clear hwi hO he
      go_wp2_with fail
      refine (refwithin_lit a e.1 wi HWI.out (by omega) (by omega) _).mono ?_
      rintro ee w5 ⟨rfl, hB⟩
      have HK5 := Lib.hid (HKr.out.below hB)
      have HF5 := Lib.hid (HF.out.trans (Fr.of_below hB))
      clear hB c0 x0
      cases wi with
      | false =>
        have HP := Lib.hid (part_same (f := renE a b) HE.out (by unfold renE; rw [if_neg (by rw [HWI.out]; simp)]))
        go_wp2_with fail
        go_roundw
        case rel => exact ⟨k + 1, by omega, by go_num, Lib.hid ⟨by rw [← HP.out]; exact HK5.out, HF5.out⟩⟩
        case measure => simp [intOf]; omega
      | true =>
        obtain ⟨s, hsx⟩ : ∃ s, b ++ e.1.drop a.length = s := ⟨_, rfl⟩
        have HP := Lib.hid (part_set (f := renE a b) HE.out)
        have HRE : Hid (renE a b e = (s, e.2)) := Lib.hid (by unfold renE; rw [if_pos HWI.out, hsx])
        have hle := within_len HWI.out
        obtain ⟨ad2, c2, hc2, d0, y0, yf, hst⟩ := HK5.out.slotE (part_at HE.out)
        rw [part_len, HN.out] at hc2 d0
        have HST := Lib.hid (hst s)
        have hze : (mk e.1).size = e.1.length := mk_size _
        have e3 : (mk e.1).extract a.length e.1.length = mk (e.1.drop a.length) := by rw [mk_extract, List.take_of_length_le (by rw [List.length_drop]; omega)]
        have hcat : mk b ++ mk (e.1.drop a.length) = mk s := by rw [mk_append, hsx]
        have hzd : (mk (e.1.drop a.length)).size = e.1.length - a.length := by rw [mk_size, List.length_drop]
        have z3 : (k : Int) < (c2 : Int) := by omega
        have z4 : (a.length : Int) ≤ (e.1.length : Int) := by omega
        have z5 : (0 : Int) ≤ (a.length : Int) := by omega
        clear hst hsx hle
        go_wp2_with fail
        go_region
        go_wp2_with fail
        go_roundw
        case rel => exact ⟨k + 1, by omega, by go_num, Lib.hid ⟨by rw [← HP.out, HRE.out]; exact HST.out.1.same (fun _ _ => rfl), HF5.out.trans HST.out.2.drew⟩⟩
        case measure => simp [intOf]; omega
    · obtain rfl : k = n := by omega
      obtain ⟨ad, c, B, d, hvE, _, hc, _, c0, _⟩ := hO.open_
      rw [part_len, HN.out] at c0
      have hEk : (E.take k).map (renE a b) ++ E.drop k = E.map (renE a b) := by rw [List.take_of_length_le (by have := HN.out; omega), List.drop_of_length_le (by have := HN.out; omega), List.append_nil]
      have HKF : Hid (KMs wr G n0 kb (E.map (renE a b)) T vE vT) := Lib.hid (hEk ▸ HKr.out)
      clear hEk hvE hlt hO
      go_wp2_with fail
      go_end0
      exact ⟨rfl, G, ⟨vE, vT, HKF.out⟩, HF.out, fun b hb => .inl hb⟩
end Go.Proofs.YtaccokghjpcijaaGreatDoor
set_option linter.unusedVariables false
set_option linter.unusedSimpArgs false
namespace Go.Proofs.YtaccokghjpcijaaGreatDoor
open Go Go.RowKit Go.Shelf Pp Go.Proofs.YtaccokghjpcijaaGreatDoorW.PrintWords

theorem bytesLess_lt : ∀ {x y : Str}, Op.bytesLess x y = true → x < y
  | x, [], h => by cases x <;> cases h
  | [], b :: y, _ => List.nil_lt_cons b y
  | a :: x, b :: y, h => by
    unfold Op.bytesLess at h
    rw [Bool.or_eq_true, Bool.and_eq_true, decide_eq_true_eq, beq_iff_eq] at h
    rcases h with h | ⟨h, h'⟩
    · exact List.cons_lt_cons_iff.2 (.inl h)
    · exact List.cons_lt_cons_iff.2 (.inr ⟨h, bytesLess_lt h'⟩)
theorem gtr_true {P : Program} {x y : Str} (h : y < x) (t : TypeId) (w : World) : (binOp .gtr t (.string (mk x)) (.string (mk y))).run P w = .ok (.bool true) w := by
  have h1 : Op.bytesLess x y = false := by
    cases e : Op.bytesLess x y with
    | false => rfl
    | true => exact absurd (bytesLess_lt e) (List.lt_asymm h)
  have h2 : (x == y) = false := beq_eq_false_iff_ne.2 (fun e => by rw [e] at h; exact List.lt_irrefl _ h)
  simp [binOp, Op.stringOp, mk_list, h1, h2]
theorem gtr_false {P : Program} {x y : Str} (h : ¬ y < x) (t : TypeId) (w : World) : (binOp .gtr t (.string (mk x)) (.string (mk y))).run P w = .ok (.bool false) w := by
  by_cases hxy : x = y
  · subst hxy; simp [binOp, Op.stringOp, mk_list]
  · have h1 : Op.bytesLess x y = true := bytesLess_of_lt (Std.lt_of_le_of_ne (List.not_lt.1 h) hxy)
    simp [binOp, Op.stringOp, mk_list, h1]
theorem svals_one (ns : List Str) : ∀ u ∈ svals ns, u.oneCell' = true := fun u hu => by
  unfold svals at hu
  obtain ⟨x, _, rfl⟩ := List.mem_map.1 hu
  rfl
def namesP (E : List (Str × Nat)) (p : Str) : List Str := (E.filter fun e => decide ((parentV e.1).1 = p)).map fun e => (parentV e.1).2.1
theorem namesP_snoc {E : List (Str × Nat)} {k : Nat} {e : Str × Nat} (he : E[k]? = some e) (p : Str) : namesP (E.take (k + 1)) p = namesP (E.take k) p ++ if (parentV e.1).1 = p then [(parentV e.1).2.1] else [] := by
  obtain ⟨h1, h2⟩ := List.getElem?_eq_some_iff.1 he
  unfold namesP
  rw [List.take_succ_eq_append_getElem h1, List.filter_append, List.map_append, h2]
  by_cases h : (parentV e.1).1 = p <;> simp [h]
theorem namesP_len (E : List (Str × Nat)) (k : Nat) (p : Str) : (namesP (E.take k) p).length ≤ E.length := by
  unfold namesP
  rw [List.length_map]
  exact Nat.le_trans (List.length_filter_le _ _) (by rw [List.length_take]; omega)
/-- Put in where it belongs. -/
theorem ins_sorted {D : List Str} {n : Str} {q : Nat} (hs : D.Pairwise (fun x y => x ≤ y)) (h1 : ∀ j y, q ≤ j → D[j]? = some y → n < y) (h2 : ∀ y, 0 < q → D[q - 1]? = some y → ¬ n < y) (hq : q ≤ D.length) : (D.take q ++ [n] ++ D.drop q).Pairwise (fun x y => x ≤ y) := by
  have hlow : ∀ x ∈ D.take q, x ≤ n := fun x hx => by
    obtain ⟨i, hi⟩ := List.getElem?_of_mem hx
    rw [List.getElem?_take] at hi
    split at hi
    · rename_i hiq
      obtain ⟨h3, h4⟩ := List.getElem?_eq_some_iff.1 hi
      have hq1 : q - 1 < D.length := by omega
      have hle : x ≤ D[q - 1] := by
        by_cases e : i = q - 1
        · subst e; rw [h4]; exact List.le_refl _
        · have := List.pairwise_iff_getElem.1 hs i (q - 1) h3 hq1 (by omega)
          rw [h4] at this
          exact this
      exact List.le_trans hle (List.not_lt.1 (h2 _ (by omega) (List.getElem?_eq_getElem hq1)))
    · cases hi
  have hup : ∀ y ∈ D.drop q, n ≤ y := fun y hy => by
    obtain ⟨i, hi⟩ := List.getElem?_of_mem hy
    rw [List.getElem?_drop] at hi
    exact List.le_of_lt (h1 _ y (by omega) hi)
  rw [List.pairwise_append, List.pairwise_append]
  refine ⟨⟨hs.sublist (List.take_sublist _ _), List.pairwise_singleton _ _, fun x hx y hy => ?_⟩, hs.sublist (List.drop_sublist _ _), fun x hx y hy => ?_⟩
  · rw [List.mem_singleton] at hy; subst hy; exact hlow x hx
  · rcases List.mem_append.1 hx with hx | hx
    · exact List.le_trans (hlow x hx) (hup y hy)
    · rw [List.mem_singleton] at hx; subst hx; exact hup y hy
theorem ins_perm {D : List Str} {n : Str} (q : Nat) : (D.take q ++ [n] ++ D.drop q).Perm (D ++ [n]) := by
  rw [List.append_assoc]
  have : (D.take q ++ ([n] ++ D.drop q)).Perm (n :: (D.take q ++ D.drop q)) := List.perm_middle
  rw [List.take_append_drop] at this
  exact this.trans (List.perm_append_singleton n D).symm
/-- What names has found. -/
structure NmOut (W : World) (D : List Str) (L : List Str) (s : Value) (W' : World) : Prop where
  below : Below W.heap.size W W'
  own : W'.ownsRow W.heap.size 9 1 s D.length (svals D)
  sorted : D.Pairwise (fun x y => x ≤ y)
  perm : D.Perm L
  none : D = [] → s = .slice none 0 0
set_option maxRecDepth 100000 in
set_option maxHeartbeats 8000000 in
theorem knames_calls {W : World} {G : Nat → Prop} {n0 kb : Nat} {E : List (Str × Nat)} {T : List (Bool × Str)} (h : KM W G n0 kb E T) (hE : E.length ≤ 1000000) (hm : ∀ e ∈ E, e.1.length ≤ 1000000) (p : Str) :
    Calls Tryz.prog 73 #[.pointer (some ⟨kb, 0, none⟩), .string (mk p)] W fun e W' => ∃ D s, e = .returned s ∧ NmOut W D (namesP E p) s W' := by
  obtain ⟨vE, vT, hs⟩ := h
  obtain ⟨A, c, B, d, hvE, hvT, hc, _, c0, c1, hEs, _⟩ := hs.open_
  have HE := Lib.hid hEs
  have tp := mk_list p
  obtain ⟨n, hn⟩ : ∃ n, E.length = n := ⟨_, rfl⟩
  rw [hn] at c0 hc hE
  have HN := Lib.hid hn
  have HC0 := Lib.hid c0
  have HM := Lib.hid hm
  obtain ⟨i0, hi, hz0, hz1, hz2⟩ := info_parts Tryz.infoStr
  clear hs hEs c1 hn hvE hvT c0 hm
  go_enter Tryz.func73, Tryz.ntmps73
  go_wp2_with fail
  go_loopw [5, 6, 7, 8, 9, 10, 11] (fun s i _ _ _ _ _ W' => ∃ (k : Nat), k ≤ n ∧ i = .int .i64 k ∧ Hid (∃ D, NmOut W D (namesP (E.take k) p) s W')) (fun _ i _ _ _ _ _ _ => n - (intOf i).toNat)
  case atStart => exact ⟨0, Nat.zero_le _, rfl, Lib.hid ⟨[], Below.refl _ _, World.ownsRow_nil _ _ _ _, List.Pairwise.nil, List.Perm.refl _, fun _ => rfl⟩⟩
  case round =>
    obtain ⟨k, hk, rfl, HO⟩ := hrel
    obtain ⟨D, hO⟩ := HO.out
    have HOut := Lib.hid hO
    have c0r := pw_cell_below hO.below HC0.out
    have hDl : D.length ≤ n := by rw [hO.perm.length_eq]; have := namesP_len E k p; have := HN.out; omega
    by_cases hlt : k < n
    · obtain ⟨e, he⟩ : ∃ e, E[k]? = some e := ⟨_, List.getElem?_eq_getElem (by have := HN.out; omega)⟩
      obtain ⟨ad, had, x0, x1⟩ := HE.out k e he
      have y0 := pw_cell_below hO.below x0
      have HS := Lib.hid (namesP_snoc he p)
      have z0 : (0 : Int) ≤ (k : Int) := by omega
      have z1 : (k : Int) < (n : Int) := by omega
      have z2 : (k : Int) < (c : Int) := by omega
      have hel : e.1.length ≤ 1000000 := HM.out e (List.mem_of_getElem? he)
      obtain ⟨⟨pp, nm, pc⟩, hpv⟩ : ∃ x, parentV e.1 = x := ⟨_, rfl⟩
      rw [hpv] at HS
      simp only at HS
      have HPV := Lib.hid hpv
      have tpp := mk_list pp
      subst had
      clear hpv x0 x1 he hO
      go_wp2_with fail
      refine (refparent_lit e.1 pp nm pc HPV.out (by omega) _).mono ?_
      rintro ee w5 ⟨rfl, hB5⟩
      have hO5 : NmOut W D (namesP (E.take k) p) u5 w5 := ⟨bstep HOut.out.below hB5, own_same HOut.out.own (fun b hb => hB5.block b (HOut.out.own.lt b hb).2), HOut.out.sorted, HOut.out.perm, HOut.out.none⟩
      obtain ⟨A5, c5, hv5, hc5⟩ := own_form hO5.own
      subst hv5
      obtain ⟨m, hm⟩ : ∃ m, D.length = m := ⟨_, rfl⟩
      rw [hm] at hDl hc5 ⊢
      have HDM := Lib.hid hm
      have HO5 : Hid (NmOut W D (namesP (E.take k) p) (.slice A5 m c5) w5) := Lib.hid (by rw [← hm]; exact hO5)
      obtain ⟨B5, hBB⟩ : ∃ b, w5.heap.size = b := ⟨_, rfl⟩
      clear hO5 hm hB5 y0 HOut c0r
      by_cases hpp : pp = p
      · have hb2 : (pp == p) = true := beq_iff_eq.2 hpp
        have HQ : Hid (namesP (E.take (k + 1)) p = namesP (E.take k) p ++ [nm]) := Lib.hid (by rw [HS.out, if_pos hpp])
        clear hpp
        go_wp2_with fail
        go_loopw [10] (fun i W' => ∃ q : Nat, q ≤ m ∧ i = .int .i64 q ∧ W' = w5 ∧ Hid (∀ j y, q ≤ j → D[j]? = some y → nm < y)) (fun i _ => (intOf i).toNat)
        case atStart => exact ⟨m, Nat.le_refl _, rfl, rfl, Lib.hid (fun j y hj hy => by have := (List.getElem?_eq_some_iff.1 hy).1; have := HDM.out; omega)⟩
        case round =>
          obtain ⟨q, hqm, rfl, rfl, HJ⟩ := hrel
          by_cases hq0 : q = 0
          · have H2 : Hid (∀ y, 0 < q → D[q - 1]? = some y → ¬ nm < y) := Lib.hid (fun y h => by omega)
            have hz : ¬ (0 : Int) < (q : Int) := by omega
            have hzd : decide ((0 : Int) < (q : Int)) = false := decide_eq_false hz
            by_cases hm0 : m = 0
            · have hD : D = [] := List.eq_nil_of_length_eq_zero (by have := HDM.out; omega)
              have hnil := HO5.out.none hD
              injection hnil with e1 e2 e3
              subst hD e1 e3 hm0 hq0 hBB
              clear hz hzd
              go_wp2_with (at_builtin; first | (refine wpList_append_own_none rfl _ _ 30 rfl wr.heap.size 9 i0 1 Tryz.underlying30 hi (.slice none 0 0) 0 [] rfl (World.ownsRow_nil _ _ _ _) rfl ?_) | (refine wpList_append_own _ rfl _ _ 30 rfl wr.heap.size 9 i0 (.string ⟨#[]⟩) 1 16 Tryz.underlying30 hi hz0 hz1 hz2 rfl (by decide) (.slice none 0 0) 0 [] rfl (World.ownsRow_nil _ _ _ _) ⟨wr.heap.size, 0, none⟩ 1 1 [.string (mk nm)] rfl rfl (cell_one_new _ _ _) (svals_one [nm]) (by unfold maxLen; omega) (by omega) (by rw [World.size_alloc]; omega) ?_; intro v4 w4 hown4 hgrow4 _; obtain ⟨A4, c4, rfl⟩ := own_slice hown4; have HB4 := Lib.hid (Below.grown (balloc (Below.refl wr.heap.size wr)) hgrow4 (by rw [World.size_alloc]; omega) (fun k e => by cases e)); have HO4 := Lib.hid hown4; clear hown4 hgrow4) | (refine wpList_append_own_none rfl _ _ 30 rfl wr.heap.size 9 i0 1 Tryz.underlying30 hi (.slice A4 1 c4) 1 [.string (mk nm)] rfl HO4.out (by first | rfl | (simp [Act.eval]; done)) ?_))
              go_roundw
              case rel => exact ⟨k + 1, by omega, by go_num, Lib.hid ⟨[nm], {
                below := bstep HO5.out.below HB4.out
                own := HO4.out.mono HO5.out.below.size
                sorted := List.pairwise_singleton _ _
                perm := by rw [HQ.out]; exact HO5.out.perm.append_right [nm]
                none := fun e => by cases e }⟩⟩
              case measure => simp [intOf]; omega
            · obtain ⟨g, cap, hv, hgb, hgl⟩ := HO5.out.own.form (by have := HDM.out; omega)
              injection hv with e1 e2 e3
              subst e1 e3
              have hm1 : 0 < m := by omega
              clear hq0 e2
              have hcc : ∀ j u, (svals D)[j]? = some u → wr.cell? ((⟨g, 0, none⟩ : Addr).add j) = some u := HO5.out.own.cells (g := g) rfl
              have HCT : Hid (∀ j u, (svals (D.take q))[j]? = some u → wr.cell? ((⟨g, 0, none⟩ : Addr).add j) = some u) := Lib.hid (fun j u hu => hcc j u (by unfold svals at hu ⊢; rw [List.map_take, List.getElem?_take] at hu; split at hu; exact hu; cases hu))
              obtain ⟨ad2, hif, had2⟩ : ∃ a : Addr, (if c5 = q then some (⟨g, 0, none⟩ : Addr) else some ⟨g, q, none⟩) = some a ∧ (q < m → a = ⟨g, q, none⟩) := by
                by_cases e : c5 = q
                · exact ⟨⟨g, 0, none⟩, if_pos e, fun h => by omega⟩
                · exact ⟨⟨g, q, none⟩, if_neg e, fun _ => rfl⟩
              have HCD : Hid (∀ w4, Below B5 wr w4 → ∀ j u, (svals (D.drop q))[j]? = some u → w4.cell? (ad2.add j) = some u) := Lib.hid (fun w4 hB j u hu => by
                have hjl := (List.getElem?_eq_some_iff.1 hu).1
                rw [svals_length, List.length_drop] at hjl
                rw [had2 (by have := HDM.out; omega)]
                have h1 := hcc (q + j) u (by unfold svals at hu ⊢; rw [List.map_drop, List.getElem?_drop] at hu; exact hu)
                have h2 := (hB.cell (p := (⟨g, 0, none⟩ : Addr).add (q + j)) (by rw [add_zero_base]; show g < B5; omega)).trans h1
                rw [add_zero_base] at h2
                unfold Addr.add
                split
                · rename_i h0; subst h0; exact h2
                · exact h2)
              obtain rfl := had2 (by omega)
              clear hif
              have zq1 : (q : Int) ≤ (m : Int) := by omega
              have zq2 : (q : Int) ≤ (c5 : Int) := by omega
              have zq3 : (0 : Int) ≤ (q : Int) := by omega
              clear hcc
              go_wp2_with (at_builtin; first | (refine wpList_append_own _ rfl _ _ 30 rfl B5 9 i0 (.string ⟨#[]⟩) 1 16 Tryz.underlying30 hi hz0 hz1 hz2 rfl (by decide) (.slice none 0 0) 0 [] rfl (World.ownsRow_nil _ _ _ _) ⟨g, 0, none⟩ q c5 (svals (D.take q)) rfl (by rw [svals_length, List.length_take]; have := HDM.out; omega) HCT.out (svals_one _) (by unfold maxLen; omega) (by omega) (by omega) ?_; intro v3 w3 hown3 hgrow3 _; rw [Nat.zero_add, List.nil_append] at hown3; obtain ⟨A3, c3, rfl⟩ := own_slice hown3; have HB3 := Lib.hid (Below.grown (Below.refl B5 wr) hgrow3 (by omega) (fun k e => by cases e)); have HO3 := Lib.hid hown3; clear hown3 hgrow3) | (refine wpList_append_own _ rfl _ _ 30 rfl B5 9 i0 (.string ⟨#[]⟩) 1 16 Tryz.underlying30 hi hz0 hz1 hz2 rfl (by decide) (.slice A3 q c3) q (svals (D.take q)) rfl (HO3.out.alloc _) ⟨w3.heap.size, 0, none⟩ 1 1 [.string (mk nm)] rfl rfl (cell_one_new _ _ _) (by simp [Value.oneCell']) (by unfold maxLen; omega) (by omega) (by rw [World.size_alloc]; have := HB3.out.size; omega) ?_; intro v4 w4 hown4 hgrow4 _; obtain ⟨A4, c4, rfl⟩ := own_slice hown4; have HB4 := Lib.hid (Below.grown (HB3.out.alloc (by have := HB3.out.size; omega) _) hgrow4 (by rw [World.size_alloc]; have := HB3.out.size; omega) (fun k e => own_base HO3.out k e)); have HO4 := Lib.hid hown4; clear hown4 hgrow4) | (refine wpList_append_own _ rfl _ _ 30 rfl B5 9 i0 (.string ⟨#[]⟩) 1 16 Tryz.underlying30 hi hz0 hz1 hz2 rfl (by decide) (.slice A4 (q + 1) c4) (q + 1) (svals (D.take q) ++ [.string (mk nm)]) rfl HO4.out ⟨g, q, none⟩ (m - q) (c5 - q) (svals (D.drop q)) rfl (by rw [svals_length, List.length_drop]; have := HDM.out; omega) (by have := HCD.out w4 HB4.out; exact this) (svals_one _) (by unfold maxLen; omega) (by omega) (by have := HB4.out.size; omega) ?_; intro v6 w6 hown6 hgrow6 _; obtain ⟨A6, c6, rfl⟩ := own_slice hown6; have HB6 := Lib.hid (Below.grown HB4.out hgrow6 (by have := HB4.out.size; omega) (fun k e => own_base HO4.out k e)); have HO6 := Lib.hid hown6; clear hown6 hgrow6))
              go_roundw
              case rel => exact ⟨k + 1, by omega, by go_num, Lib.hid ⟨D.take q ++ [nm] ++ D.drop q, {
                below := bstep HO5.out.below (hBB ▸ HB6.out)
                own := by
                  have h6 := HO6.out
                  have hlen : (D.take q ++ [nm] ++ D.drop q).length = q + 1 + (m - q) := by rw [List.length_append, List.length_append, List.length_take, List.length_drop]; have := HDM.out; simp; omega
                  have hsv : svals (D.take q ++ [nm] ++ D.drop q) = svals (D.take q) ++ [.string (mk nm)] ++ svals (D.drop q) := by simp [svals]
                  rw [hlen, hsv]
                  exact h6.mono (by have := HO5.out.below.size; omega)
                sorted := ins_sorted HO5.out.sorted HJ.out H2.out (by have := HDM.out; omega)
                perm := by rw [HQ.out]; exact (ins_perm q).trans (HO5.out.perm.append_right _)
                none := fun e => by simp at e }⟩⟩
              case measure => simp [intOf]; omega
          · have hm0 : 0 < m := by omega
            obtain ⟨g, cap, hv, hgb, hgl⟩ := HO5.out.own.form (by have := HDM.out; omega)
            injection hv with e1 e2 e3
            subst e1 e3
            obtain ⟨y, hy⟩ : ∃ y, D[q - 1]? = some y := ⟨_, List.getElem?_eq_getElem (by have := HDM.out; omega)⟩
            have hcy := HO5.out.own.cells (g := g) rfl (q - 1) (.string (mk y)) (by unfold svals; rw [List.getElem?_map, hy]; rfl)
            obtain ⟨qp, hqp⟩ : ∃ qp, q = qp + 1 := ⟨q - 1, by omega⟩
            have hq1 : q - 1 = qp := by omega
            rw [hq1] at hy hcy
            rw [add_zero_base] at hcy
            have z3 : (0 : Int) < (q : Int) := by omega
            have z4 : (q : Int) - 1 = (qp : Int) := by omega
            have z5 : (0 : Int) ≤ (qp : Int) := by omega
            have z6 : (qp : Int) < (m : Int) := by omega
            have z7 : (qp : Int) < (c5 : Int) := by omega
            have zw : IntKind.i64.wrap (qp : Int) = (qp : Int) := Go.IntWalk.i64_in _ (by omega)
            by_cases hgt : nm < y
            · have hcmp := fun w => gtr_true (P := Tryz.prog) hgt 9 w
              have HJ2 : Hid (∀ j y, qp ≤ j → D[j]? = some y → nm < y) := Lib.hid (fun j y' hj hy' => by
                by_cases e : j = qp
                · subst e; rw [hy] at hy'; cases hy'; exact hgt
                · exact HJ.out j y' (by omega) hy')
              clear hgt hy e2 hq1
              go_wp2_with fail
              go_roundw
              case rel => exact ⟨qp, by omega, by go_num, trivial, HJ2⟩
              case measure => simp [intOf]; omega
            · have hcmp := fun w => gtr_false (P := Tryz.prog) hgt 9 w
              have H2 : Hid (∀ y, 0 < q → D[q - 1]? = some y → ¬ nm < y) := Lib.hid (fun y' _ hy' => by rw [hq1, hy] at hy'; cases hy'; exact hgt)
              clear e2 hgt hy hq1 hqp
              have hcc : ∀ j u, (svals D)[j]? = some u → wr.cell? ((⟨g, 0, none⟩ : Addr).add j) = some u := HO5.out.own.cells (g := g) rfl
              have HCT : Hid (∀ j u, (svals (D.take q))[j]? = some u → wr.cell? ((⟨g, 0, none⟩ : Addr).add j) = some u) := Lib.hid (fun j u hu => hcc j u (by unfold svals at hu ⊢; rw [List.map_take, List.getElem?_take] at hu; split at hu; exact hu; cases hu))
              obtain ⟨ad2, hif, had2⟩ : ∃ a : Addr, (if c5 = q then some (⟨g, 0, none⟩ : Addr) else some ⟨g, q, none⟩) = some a ∧ (q < m → a = ⟨g, q, none⟩) := by
                by_cases e : c5 = q
                · exact ⟨⟨g, 0, none⟩, if_pos e, fun h => by omega⟩
                · exact ⟨⟨g, q, none⟩, if_neg e, fun _ => rfl⟩
              have HCD : Hid (∀ w4, Below B5 wr w4 → ∀ j u, (svals (D.drop q))[j]? = some u → w4.cell? (ad2.add j) = some u) := Lib.hid (fun w4 hB j u hu => by
                have hjl := (List.getElem?_eq_some_iff.1 hu).1
                rw [svals_length, List.length_drop] at hjl
                rw [had2 (by have := HDM.out; omega)]
                have h1 := hcc (q + j) u (by unfold svals at hu ⊢; rw [List.map_drop, List.getElem?_drop] at hu; exact hu)
                have h2 := (hB.cell (p := (⟨g, 0, none⟩ : Addr).add (q + j)) (by rw [add_zero_base]; show g < B5; omega)).trans h1
                rw [add_zero_base] at h2
                unfold Addr.add
                split
                · rename_i h0; subst h0; exact h2
                · exact h2)
              clear had2
              have zq1 : (q : Int) ≤ (m : Int) := by omega
              have zq2 : (q : Int) ≤ (c5 : Int) := by omega
              have zq3 : (0 : Int) ≤ (q : Int) := by omega
              clear hcc
              go_wp2_with (at_builtin; first | (refine wpList_append_own _ rfl _ _ 30 rfl B5 9 i0 (.string ⟨#[]⟩) 1 16 Tryz.underlying30 hi hz0 hz1 hz2 rfl (by decide) (.slice none 0 0) 0 [] rfl (World.ownsRow_nil _ _ _ _) ⟨g, 0, none⟩ q c5 (svals (D.take q)) rfl (by rw [svals_length, List.length_take]; have := HDM.out; omega) HCT.out (svals_one _) (by unfold maxLen; omega) (by omega) (by omega) ?_; intro v3 w3 hown3 hgrow3 _; rw [Nat.zero_add, List.nil_append] at hown3; obtain ⟨A3, c3, rfl⟩ := own_slice hown3; have HB3 := Lib.hid (Below.grown (Below.refl B5 wr) hgrow3 (by omega) (fun k e => by cases e)); have HO3 := Lib.hid hown3; clear hown3 hgrow3) | (refine wpList_append_own _ rfl _ _ 30 rfl B5 9 i0 (.string ⟨#[]⟩) 1 16 Tryz.underlying30 hi hz0 hz1 hz2 rfl (by decide) (.slice A3 q c3) q (svals (D.take q)) rfl (HO3.out.alloc _) ⟨w3.heap.size, 0, none⟩ 1 1 [.string (mk nm)] rfl rfl (cell_one_new _ _ _) (by simp [Value.oneCell']) (by unfold maxLen; omega) (by omega) (by rw [World.size_alloc]; have := HB3.out.size; omega) ?_; intro v4 w4 hown4 hgrow4 _; obtain ⟨A4, c4, rfl⟩ := own_slice hown4; have HB4 := Lib.hid (Below.grown (HB3.out.alloc (by have := HB3.out.size; omega) _) hgrow4 (by rw [World.size_alloc]; have := HB3.out.size; omega) (fun k e => own_base HO3.out k e)); have HO4 := Lib.hid hown4; clear hown4 hgrow4) | (refine wpList_append_own _ rfl _ _ 30 rfl B5 9 i0 (.string ⟨#[]⟩) 1 16 Tryz.underlying30 hi hz0 hz1 hz2 rfl (by decide) (.slice A4 (q + 1) c4) (q + 1) (svals (D.take q) ++ [.string (mk nm)]) rfl HO4.out ad2 (m - q) (c5 - q) (svals (D.drop q)) rfl (by rw [svals_length, List.length_drop]; have := HDM.out; omega) (by have := HCD.out w4 HB4.out; exact this) (svals_one _) (by unfold maxLen; omega) (by omega) (by have := HB4.out.size; omega) ?_; intro v6 w6 hown6 hgrow6 _; obtain ⟨A6, c6, rfl⟩ := own_slice hown6; have HB6 := Lib.hid (Below.grown HB4.out hgrow6 (by have := HB4.out.size; omega) (fun k e => own_base HO4.out k e)); have HO6 := Lib.hid hown6; clear hown6 hgrow6))
              go_roundw
              case rel => exact ⟨k + 1, by omega, by go_num, Lib.hid ⟨D.take q ++ [nm] ++ D.drop q, {
                below := bstep HO5.out.below (hBB ▸ HB6.out)
                own := by
                  have h6 := HO6.out
                  have hlen : (D.take q ++ [nm] ++ D.drop q).length = q + 1 + (m - q) := by rw [List.length_append, List.length_append, List.length_take, List.length_drop]; have := HDM.out; simp; omega
                  have hsv : svals (D.take q ++ [nm] ++ D.drop q) = svals (D.take q) ++ [.string (mk nm)] ++ svals (D.drop q) := by simp [svals]
                  rw [hlen, hsv]
                  exact h6.mono (by have := HO5.out.below.size; omega)
                sorted := ins_sorted HO5.out.sorted HJ.out H2.out (by have := HDM.out; omega)
                perm := by rw [HQ.out]; exact (ins_perm q).trans (HO5.out.perm.append_right _)
                none := fun e => by simp at e }⟩⟩
              case measure => simp [intOf]; omega
      · have hb2 : (pp == p) = false := beq_eq_false_iff_ne.2 hpp
        have HQ : Hid (namesP (E.take (k + 1)) p = namesP (E.take k) p) := Lib.hid (by rw [HS.out, if_neg hpp, List.append_nil])
        clear hpp
        go_wp2_with fail
        go_roundw
        case rel => exact ⟨k + 1, by omega, by go_num, Lib.hid ⟨D, by rw [HQ.out]; exact HO5.out⟩⟩
        case measure => simp [intOf]; omega
    · obtain rfl : k = n := by omega
      have htk : E.take k = E := List.take_of_length_le (by have := HN.out; omega)
      have HF : Hid (NmOut W D (namesP E p) u5 wr) := Lib.hid (htk ▸ HOut.out)
      clear hlt htk hO HO
      go_wp2_with fail
      go_ret
      exact ⟨D, _, rfl, HF.out⟩
end Go.Proofs.YtaccokghjpcijaaGreatDoor
set_option linter.unusedVariables false
set_option linter.unusedSimpArgs false
namespace Go.Proofs.YtaccokghjpcijaaGreatDoor
open Go Go.RowKit Pp Go.Proofs.YtaccokghjpcijaaGreatDoorW.PrintWords

section
variable {W w1 w2 : World} {G : Nat → Prop} {n0 kb : Nat} {E : List (Str × Nat)} {T : List (Bool × Str)} {vE vT : Value}
theorem Fr.grown {F : Nat → Prop} {row : Option Nat} (h : Below W.heap.size W w1) (hg : w1.grownBy w2 row) (hr : ∀ b, row = some b → F b ∨ W.heap.size ≤ b) : Fr F W w2 :=
  ⟨hg.os.trans h.os, hg.tape.trans h.tape, hg.output.trans h.output, Nat.le_trans h.size hg.size, fun b hb hf => (hg.block b (Nat.lt_of_lt_of_le hb h.size) (fun e => by
    rcases hr b e.symm with h1 | h1
    · exact hf h1
    · omega)).trans (h.block b hb)⟩
theorem KMs.appE (h : KMs W G n0 kb E T vE vT) (hB : Below W.heap.size W w1) {e : Str × Nat} {g cap : Nat} (hown : w2.ownsRow n0 107 2 (.slice (some ⟨g, 0, none⟩) (E.length + 1) cap) (E.length + 1) (cellsE E ++ [.string (Go.Proofs.YtaccokghjpcijaaGreatDoor.mk e.1), .int .i64 e.2])) (hgrow : w1.grownBy w2 vE.ownBlock) (hat : vE.ownBlock = some g ∨ g = w1.heap.size) :
    KPost W G n0 kb (E ++ [e]) T (w2.setCell ⟨kb, 0, none⟩ (.slice (some ⟨g, 0, none⟩) (E.length + 1) cap)) ∧ w2.cell? ⟨kb, 0, none⟩ = some vE ∧ w2.frozen? ⟨kb, 0, none⟩ = false := by
  obtain ⟨f1, f2, f3⟩ := h.far (x := fun _ => True) (y := fun _ => True)
  have hg : ∀ b, vE.ownBlock = some b → G b := fun b hb => (h.mem b).2 (.inr (.inl hb))
  have hkb : w2.heap[kb]? = some (.cells #[vE, vT] 77 (0, 0)) := (hgrow.block kb (Nat.lt_of_lt_of_le (some_lt h.root) hB.size) (fun e => f1 kb e.symm rfl)).trans ((hB.block kb (some_lt h.root)).trans h.root)
  have hT : w2.ownsRow n0 73 2 vT T.length (cellsT T) := own_same h.oT (fun b hb => (hgrow.block b (Nat.lt_of_lt_of_le (h.oT.lt b hb).2 hB.size) (fun e => f3 b e.symm hb)).trans (hB.block b (h.oT.lt b hb).2))
  refine ⟨h.putE (Fr.grown hB hgrow (fun b hb => .inl (hg b hb))) hkb hT (by rw [List.length_append, cellsE_snoc]; exact hown) (fun b hb => ?_), heap_cell hkb 0 _ rfl, frozen_of_row _ _ 0 _ _ hkb⟩
  have hb' : g = b := by simpa [Value.ownBlock] using hb
  subst hb'
  rcases hat with h1 | h1
  · exact .inl (hg _ h1)
  · exact .inr (by rw [h1]; exact hB.size)
theorem KMs.appT (h : KMs W G n0 kb E T vE vT) (hB : Below W.heap.size W w1) {e : Bool × Str} {g cap : Nat} (hown : w2.ownsRow n0 73 2 (.slice (some ⟨g, 0, none⟩) (T.length + 1) cap) (T.length + 1) (cellsT T ++ [.bool e.1, .string (Go.Proofs.YtaccokghjpcijaaGreatDoor.mk e.2)])) (hgrow : w1.grownBy w2 vT.ownBlock) (hat : vT.ownBlock = some g ∨ g = w1.heap.size) :
    KPost W G n0 kb E (T ++ [e]) (w2.setCell ⟨kb, 1, none⟩ (.slice (some ⟨g, 0, none⟩) (T.length + 1) cap)) ∧ w2.cell? ⟨kb, 1, none⟩ = some vT ∧ w2.frozen? ⟨kb, 1, none⟩ = false := by
  obtain ⟨f1, f2, f3⟩ := h.far (x := fun _ => True) (y := fun _ => True)
  have hg : ∀ b, vT.ownBlock = some b → G b := fun b hb => (h.mem b).2 (.inr (.inr hb))
  have hkb : w2.heap[kb]? = some (.cells #[vE, vT] 77 (0, 0)) := (hgrow.block kb (Nat.lt_of_lt_of_le (some_lt h.root) hB.size) (fun e => f2 kb e.symm rfl)).trans ((hB.block kb (some_lt h.root)).trans h.root)
  have hE : w2.ownsRow n0 107 2 vE E.length (cellsE E) := own_same h.oE (fun b hb => (hgrow.block b (Nat.lt_of_lt_of_le (h.oE.lt b hb).2 hB.size) (fun e => f3 b hb e.symm)).trans (hB.block b (h.oE.lt b hb).2))
  refine ⟨h.putT (Fr.grown hB hgrow (fun b hb => .inl (hg b hb))) hkb hE (by rw [List.length_append, cellsT_snoc]; exact hown) (fun b hb => ?_), heap_cell hkb 1 _ rfl, frozen_of_row _ _ 1 _ _ hkb⟩
  have hb' : g = b := by simpa [Value.ownBlock] using hb
  subst hb'
  rcases hat with h1 | h1
  · exact .inl (hg _ h1)
  · exact .inr (by rw [h1]; exact hB.size)
theorem KPost.trans {G' : Nat → Prop} {E' : List (Str × Nat)} {T' : List (Bool × Str)} (hX : Ext G W G' w1) (h : KPost w1 G' n0 kb E' T' w2) : KPost W G n0 kb E' T' w2 := by
  obtain ⟨G2, h1, h2⟩ := h
  exact ⟨G2, h1, hX.trans h2⟩
theorem KPost.drewN {E' : List (Str × Nat)} {T' : List (Bool × Str)} (h : KPost W G n0 kb E' T' w2) (k : Nat) : KPost W G n0 kb E' T' (w2.drewN k) := by
  obtain ⟨G2, h1, h2⟩ := h
  exact ⟨G2, h1.same (fun _ _ => rfl), h2.drewN k⟩
theorem KPost.drew {E' : List (Str × Nat)} {T' : List (Bool × Str)} (h : KPost W G n0 kb E' T' w2) : KPost W G n0 kb E' T' w2.drew := by
  obtain ⟨G2, h1, h2⟩ := h
  exact ⟨G2, h1.same (fun _ _ => rfl), ⟨h2.fr.drew, h2.new⟩⟩
end
/-- Cells of a box with an op. -/
theorem opbox (W : World) (o : Ask) : (W.alloc (.cells #[.int .i64 o.do_, .string (mk o.path), .string (mk o.dst), .int .i64 o.off, .int .i64 o.len, .string (mk o.data)] 35)).heap[W.heap.size]? = some (.cells #[.int .i64 o.do_, .string (mk o.path), .string (mk o.dst), .int .i64 o.off, .int .i64 o.len, .string (mk o.data)] 35 (0, 0)) := heap_alloc_new _ _
end Go.Proofs.YtaccokghjpcijaaGreatDoor
set_option linter.unusedVariables false
set_option linter.unusedSimpArgs false
namespace Go.Proofs.YtaccokghjpcijaaGreatDoor
open Go Go.RowKit Pp Go.Proofs.YtaccokghjpcijaaGreatDoorW.PrintWords

/-- What make does: the code, the entries, the things. -/
def makeR (g : St) (E : List (Str × Nat)) (T : List (Bool × Str)) (o : Ask) : Int × List (Str × Nat) × List (Bool × Str) :=
  if o.do_ = 2 then match leads g o.path with
    | .error c => (c, E, T)
    | .ok x => if isDir g x = true then (10, E, T) else (resFE (free g o.dst), if resFE (free g o.dst) = 0 then E ++ [(o.dst, x)] else E, T)
  else (resFE (free g o.path), if resFE (free g o.path) = 0 then E ++ [(o.path, T.length)] else E, if resFE (free g o.path) = 0 then T ++ [(decide (o.do_ = 1), [])] else T)
set_option maxRecDepth 100000 in
set_option maxHeartbeats 8000000 in
theorem kmake_calls {W : World} {G : Nat → Prop} {n0 kb : Nat} {E : List (Str × Nat)} {T : List (Bool × Str)} {g : St} (h : KM W G n0 kb E T) (hn0 : n0 ≤ W.heap.size) (hr : KRel g E T) (hI : Inv g) (hE : E.length ≤ 1000000) (hT : T.length ≤ 1000000) (o : Ask) (hp : o.path.length ≤ 4096) (hd : o.dst.length ≤ 4096) :
    Calls Tryz.prog 47 #[.pointer (some ⟨kb, 0, none⟩), opV o] W fun e W' => e = .returned (.int .i64 (makeR g E T o).1) ∧ KPost W G n0 kb (makeR g E T o).2.1 (makeR g E T o).2.2 W' := by
  obtain ⟨f0, s1, s2, f3, f4, s5⟩ := o
  simp only at hp hd
  unfold opV
  obtain ⟨W1, hW1⟩ : ∃ W1, W.alloc (.cells #[.int .i64 f0, .string (mk s1), .string (mk s2), .int .i64 f3, .int .i64 f4, .string (mk s5)] 35) = W1 := ⟨_, rfl⟩
  have hb1 : Below W.heap.size W W1 := by rw [← hW1]; exact balloc (Below.refl _ _)
  have hbox : W1.heap[W.heap.size]? = some (.cells #[.int .i64 f0, .string (mk s1), .string (mk s2), .int .i64 f3, .int .i64 f4, .string (mk s5)] 35 (0, 0)) := by rw [← hW1]; exact heap_alloc_new _ _
  have HB1 := Lib.hid hb1
  have HBX := Lib.hid hbox
  have HK1 := Lib.hid (h.below hb1)
  have HG := Lib.hid h.lt
  have HR := Lib.hid hr
  have HI := Lib.hid hI
  have HW := Lib.hid hW1
  obtain ⟨i0, hi, hz0, hz1, hz2⟩ := info_parts Tryz.infoEntry
  obtain ⟨i1, hj, hy0, hy1, hy2⟩ := info_parts Tryz.infoThing17
  obtain ⟨q0, q1, q2, q3, q4, q5⟩ := op6 hbox
  clear hb1 hbox h hr hI hW1
  go_enter Tryz.func47, Tryz.ntmps47
  go_upto_region 1 with fail
  rw [HW.out]
  by_cases hf : f0 = 2
  · have hfb : (f0 == 2) = true := beq_iff_eq.2 hf
    have hmk : makeR g E T ⟨f0, s1, s2, f3, f4, s5⟩ = match leads g s1 with
      | .error c => (c, E, T)
      | .ok x => if isDir g x = true then (10, E, T) else (resFE (free g s2), if resFE (free g s2) = 0 then E ++ [(s2, x)] else E, T) := by unfold makeR; simp only [hf, if_true]
    obtain ⟨r, hrr⟩ : ∃ r, leads g s1 = r := ⟨_, rfl⟩
    rw [hrr] at hmk
    have HL := Lib.hid hrr
    have HMK := Lib.hid hmk
    clear hrr hmk hf
    go_wp2_with fail
    refine (kleads_at HK1.out HR.out HI.out hE s1 hp HL.out).mono ?_
    rintro e w3 ⟨rfl, hB3⟩
    have HK3 := Lib.hid (HK1.out.below hB3)
    have HBX3 := Lib.hid (block_keep HBX.out hB3)
    have HB3 := Lib.hid (bstep HB1.out hB3)
    obtain ⟨q0, q1, q2, q3, q4, q5⟩ := op6 HBX3.out
    clear hB3
    cases r with
    | error ec =>
      have hcb : (ec != 0) = true := bne_iff_ne.2 (by have := leads_err HL.out; omega)
      have HZ : Hid (makeR g E T ⟨f0, s1, s2, f3, f4, s5⟩ = (ec, E, T)) := HMK
      unfold resN resE
      go_wp2_with fail
      go_ret
      exact ⟨by rw [HZ.out]; rfl, by rw [HZ.out]; exact ⟨G, HK3.out, Ext.of_below HB3.out⟩⟩
    | ok x =>
      have hxl := leads_ne HI.out HL.out
      obtain ⟨bs, hTx⟩ := HR.out.dirAt hxl
      obtain ⟨ad, d, hdd, c1, t0, _⟩ := HK3.out.thing hTx
      have hmx : x < T.length := (List.getElem?_eq_some_iff.1 hTx).1
      obtain ⟨m, hm⟩ : ∃ m, T.length = m := ⟨_, rfl⟩
      rw [hm] at c1 hdd hmx
      have z3 : (0 : Int) ≤ (x : Int) := by omega
      have z4 : (x : Int) < (m : Int) := by omega
      have z5 : (x : Int) < (d : Int) := by omega
      unfold resN resE
      cases hdx : isDir g x with
      | true =>
        rw [hdx] at t0
        have HZ : Hid (makeR g E T ⟨f0, s1, s2, f3, f4, s5⟩ = (10, E, T)) := Lib.hid (by rw [HMK.out]; simp only [hdx, if_true])
        clear hdx hTx hm
        go_wp2_with fail
        go_ret
        exact ⟨by rw [HZ.out]; rfl, by rw [HZ.out]; exact ⟨G, HK3.out, Ext.of_below HB3.out⟩⟩
      | false =>
        rw [hdx] at t0
        obtain ⟨fc, hfc⟩ : ∃ c, resFE (free g s2) = c := ⟨_, rfl⟩
        have HZ : Hid (makeR g E T ⟨f0, s1, s2, f3, f4, s5⟩ = (fc, if fc = 0 then E ++ [(s2, x)] else E, T)) := Lib.hid (by rw [HMK.out]; simp only [hdx, Bool.false_eq_true, if_false, hfc])
        have HFC := Lib.hid hfc
        clear hdx hTx hm hfc
        go_wp2_with fail
        refine (kfree_calls HK3.out HR.out HI.out hE s2 hd).mono ?_
        rintro e w4 ⟨rfl, hB4⟩
        have HBX4 := Lib.hid (block_keep HBX3.out hB4)
        have HK4 := Lib.hid (HK3.out.below hB4)
        have HB4 := Lib.hid (bstep HB3.out hB4)
        rw [HFC.out]
        clear hB4 q0 q1 q2 q3 q4 q5 c1 t0
        obtain ⟨q0, q1, q2, q3, q4, q5⟩ := op6 HBX4.out
        by_cases hz : fc = 0
        · have hzb : (fc == 0) = true := beq_iff_eq.2 hz
          have HZ2 : Hid (makeR g E T ⟨f0, s1, s2, f3, f4, s5⟩ = (fc, E ++ [(s2, x)], T)) := Lib.hid (by rw [HZ.out, if_pos hz])
          clear hz
          obtain ⟨vE, vT, hks⟩ := id HK4.out
          obtain ⟨A, c, hvE, hc⟩ := own_form hks.oE
          subst hvE
          have hroot := heap_cell hks.root 0 _ rfl
          have hroot0 := hks.root
          have HKS := Lib.hid hks
          have c0 : w4.cell? ⟨kb, 0, none⟩ = some (.slice A E.length c) := hroot
          have c9 : ∀ o, (w4.alloc o).cell? ⟨kb, 0, none⟩ = some (.slice A E.length c) := fun o => (World.cell?_alloc_lt _ _ _ (some_lt hroot0)).trans c0
          clear hks hroot hroot0
          go_wp2_with fail
          go_region_law (first | (refine step_append_lies _ rfl _ _ 75 rfl n0 107 i0 (.agg #[.string ⟨#[]⟩, .int .i64 0]) 2 24 Tryz.underlying75 hi hz0 hz1 hz2 rfl (by decide) (.slice A E.length c) E.length (cellsE E) (by simp [Act.eval, Act.put]) (HKS.out.oE.alloc _) ⟨w4.heap.size, 0, none⟩ 1 1 [.string (mk s2), .int .i64 x] (by simp [Act.eval, Act.put]) rfl (cells_new _ _ _) (by simp [Value.oneCell']) (by decide) (by unfold maxLen; omega) (by omega) (Nat.le_trans hn0 (Nat.le_trans HB4.out.size (balloc (Below.refl _ _)).size)) _ rfl ?_; intro gg cap w5 hown hgrow hat hlt; obtain ⟨hkp, hc5, hf5⟩ := HKS.out.appE (e := (s2, x)) (by first | exact balloc (Below.refl _ _) | exact (balloc (Below.refl _ _)).drew | exact balloc (Below.refl _ _).drew | exact (balloc (Below.refl _ _)).drew.drew) hown hgrow hat; have HKP := Lib.hid hkp; clear hkp hown hgrow hat hlt))
          all_goals
            go_wp2_with fail
            go_ret
            exact ⟨by rw [HZ2.out]; rfl, by rw [HZ2.out]; exact KPost.trans (Ext.of_below HB4.out) HKP.out⟩
        · have hzb : (fc == 0) = false := beq_eq_false_iff_ne.2 hz
          have HZ2 : Hid (makeR g E T ⟨f0, s1, s2, f3, f4, s5⟩ = (fc, E, T)) := Lib.hid (by rw [HZ.out, if_neg hz])
          clear hz
          go_wp2_with fail
          go_ret
          exact ⟨by rw [HZ2.out]; rfl, by rw [HZ2.out]; exact ⟨G, HK4.out, Ext.of_below HB4.out⟩⟩
  · have hfb : (f0 == 2) = false := beq_eq_false_iff_ne.2 hf
    obtain ⟨fc, hfc⟩ : ∃ c, resFE (free g s1) = c := ⟨_, rfl⟩
    obtain ⟨dv, hdv⟩ : ∃ c, decide (f0 = 1) = c := ⟨_, rfl⟩
    have hdb : (f0 == 1) = dv := hdv
    have HZ : Hid (makeR g E T ⟨f0, s1, s2, f3, f4, s5⟩ = (fc, if fc = 0 then E ++ [(s1, T.length)] else E, if fc = 0 then T ++ [(dv, [])] else T)) := Lib.hid (by unfold makeR; simp only [hf, if_false, hfc, hdv])
    have HFC := Lib.hid hfc
    clear hf hfc hdv
    go_wp2_with fail
    refine (kfree_calls HK1.out HR.out HI.out hE s1 hp).mono ?_
    rintro e w4 ⟨rfl, hB4⟩
    have HBX4 := Lib.hid (block_keep HBX.out hB4)
    have HK4 := Lib.hid (HK1.out.below hB4)
    have HB4 := Lib.hid (bstep HB1.out hB4)
    rw [HFC.out]
    clear hB4 q0 q1 q2 q3 q4 q5
    obtain ⟨q0, q1, q2, q3, q4, q5⟩ := op6 HBX4.out
    by_cases hz : fc = 0
    · have hzb : (fc == 0) = true := beq_iff_eq.2 hz
      have HZ2 : Hid (makeR g E T ⟨f0, s1, s2, f3, f4, s5⟩ = (fc, E ++ [(s1, T.length)], T ++ [(dv, [])])) := Lib.hid (by rw [HZ.out, if_pos hz, if_pos hz])
      clear hz
      obtain ⟨vE, vT, hks⟩ := id HK4.out
      obtain ⟨A, c, hvT, hc⟩ := own_form hks.oT
      subst hvT
      have hroot0 := hks.root
      have c0 : w4.cell? ⟨kb, 1, none⟩ = some (.slice A T.length c) := heap_cell hks.root 1 _ rfl
      have c9 : ∀ o, (w4.alloc o).cell? ⟨kb, 1, none⟩ = some (.slice A T.length c) := fun o => (World.cell?_alloc_lt _ _ _ (some_lt hroot0)).trans c0
      have HKS := Lib.hid hks
      clear hks hroot0
      go_wp2_with fail
      go_region_law (first | (refine step_append_lies _ rfl _ _ 74 rfl n0 73 i1 (.agg #[.bool false, .string ⟨#[]⟩]) 2 24 Tryz.underlying74 hj hy0 hy1 hy2 rfl (by decide) (.slice A T.length c) T.length (cellsT T) (by simp [Act.eval, Act.put]) (HKS.out.oT.alloc _) ⟨w4.heap.size, 0, none⟩ 1 1 [.bool dv, .string (mk [])] (by simp [Act.eval, Act.put]) rfl (cells_new _ _ _) (by simp [Value.oneCell']) (by decide) (by unfold maxLen; omega) (by omega) (Nat.le_trans hn0 (Nat.le_trans HB4.out.size (balloc (Below.refl _ _)).size)) _ rfl ?_; intro gg cap w5 hown hgrow hat hlt; obtain ⟨hkp, hc5, hf5⟩ := HKS.out.appT (e := (dv, [])) (by first | exact balloc (Below.refl _ _) | exact (balloc (Below.refl _ _)).drew | exact balloc (Below.refl _ _).drew | exact (balloc (Below.refl _ _)).drew.drew) hown hgrow hat; have HKP := Lib.hid hkp; clear hkp hown hgrow hat hlt))
      all_goals
        obtain ⟨w6, hw6⟩ : ∃ w, w5.setCell ⟨kb, 1, none⟩ (.slice (some ⟨gg, 0, none⟩) (T.length + 1) cap) = w := ⟨_, rfl⟩
        rw [hw6] at HKP ⊢
        clear hw6 hc5 hf5 q0 q1 q2 q3 q4 q5 c0 c9
        obtain ⟨G6, hK6, hX6⟩ := id HKP.out
        have hBX6 := hX6.block HBX4.out (fun hg => by have := (HG.out _ hg).1; omega)
        obtain ⟨q0, q1, q2, q3, q4, q5⟩ := op6 hBX6
        obtain ⟨m1, hm1⟩ : ∃ m, (T ++ [(dv, [])]).length = m := ⟨_, rfl⟩
        have hm2 : m1 = T.length + 1 := by rw [← hm1]; simp
        have hm3 : (m1 : Int) - 1 = (T.length : Int) := by omega
        obtain ⟨vE6, vT6, hks6⟩ := id hK6
        obtain ⟨A6, c6, B6, d6, hvE, hvT, hc6, hd6, e0, e1, _⟩ := hks6.open_
        subst hvE hvT
        rw [hm1] at e1
        have hroot6 := hks6.root
        have c9 : ∀ o, (w6.alloc o).cell? ⟨kb, 0, none⟩ = some (.slice A6 E.length c6) := fun o => (World.cell?_alloc_lt _ _ _ (some_lt hroot6)).trans e0
        have HKS6 := Lib.hid hks6
        have HX6 := Lib.hid hX6
        have HM := Lib.hid hm1
        clear hks6 hroot6 hX6 hBX6 hK6 hm1 hd6
        have zw : IntKind.i64.wrap (T.length : Int) = (T.length : Int) := Go.IntWalk.i64_in _ (by omega)
        have z0 : (0 : Int) ≤ (T.length : Int) := by omega
        have z1 : (T.length : Int) < 4611686018427387904 := by omega
        go_wp2_with fail
        go_region_law (first | (refine step_append_lies _ rfl _ _ 75 rfl n0 107 i0 (.agg #[.string ⟨#[]⟩, .int .i64 0]) 2 24 Tryz.underlying75 hi hz0 hz1 hz2 rfl (by decide) (.slice A6 E.length c6) E.length (cellsE E) (by simp [Act.eval, Act.put]) (HKS6.out.oE.alloc _) ⟨w6.heap.size, 0, none⟩ 1 1 [.string (mk s1), .int .i64 T.length] (by simp [Act.eval, Act.put]) rfl (cells_new _ _ _) (by simp [Value.oneCell']) (by decide) (by unfold maxLen; omega) (by omega) (Nat.le_trans hn0 (Nat.le_trans HB4.out.size (Nat.le_trans HX6.out.fr.size (balloc (Below.refl _ _)).size))) _ rfl ?_; intro gg cap w5 hown hgrow hat hlt; obtain ⟨hkp, hc5, hf5⟩ := HKS6.out.appE (e := (s1, T.length)) (by first | exact balloc (Below.refl _ _) | exact (balloc (Below.refl _ _)).drew | exact balloc (Below.refl _ _).drew | exact (balloc (Below.refl _ _)).drew.drew) hown hgrow hat; have HKQ := Lib.hid hkp; clear hkp hown hgrow hat hlt))
        all_goals
          go_wp2_with fail
          go_ret
          exact ⟨by rw [HZ2.out]; rfl, by rw [HZ2.out]; exact KPost.trans ((Ext.of_below HB4.out).trans HX6.out) HKQ.out⟩
    · have hzb : (fc == 0) = false := beq_eq_false_iff_ne.2 hz
      have HZ2 : Hid (makeR g E T ⟨f0, s1, s2, f3, f4, s5⟩ = (fc, E, T)) := Lib.hid (by rw [HZ.out, if_neg hz, if_neg hz])
      clear hz
      go_wp2_with fail
      go_ret
      exact ⟨by rw [HZ2.out]; rfl, by rw [HZ2.out]; exact ⟨G, HK4.out, Ext.of_below HB4.out⟩⟩
end Go.Proofs.YtaccokghjpcijaaGreatDoor
set_option linter.unusedVariables false
set_option linter.unusedSimpArgs false
namespace Go.Proofs.YtaccokghjpcijaaGreatDoor
open Go Go.RowKit Pp Go.Proofs.YtaccokghjpcijaaGreatDoorW.PrintWords

/-- What take does: the code, the entries. -/
def takeR (g : St) (E : List (Str × Nat)) (o : Ask) : Int × List (Str × Nat) :=
  if o.do_ ≠ 3 ∧ o.path = [47] then (1, E) else match leads g o.path with
  | .error c => (c, E)
  | .ok x => if o.do_ = 5 then (if within o.path o.dst = true then (1, E) else (resFE (free g o.dst), if resFE (free g o.dst) = 0 then E.map (renE o.path o.dst) else E))
    else if o.do_ = 3 ∧ isDir g x = true then (10, E) else if o.do_ = 4 ∧ isDir g x = false then (11, E) else if o.do_ = 4 ∧ 0 < (namesP E o.path).length then (14, E) else (0, dropR E o.path)
set_option maxRecDepth 100000 in
set_option maxHeartbeats 8000000 in
theorem ktake3_calls {W : World} {G : Nat → Prop} {n0 kb : Nat} {E : List (Str × Nat)} {T : List (Bool × Str)} {g : St} (h : KM W G n0 kb E T) (hn0 : n0 ≤ W.heap.size) (hr : KRel g E T) (hI : Inv g) (hE : E.length ≤ 1000000) (hT : T.length ≤ 1000000) (hm : ∀ e ∈ E, e.1.length ≤ 1000000) (o : Ask) (ho : o.do_ = 3) (hp : o.path.length ≤ 4096) (hd : o.dst.length ≤ 4096) :
    Calls Tryz.prog 48 #[.pointer (some ⟨kb, 0, none⟩), opV o] W fun e W' => e = .returned (.int .i64 (takeR g E o).1) ∧ KPost W G n0 kb (takeR g E o).2 T W' := by
  obtain ⟨f0, s1, s2, f3, f4, s5⟩ := o
  simp only at hp hd ho
  subst ho
  unfold opV
  obtain ⟨W1, hW1⟩ : ∃ W1, W.alloc (.cells #[.int .i64 3, .string (mk s1), .string (mk s2), .int .i64 f3, .int .i64 f4, .string (mk s5)] 35) = W1 := ⟨_, rfl⟩
  have hb1 : Below W.heap.size W W1 := by rw [← hW1]; exact balloc (Below.refl _ _)
  have hbox : W1.heap[W.heap.size]? = some (.cells #[.int .i64 3, .string (mk s1), .string (mk s2), .int .i64 f3, .int .i64 f4, .string (mk s5)] 35 (0, 0)) := by rw [← hW1]; exact heap_alloc_new _ _
  have HB1 := Lib.hid hb1
  have HBX := Lib.hid hbox
  have HK1 := Lib.hid (h.below hb1)
  have HR := Lib.hid hr
  have HI := Lib.hid hI
  have HW := Lib.hid hW1
  have HMM := Lib.hid hm
  obtain ⟨q0, q1, q2, q3, q4, q5⟩ := op6 hbox
  clear hb1 hbox h hr hI hW1 hm
  go_enter Tryz.func48, Tryz.ntmps48
  go_upto_region 1 with fail
  rw [HW.out]
  have tp := mk_list s1
  have hmk : takeR g E ⟨3, s1, s2, f3, f4, s5⟩ = match leads g s1 with
    | .error c => (c, E)
    | .ok x => if (3 : Int) = 5 then (if within s1 s2 = true then (1, E) else (resFE (free g s2), if resFE (free g s2) = 0 then E.map (renE s1 s2) else E))
      else if (3 : Int) = 3 ∧ isDir g x = true then (10, E) else if (3 : Int) = 4 ∧ isDir g x = false then (11, E) else if (3 : Int) = 4 ∧ 0 < (namesP E s1).length then (14, E) else (0, dropR E s1) := by unfold takeR; exact if_neg (by simp)
  obtain ⟨r, hrr⟩ : ∃ r, leads g s1 = r := ⟨_, rfl⟩
  rw [hrr] at hmk
  have HL := Lib.hid hrr
  have HMK := Lib.hid hmk
  clear hrr hmk 
  go_wp2_with fail
  refine (kleads_at HK1.out HR.out HI.out hE s1 hp HL.out).mono ?_
  rintro e w3 ⟨rfl, hB3⟩
  have HK3 := Lib.hid (HK1.out.below hB3)
  have HBX3 := Lib.hid (block_keep HBX.out hB3)
  have HB3 := Lib.hid (bstep HB1.out hB3)
  clear q0 q1 q2 q3 q4 q5
  obtain ⟨q0, q1, q2, q3, q4, q5⟩ := op6 HBX3.out
  clear hB3
  cases r with
  | error ec =>
    have hcb : (ec != 0) = true := bne_iff_ne.2 (by have := leads_err HL.out; omega)
    have HZ : Hid (takeR g E ⟨3, s1, s2, f3, f4, s5⟩ = (ec, E)) := HMK
    unfold resN resE
    go_wp2_with fail
    go_ret
    exact ⟨by rw [HZ.out]; rfl, by rw [HZ.out]; exact ⟨G, HK3.out, Ext.of_below HB3.out⟩⟩
  | ok x =>
    have hxl := leads_ne HI.out HL.out
    obtain ⟨bs, hTx⟩ := HR.out.dirAt hxl
    obtain ⟨ad, d, hdd, c1, t0, _⟩ := HK3.out.thing hTx
    have hmx : x < T.length := (List.getElem?_eq_some_iff.1 hTx).1
    obtain ⟨m, hm⟩ : ∃ m, T.length = m := ⟨_, rfl⟩
    rw [hm] at c1 hdd hmx
    have z3 : (0 : Int) ≤ (x : Int) := by omega
    have z4 : (x : Int) < (m : Int) := by omega
    have z5 : (x : Int) < (d : Int) := by omega
    have hn3 : n0 ≤ w3.heap.size := Nat.le_trans hn0 HB3.out.size
    unfold resN resE
    cases hdx : isDir g x with
    | true =>
        rw [hdx] at t0
        have HZ : Hid (takeR g E ⟨3, s1, s2, f3, f4, s5⟩ = (10, E)) := Lib.hid (by rw [HMK.out]; simp [hdx])
        clear hdx hTx hm
        go_wp2_with fail
        go_ret
        exact ⟨by rw [HZ.out]; rfl, by rw [HZ.out]; exact ⟨G, HK3.out, Ext.of_below HB3.out⟩⟩
    | false =>
        rw [hdx] at t0
        have HZ : Hid (takeR g E ⟨3, s1, s2, f3, f4, s5⟩ = (0, dropR E s1)) := Lib.hid (by rw [HMK.out]; simp [hdx])
        clear hdx hTx hm
        go_wp2_with fail
        refine (kdrop_calls HK3.out hE hn3 s1).mono ?_
        rintro e w4 ⟨rfl, hP⟩
        have HP := Lib.hid hP
        clear hP
        go_wp2_with fail
        go_ret
        exact ⟨by rw [HZ.out]; rfl, by rw [HZ.out]; exact KPost.trans (Ext.of_below HB3.out) HP.out⟩
end Go.Proofs.YtaccokghjpcijaaGreatDoor
set_option linter.unusedVariables false
set_option linter.unusedSimpArgs false
namespace Go.Proofs.YtaccokghjpcijaaGreatDoor
open Go Go.RowKit Pp Go.Proofs.YtaccokghjpcijaaGreatDoorW.PrintWords

set_option maxRecDepth 100000 in
set_option maxHeartbeats 8000000 in
theorem ktake4_calls {W : World} {G : Nat → Prop} {n0 kb : Nat} {E : List (Str × Nat)} {T : List (Bool × Str)} {g : St} (h : KM W G n0 kb E T) (hn0 : n0 ≤ W.heap.size) (hr : KRel g E T) (hI : Inv g) (hE : E.length ≤ 1000000) (hT : T.length ≤ 1000000) (hm : ∀ e ∈ E, e.1.length ≤ 1000000) (o : Ask) (ho : o.do_ = 4) (hp : o.path.length ≤ 4096) (hd : o.dst.length ≤ 4096) :
    Calls Tryz.prog 48 #[.pointer (some ⟨kb, 0, none⟩), opV o] W fun e W' => e = .returned (.int .i64 (takeR g E o).1) ∧ KPost W G n0 kb (takeR g E o).2 T W' := by
  obtain ⟨f0, s1, s2, f3, f4, s5⟩ := o
  simp only at hp hd ho
  subst ho
  unfold opV
  obtain ⟨W1, hW1⟩ : ∃ W1, W.alloc (.cells #[.int .i64 4, .string (mk s1), .string (mk s2), .int .i64 f3, .int .i64 f4, .string (mk s5)] 35) = W1 := ⟨_, rfl⟩
  have hb1 : Below W.heap.size W W1 := by rw [← hW1]; exact balloc (Below.refl _ _)
  have hbox : W1.heap[W.heap.size]? = some (.cells #[.int .i64 4, .string (mk s1), .string (mk s2), .int .i64 f3, .int .i64 f4, .string (mk s5)] 35 (0, 0)) := by rw [← hW1]; exact heap_alloc_new _ _
  have HB1 := Lib.hid hb1
  have HBX := Lib.hid hbox
  have HK1 := Lib.hid (h.below hb1)
  have HR := Lib.hid hr
  have HI := Lib.hid hI
  have HW := Lib.hid hW1
  have HMM := Lib.hid hm
  obtain ⟨q0, q1, q2, q3, q4, q5⟩ := op6 hbox
  clear hb1 hbox h hr hI hW1 hm
  go_enter Tryz.func48, Tryz.ntmps48
  go_upto_region 1 with fail
  rw [HW.out]
  have tp := mk_list s1
  by_cases hr1 : s1 = [47]
  · have hb : (s1 == [47]) = true := beq_iff_eq.2 hr1
    have HZ : Hid (takeR g E ⟨4, s1, s2, f3, f4, s5⟩ = (1, E)) := Lib.hid (by unfold takeR; simp only [hr1]; rfl)
    clear hr1
    go_wp2_with fail
    go_ret
    exact ⟨by rw [HZ.out]; rfl, by rw [HZ.out]; exact ⟨G, HK1.out, Ext.of_below HB1.out⟩⟩
  have hb : (s1 == [47]) = false := beq_eq_false_iff_ne.2 hr1
  have hmk : takeR g E ⟨4, s1, s2, f3, f4, s5⟩ = match leads g s1 with
    | .error c => (c, E)
    | .ok x => if (4 : Int) = 5 then (if within s1 s2 = true then (1, E) else (resFE (free g s2), if resFE (free g s2) = 0 then E.map (renE s1 s2) else E))
      else if (4 : Int) = 3 ∧ isDir g x = true then (10, E) else if (4 : Int) = 4 ∧ isDir g x = false then (11, E) else if (4 : Int) = 4 ∧ 0 < (namesP E s1).length then (14, E) else (0, dropR E s1) := by unfold takeR; exact if_neg (fun h => hr1 h.2)
  obtain ⟨r, hrr⟩ : ∃ r, leads g s1 = r := ⟨_, rfl⟩
  rw [hrr] at hmk
  have HL := Lib.hid hrr
  have HMK := Lib.hid hmk
  clear hrr hmk hr1
  go_wp2_with fail
  refine (kleads_at HK1.out HR.out HI.out hE s1 hp HL.out).mono ?_
  rintro e w3 ⟨rfl, hB3⟩
  have HK3 := Lib.hid (HK1.out.below hB3)
  have HBX3 := Lib.hid (block_keep HBX.out hB3)
  have HB3 := Lib.hid (bstep HB1.out hB3)
  clear q0 q1 q2 q3 q4 q5
  obtain ⟨q0, q1, q2, q3, q4, q5⟩ := op6 HBX3.out
  clear hB3
  cases r with
  | error ec =>
    have hcb : (ec != 0) = true := bne_iff_ne.2 (by have := leads_err HL.out; omega)
    have HZ : Hid (takeR g E ⟨4, s1, s2, f3, f4, s5⟩ = (ec, E)) := HMK
    unfold resN resE
    go_wp2_with fail
    go_ret
    exact ⟨by rw [HZ.out]; rfl, by rw [HZ.out]; exact ⟨G, HK3.out, Ext.of_below HB3.out⟩⟩
  | ok x =>
    have hxl := leads_ne HI.out HL.out
    obtain ⟨bs, hTx⟩ := HR.out.dirAt hxl
    obtain ⟨ad, d, hdd, c1, t0, _⟩ := HK3.out.thing hTx
    have hmx : x < T.length := (List.getElem?_eq_some_iff.1 hTx).1
    obtain ⟨m, hm⟩ : ∃ m, T.length = m := ⟨_, rfl⟩
    rw [hm] at c1 hdd hmx
    have z3 : (0 : Int) ≤ (x : Int) := by omega
    have z4 : (x : Int) < (m : Int) := by omega
    have z5 : (x : Int) < (d : Int) := by omega
    have hn3 : n0 ≤ w3.heap.size := Nat.le_trans hn0 HB3.out.size
    unfold resN resE
    cases hdx : isDir g x with
    | false =>
        rw [hdx] at t0
        have HZ : Hid (takeR g E ⟨4, s1, s2, f3, f4, s5⟩ = (11, E)) := Lib.hid (by rw [HMK.out]; simp [hdx])
        clear hdx hTx hm
        go_wp2_with fail
        go_ret
        exact ⟨by rw [HZ.out]; rfl, by rw [HZ.out]; exact ⟨G, HK3.out, Ext.of_below HB3.out⟩⟩
    | true =>
        rw [hdx] at t0
        have HMK2 : Hid (takeR g E ⟨4, s1, s2, f3, f4, s5⟩ = if 0 < (namesP E s1).length then (14, E) else (0, dropR E s1)) := Lib.hid (by rw [HMK.out]; simp [hdx])
        clear hdx hTx hm
        go_wp2_with fail
        refine (knames_calls HK3.out hE HMM.out s1).mono ?_
        rintro e w4 ⟨D, s, rfl, hN⟩
        obtain ⟨A, c, hs, hc⟩ := own_form hN.own
        subst hs
        have HK4 := Lib.hid (HK3.out.below hN.below)
        have HBX4 := Lib.hid (block_keep HBX3.out hN.below)
        have HB4 := Lib.hid (bstep HB3.out hN.below)
        have hn4 : n0 ≤ w4.heap.size := Nat.le_trans hn0 HB4.out.size
        have hlen := hN.perm.length_eq
        obtain ⟨nd, hnd⟩ : ∃ nd, D.length = nd := ⟨_, rfl⟩
        rw [hnd] at hc hlen ⊢
        clear hN hnd q0 q1 q2 q3 q4 q5
        obtain ⟨q0, q1, q2, q3, q4, q5⟩ := op6 HBX4.out
        by_cases hz : nd = 0
        · subst hz
          have HZ : Hid (takeR g E ⟨4, s1, s2, f3, f4, s5⟩ = (0, dropR E s1)) := Lib.hid (by rw [HMK2.out, if_neg (by omega)])
          clear hlen
          go_wp2_with fail
          refine (kdrop_calls HK4.out hE hn4 s1).mono ?_
          rintro e w5 ⟨rfl, hP⟩
          have HP := Lib.hid hP
          clear hP
          go_wp2_with fail
          go_ret
          exact ⟨by rw [HZ.out]; rfl, by rw [HZ.out]; exact KPost.trans (Ext.of_below HB4.out) HP.out⟩
        · have HZ : Hid (takeR g E ⟨4, s1, s2, f3, f4, s5⟩ = (14, E)) := Lib.hid (by rw [HMK2.out, if_pos (by omega)])
          have z9 : (0 : Int) < (nd : Int) := by omega
          clear hlen hz
          go_wp2_with fail
          go_ret
          exact ⟨by rw [HZ.out]; rfl, by rw [HZ.out]; exact ⟨G, HK4.out, Ext.of_below HB4.out⟩⟩
end Go.Proofs.YtaccokghjpcijaaGreatDoor
set_option linter.unusedVariables false
set_option linter.unusedSimpArgs false
namespace Go.Proofs.YtaccokghjpcijaaGreatDoor
open Go Go.RowKit Pp Go.Proofs.YtaccokghjpcijaaGreatDoorW.PrintWords

set_option maxRecDepth 100000 in
set_option maxHeartbeats 8000000 in
theorem ktake5_calls {W : World} {G : Nat → Prop} {n0 kb : Nat} {E : List (Str × Nat)} {T : List (Bool × Str)} {g : St} (h : KM W G n0 kb E T) (hn0 : n0 ≤ W.heap.size) (hr : KRel g E T) (hI : Inv g) (hE : E.length ≤ 1000000) (hT : T.length ≤ 1000000) (hm : ∀ e ∈ E, e.1.length ≤ 1000000) (o : Ask) (ho : o.do_ = 5) (hp : o.path.length ≤ 4096) (hd : o.dst.length ≤ 4096) :
    Calls Tryz.prog 48 #[.pointer (some ⟨kb, 0, none⟩), opV o] W fun e W' => e = .returned (.int .i64 (takeR g E o).1) ∧ KPost W G n0 kb (takeR g E o).2 T W' := by
  obtain ⟨f0, s1, s2, f3, f4, s5⟩ := o
  simp only at hp hd ho
  subst ho
  unfold opV
  obtain ⟨W1, hW1⟩ : ∃ W1, W.alloc (.cells #[.int .i64 5, .string (mk s1), .string (mk s2), .int .i64 f3, .int .i64 f4, .string (mk s5)] 35) = W1 := ⟨_, rfl⟩
  have hb1 : Below W.heap.size W W1 := by rw [← hW1]; exact balloc (Below.refl _ _)
  have hbox : W1.heap[W.heap.size]? = some (.cells #[.int .i64 5, .string (mk s1), .string (mk s2), .int .i64 f3, .int .i64 f4, .string (mk s5)] 35 (0, 0)) := by rw [← hW1]; exact heap_alloc_new _ _
  have HB1 := Lib.hid hb1
  have HBX := Lib.hid hbox
  have HK1 := Lib.hid (h.below hb1)
  have HR := Lib.hid hr
  have HI := Lib.hid hI
  have HW := Lib.hid hW1
  have HMM := Lib.hid hm
  obtain ⟨q0, q1, q2, q3, q4, q5⟩ := op6 hbox
  clear hb1 hbox h hr hI hW1 hm
  go_enter Tryz.func48, Tryz.ntmps48
  go_upto_region 1 with fail
  rw [HW.out]
  have tp := mk_list s1
  by_cases hr1 : s1 = [47]
  · have hb : (s1 == [47]) = true := beq_iff_eq.2 hr1
    have HZ : Hid (takeR g E ⟨5, s1, s2, f3, f4, s5⟩ = (1, E)) := Lib.hid (by unfold takeR; simp only [hr1]; rfl)
    clear hr1
    go_wp2_with fail
    go_ret
    exact ⟨by rw [HZ.out]; rfl, by rw [HZ.out]; exact ⟨G, HK1.out, Ext.of_below HB1.out⟩⟩
  have hb : (s1 == [47]) = false := beq_eq_false_iff_ne.2 hr1
  have hmk : takeR g E ⟨5, s1, s2, f3, f4, s5⟩ = match leads g s1 with
    | .error c => (c, E)
    | .ok x => if (5 : Int) = 5 then (if within s1 s2 = true then (1, E) else (resFE (free g s2), if resFE (free g s2) = 0 then E.map (renE s1 s2) else E))
      else if (5 : Int) = 3 ∧ isDir g x = true then (10, E) else if (5 : Int) = 4 ∧ isDir g x = false then (11, E) else if (5 : Int) = 4 ∧ 0 < (namesP E s1).length then (14, E) else (0, dropR E s1) := by unfold takeR; exact if_neg (fun h => hr1 h.2)
  obtain ⟨r, hrr⟩ : ∃ r, leads g s1 = r := ⟨_, rfl⟩
  rw [hrr] at hmk
  have HL := Lib.hid hrr
  have HMK := Lib.hid hmk
  clear hrr hmk hr1
  go_wp2_with fail
  refine (kleads_at HK1.out HR.out HI.out hE s1 hp HL.out).mono ?_
  rintro e w3 ⟨rfl, hB3⟩
  have HK3 := Lib.hid (HK1.out.below hB3)
  have HBX3 := Lib.hid (block_keep HBX.out hB3)
  have HB3 := Lib.hid (bstep HB1.out hB3)
  clear q0 q1 q2 q3 q4 q5
  obtain ⟨q0, q1, q2, q3, q4, q5⟩ := op6 HBX3.out
  clear hB3
  cases r with
  | error ec =>
    have hcb : (ec != 0) = true := bne_iff_ne.2 (by have := leads_err HL.out; omega)
    have HZ : Hid (takeR g E ⟨5, s1, s2, f3, f4, s5⟩ = (ec, E)) := HMK
    unfold resN resE
    go_wp2_with fail
    go_ret
    exact ⟨by rw [HZ.out]; rfl, by rw [HZ.out]; exact ⟨G, HK3.out, Ext.of_below HB3.out⟩⟩
  | ok x =>
    have hxl := leads_ne HI.out HL.out
    obtain ⟨bs, hTx⟩ := HR.out.dirAt hxl
    obtain ⟨ad, d, hdd, c1, t0, _⟩ := HK3.out.thing hTx
    have hmx : x < T.length := (List.getElem?_eq_some_iff.1 hTx).1
    obtain ⟨m, hm⟩ : ∃ m, T.length = m := ⟨_, rfl⟩
    rw [hm] at c1 hdd hmx
    have z3 : (0 : Int) ≤ (x : Int) := by omega
    have z4 : (x : Int) < (m : Int) := by omega
    have z5 : (x : Int) < (d : Int) := by omega
    have hn3 : n0 ≤ w3.heap.size := Nat.le_trans hn0 HB3.out.size
    unfold resN resE
    obtain ⟨wi, hwi⟩ : ∃ wi, within s1 s2 = wi := ⟨_, rfl⟩
    have HWI := Lib.hid hwi
    clear hTx hm t0 c1
    go_wp2_with fail
    refine (refwithin_lit s1 s2 wi HWI.out (by omega) (by omega) _).mono ?_
    rintro e w4 ⟨rfl, hB4⟩
    have HK4 := Lib.hid (HK3.out.below hB4)
    have HBX4 := Lib.hid (block_keep HBX3.out hB4)
    have HB4 := Lib.hid (bstep HB3.out hB4)
    have hn4 : n0 ≤ w4.heap.size := Nat.le_trans hn0 HB4.out.size
    clear hB4 q0 q1 q2 q3 q4 q5
    obtain ⟨q0, q1, q2, q3, q4, q5⟩ := op6 HBX4.out
    cases wi with
    | true =>
        have HZ : Hid (takeR g E ⟨5, s1, s2, f3, f4, s5⟩ = (1, E)) := Lib.hid (by rw [HMK.out]; simp [hwi])
        clear hwi
        go_wp2_with fail
        go_ret
        exact ⟨by rw [HZ.out]; rfl, by rw [HZ.out]; exact ⟨G, HK4.out, Ext.of_below HB4.out⟩⟩
    | false =>
        obtain ⟨fc, hfc⟩ : ∃ c, resFE (free g s2) = c := ⟨_, rfl⟩
        have HMK2 : Hid (takeR g E ⟨5, s1, s2, f3, f4, s5⟩ = (fc, if fc = 0 then E.map (renE s1 s2) else E)) := Lib.hid (by rw [HMK.out]; simp [hwi, hfc])
        have HFC := Lib.hid hfc
        clear hwi hfc
        go_wp2_with fail
        refine (kfree_calls HK4.out HR.out HI.out hE s2 hd).mono ?_
        rintro e w5 ⟨rfl, hB5⟩
        have HBX5 := Lib.hid (block_keep HBX4.out hB5)
        have HK5 := Lib.hid (HK4.out.below hB5)
        have HB5 := Lib.hid (bstep HB4.out hB5)
        have hn5 : n0 ≤ w5.heap.size := Nat.le_trans hn0 HB5.out.size
        rw [HFC.out]
        clear hB5 q0 q1 q2 q3 q4 q5
        obtain ⟨q0, q1, q2, q3, q4, q5⟩ := op6 HBX5.out
        by_cases hz : fc = 0
        · subst hz
          have HZ : Hid (takeR g E ⟨5, s1, s2, f3, f4, s5⟩ = (0, E.map (renE s1 s2))) := HMK2
          go_wp2_with fail
          refine (kren_calls HK5.out hE HMM.out s1 s2 hp hd).mono ?_
          rintro e w6 ⟨rfl, hP⟩
          have HP := Lib.hid hP
          clear hP
          go_wp2_with fail
          go_ret
          exact ⟨by rw [HZ.out]; rfl, by rw [HZ.out]; exact KPost.trans (Ext.of_below HB5.out) HP.out⟩
        · have hzb : (fc == 0) = false := beq_eq_false_iff_ne.2 hz
          have HZ : Hid (takeR g E ⟨5, s1, s2, f3, f4, s5⟩ = (fc, E)) := Lib.hid (by rw [HMK2.out, if_neg hz])
          clear hz
          go_wp2_with fail
          go_ret
          exact ⟨by rw [HZ.out]; rfl, by rw [HZ.out]; exact ⟨G, HK5.out, Ext.of_below HB5.out⟩⟩
end Go.Proofs.YtaccokghjpcijaaGreatDoor
