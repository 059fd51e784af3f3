import Derived.Test.YtebcojpmdihjfaaDoorJoin
import Derived.Test.YtebcojpmdihjfaaDoorPPathSplitsx
set_option linter.unusedVariables false
set_option linter.unusedSimpArgs false
namespace Go.Proofs.YtebcojpmdihjfaaDoor
open Go Go.RowKit Pp Go.Proofs.YtebcojpmdihjfaaDoorW.PrintWords PPathSplits

theorem wrapN (n : Nat) (h : n ≤ 9223372036854775807) : wrap64 (n : Int) = n := by unfold wrap64; omega
theorem wrap_succ (n : Nat) (h : n < 9223372036854775807) : wrap64 ((n : Int) + 1) = ((n + 1 : Nat) : Int) := by unfold wrap64; omega
theorem bt_mk (l : Str) (i : Nat) (c : UInt8) (h : l[i]? = some c) : bt (mk l) (i : Int) = (c.toNat : Int) := by
  obtain ⟨hi, he⟩ := List.getElem?_eq_some_iff.1 h
  unfold bt
  rw [dif_pos (by rw [mk_size]; simpa using hi)]
  have : (mk l)[(i : Int).toNat]'(by rw [mk_size]; simpa using hi) = c := by
    rw [← he]; rfl
  rw [this]
theorem u8_eq (c d : UInt8) : ((c.toNat : Int) = (d.toNat : Int)) ↔ c = d := by
  constructor
  · intro h
    exact UInt8.toNat_inj.1 (by omega)
  · rintro rfl; rfl
theorem rd_mk (ns : List Str) (i : Nat) (x : Str) (h : ns[i]? = some x) : rdOf ByteArray.empty (ns.map mk) (i : Int) = mk x := by
  unfold rdOf
  simp [List.getD_eq_getElem?_getD, h]

/-- The document's name. -/
def nameV (l : Str) : Bool := decide ((47 : UInt8) ∉ l) && okName l
theorem refname_tail (l : Str) (h0 : (0 : UInt8) ∉ l) : (if (mk l).toList = ([] : List UInt8) then (some false) else (if ((mk l).size : Int) ≤ 255 then (if (mk l).toList = ([46] : List UInt8) then (some false) else (some ((mk l).toList != ([46, 46] : List UInt8)))) else (some false))) = some (okName l) := by
  rw [mk_list, mk_size]
  by_cases h1 : l = []
  · rw [if_pos h1, h1, okName_clean_nil]
  · rw [if_neg h1]
    by_cases h2 : (l.length : Int) ≤ 255
    · rw [if_pos h2]
      by_cases h3 : l = [46]
      · rw [if_pos h3, okF (fun h => h.2.1 h3)]
      · rw [if_neg h3]
        by_cases h4 : l = [46, 46]
        · rw [okF (fun h => h.2.2.1 h4), h4]; rfl
        · rw [(okName_iff l).2 ⟨h1, h3, h4, by omega, h0⟩]
          simp [h4]
    · rw [if_neg h2, okF (fun h => by omega)]
theorem refname_loop (l : Str) (hl : l.length ≤ 4398046511104) : ∀ (n k i : Nat), l.length - i ≤ n → i ≤ l.length → n < k → permafrostref16_name.l0 k (mk l) (i : Int) = some (decide ((47 : UInt8) ∉ l.drop i ∧ (0 : UInt8) ∉ l.drop i) && (if (0 : UInt8) ∈ l then true else okName l)) ∨ ((0 : UInt8) ∈ l ∧ (0 : UInt8) ∉ l.drop i) := by
  intro n
  induction n with
  | zero =>
    intro k i hn hi hk
    by_cases h0 : (0 : UInt8) ∈ l
    · exact .inr ⟨h0, by rw [List.drop_of_length_le (by omega)]; simp⟩
    · refine .inl ?_
      obtain ⟨k, rfl⟩ : ∃ m, k = m + 1 := ⟨k - 1, by omega⟩
      have he : i = l.length := by omega
      unfold permafrostref16_name.l0
      rw [if_neg (by rw [mk_size]; omega), refname_tail l h0, if_neg h0, List.drop_of_length_le (by omega)]
      simp
  | succ n ih =>
    intro k i hn hi hk
    by_cases he : i = l.length
    · exact ih k i (by omega) hi (by omega)
    · obtain ⟨k, rfl⟩ : ∃ m, k = m + 1 := ⟨k - 1, by omega⟩
      have hlt : i < l.length := by omega
      have hd : l.drop i = l[i] :: l.drop (i + 1) := List.drop_eq_getElem_cons hlt
      unfold permafrostref16_name.l0
      rw [if_pos (by rw [mk_size]; omega), if_pos (by omega), bt_mk l i l[i] (by simp [hlt]), wrap_succ i (by omega)]
      by_cases h1 : l[i] = 47
      · refine .inl ?_
        rw [if_pos (by rw [h1]; rfl), hd, h1]
        simp
      · rw [if_neg (fun h => h1 ((u8_eq l[i] 47).1 h))]
        by_cases h2 : l[i] = 0
        · refine .inl ?_
          rw [if_pos (by rw [h2]; rfl), hd, h2]
          simp
        · rw [if_neg (fun h => h2 ((u8_eq l[i] 0).1 h))]
          rcases ih k (i + 1) (by omega) (by omega) (by omega) with h | h
          · refine .inl ?_
            rw [h, hd]
            have e1 : (47 : UInt8) ∉ l[i] :: l.drop (i + 1) ↔ (47 : UInt8) ∉ l.drop (i + 1) := by simp only [List.mem_cons, not_or]; exact ⟨fun h => h.2, fun h => ⟨Ne.symm h1, h⟩⟩
            have e2 : (0 : UInt8) ∉ l[i] :: l.drop (i + 1) ↔ (0 : UInt8) ∉ l.drop (i + 1) := by simp only [List.mem_cons, not_or]; exact ⟨fun h => h.2, fun h => ⟨Ne.symm h2, h⟩⟩
            simp only [e1, e2]
          · refine .inr ⟨h.1, ?_⟩
            rw [hd]
            simp only [List.mem_cons, not_or]
            exact ⟨Ne.symm h2, h.2⟩
theorem refname_ok (l : Str) (hl : l.length ≤ 4398046511104) (k : Nat) (hk : l.length < k) : permafrostref16_name.f k (mk l) = some (nameV l) := by
  unfold permafrostref16_name.f
  rcases refname_loop l hl l.length k 0 (by omega) (by omega) hk with h | h
  · rw [show ((0 : Nat) : Int) = 0 from rfl] at h
    rw [h, List.drop_zero]
    unfold nameV
    by_cases h1 : (47 : UInt8) ∈ l
    · simp [h1]
    · by_cases h0 : (0 : UInt8) ∈ l
      · rw [okF (fun h => h.2.2.2.2 h0)]; simp [h0]
      · simp [h0, h1]
  · rw [List.drop_zero] at h
    exact absurd h.1 h.2

/-- The document's loop. -/
theorem refsplit_loop (l : Str) (hl : l.length ≤ 1099511627776) : ∀ (n k i a : Nat) (acc : List ByteArray), l.length + 1 - i ≤ n → a ≤ i → i ≤ l.length → acc.length ≤ i → (47 : UInt8) ∉ (l.drop a).take (i - a) → 2 * n + l.length + 2 < k →
    permafrostref16_Split.l0 k (mk l) acc (a : Int) (i : Int) = some (if (parts (l.drop a)).all okName then (acc ++ (parts (l.drop a)).map mk, 0) else ([], 12)) := by
  intro n
  induction n with
  | zero => intro k i a acc hn ha hi; omega
  | succ n ih =>
    intro k i a acc hn ha hi hacc hcl hk
    obtain ⟨k, rfl⟩ : ∃ m, k = m + 1 + 1 := ⟨k - 2, by omega⟩
    have name_at : ∀ j : Nat, j ≤ l.length → permafrostref16_name.f k ((mk l).extract (((a : Nat) : Int)).toNat (((j : Nat) : Int)).toNat) = some (nameV ((l.drop a).take (j - a))) := by
      intro j hj
      rw [Int.toNat_natCast, Int.toNat_natCast, mk_extract]
      exact refname_ok _ (by simp; omega) k (by simp; omega)
    unfold permafrostref16_Split.l0
    rw [if_pos (by rw [mk_size]; omega)]
    by_cases he : i = l.length
    · subst he
      rw [if_pos (by rw [mk_size])]
      have hsz : ((mk l).size : Int) = (l.length : Int) := by rw [mk_size]
      have hd : (l.drop a).take (l.length - a) = l.drop a := List.take_of_length_le (by simp)
      rw [hd] at hcl
      unfold permafrostref16_Split.j2
      rw [if_pos rfl, if_pos (by omega), if_pos (by omega), if_pos (by omega), name_at l.length (Nat.le_refl _), Option.bind_some, hd, parts_none hcl]
      have hnv : nameV (l.drop a) = okName (l.drop a) := by unfold nameV; simp [hcl]
      rw [hnv]
      cases hok : okName (l.drop a) with
      | false => simp [hok]
      | true =>
        rw [if_pos rfl, if_pos (by omega), wrap_succ l.length (by omega)]
        obtain ⟨k, rfl⟩ : ∃ m, k = m + 1 := ⟨k - 1, by omega⟩
        unfold permafrostref16_Split.l0
        rw [if_neg (by omega), Int.toNat_natCast, Int.toNat_natCast, mk_extract, hd]
        simp [hok]
    · have hlt : i < l.length := by omega
      rw [if_neg (by rw [mk_size]; omega), if_pos (by omega), if_pos (by rw [mk_size]; omega), bt_mk l i l[i] (by simp [hlt])]
      have hsplit : l.drop a = (l.drop a).take (i - a) ++ l[i] :: l.drop (i + 1) := by
        have h1 := (List.take_append_drop (i - a) (l.drop a)).symm
        rw [List.drop_drop, show a + (i - a) = i by omega, List.drop_eq_getElem_cons hlt] at h1
        exact h1
      by_cases hc : l[i] = 47
      · rw [show (((l[i].toNat : Int)) == 47) = true by rw [hc]; rfl]
        have hsz : ((mk l).size : Int) = (l.length : Int) := by rw [mk_size]
        unfold permafrostref16_Split.j2
        rw [if_pos rfl, if_pos (by omega), if_pos (by omega), if_pos (by omega), name_at i (by omega), Option.bind_some]
        have hp : parts (l.drop a) = (l.drop a).take (i - a) :: parts (l.drop (i + 1)) := by
          conv => lhs; rw [hsplit, hc]
          exact parts_some hcl
        have hnv : nameV ((l.drop a).take (i - a)) = okName ((l.drop a).take (i - a)) := by unfold nameV; simp [hcl]
        rw [hnv, hp]
        cases hok : okName ((l.drop a).take (i - a)) with
        | false => simp [hok]
        | true =>
          rw [if_pos rfl, if_pos (by omega), wrap_succ i (by omega), ih k (i + 1) (i + 1) _ (by omega) (Nat.le_refl _) (by omega) (by simp; omega) (by simp) (by omega)]
          rw [Int.toNat_natCast, Int.toNat_natCast, mk_extract]
          simp only [List.all_cons, hok, Bool.true_and, List.map_cons, List.append_assoc, List.cons_append, List.nil_append]
      · rw [show (((l[i].toNat : Int)) == 47) = false from beq_eq_false_iff_ne.2 (fun h => hc ((u8_eq l[i] 47).1 h))]
        unfold permafrostref16_Split.j2
        rw [if_neg (by simp), wrap_succ i (by omega)]
        refine ih k (i + 1) a acc (by omega) (by omega) (by omega) (by omega) ?_ (by omega)
        rw [show i + 1 - a = (i - a) + 1 by omega, List.take_add_one]
        intro hm
        rcases List.mem_append.1 hm with hm | hm
        · exact hcl hm
        · rw [List.getElem?_drop, show a + (i - a) = i by omega, List.getElem?_eq_getElem hlt] at hm
          simp at hm
          exact hc hm.symm

def splitV (l : Str) : List ByteArray × Int := match split l with
  | none => ([], 12)
  | some ns => (ns.map mk, 0)
theorem splitV_none {l : Str} (h : split l = none) : splitV l = ([], 12) := by unfold splitV; rw [h]
theorem splitV_some {l : Str} {ns : List Str} (h : split l = some ns) : splitV l = (ns.map mk, 0) := by unfold splitV; rw [h]
theorem refsplit_ok (l : Str) (hl : l.length ≤ 1099511627776) (k : Nat) (hk : 3 * l.length + 10 < k) : permafrostref16_Split.f k (mk l) = some (splitV l) := by
  unfold permafrostref16_Split.f
  rw [mk_list, mk_size]
  by_cases h1 : l = [47]
  · rw [if_pos h1, h1, splitV_some split_root]; rfl
  · rw [if_neg h1]
    obtain ⟨k, rfl⟩ : ∃ m, k = m + 1 := ⟨k - 1, by omega⟩
    cases l with
    | nil => rw [if_pos rfl, splitV_none split_nil]; rfl
    | cons c r =>
      rw [if_neg (by simp), if_pos (by simp)]
      have hb := bt_mk (c :: r) 0 c rfl
      rw [show ((0 : Nat) : Int) = 0 from rfl] at hb
      rw [hb]
      by_cases hc : c = 47
      · subst hc
        have hr : r ≠ [] := fun e => h1 (by rw [e])
        show (if ((UInt8.toNat 47 : Int) != 47) = true then (some (([] : List ByteArray), 12)) else (permafrostref16_Split.l0 k (mk (47 :: r)) ([] : List ByteArray) 1 1)) = _
        rw [if_neg (by decide)]
        have := refsplit_loop (47 :: r) hl (r.length + 1) k 1 1 [] (by simp) (Nat.le_refl _) (by simp) (by simp) (by simp) (by simp at hk ⊢; omega)
        rw [show ((1 : Nat) : Int) = 1 from rfl] at this
        rw [this]
        have hd : (47 :: r).drop 1 = r := rfl
        rw [hd]
        cases ha : (parts r).all okName with
        | true => rw [splitV_some (split_ok hr ha)]; simp
        | false => rw [splitV_none (split_bad hr ha)]; simp
      · show (if ((UInt8.toNat c : Int) != 47) = true then (some (([] : List ByteArray), 12)) else (permafrostref16_Split.l0 k (mk (c :: r)) ([] : List ByteArray) 1 1)) = _
        rw [if_pos (by rw [bne_iff_ne]; exact fun h => hc ((u8_eq c 47).1 h)), splitV_none (split_other hc)]

/-! ### join -/
def joinFlat (ns : List Str) : Str := ns.flatMap fun x => 47 :: x
theorem joinTail_flat (t : List Str) : Lib.joinTail [47] t = joinFlat t := rfl
theorem join_flat {ns : List Str} (h : ns ≠ []) : join ns = joinFlat ns := by
  cases ns with
  | nil => exact absurd rfl h
  | cons x t =>
    unfold join
    rw [Lib.join_cons, joinTail_flat]
    simp [joinFlat]
theorem refjoin_loop (ns : List Str) (hn : ns.length ≤ 1099511627776) (hb : (joinFlat ns).length ≤ 1099511627776) : ∀ (n k i : Nat), ns.length - i ≤ n → i ≤ ns.length → n < k →
    permafrostref16_Join.l0 k (ns.map mk) (mk (joinFlat (ns.take i))) (i : Int) = some (mk (joinFlat ns)) := by
  have hle : ∀ i, (joinFlat (ns.take i)).length ≤ (joinFlat ns).length := by
    intro i
    conv => rhs; rw [← List.take_append_drop i ns]
    unfold joinFlat
    rw [List.flatMap_append, List.length_append]
    omega
  intro n
  induction n with
  | zero =>
    intro k i hni hi hk
    obtain ⟨k, rfl⟩ : ∃ m, k = m + 1 := ⟨k - 1, by omega⟩
    unfold permafrostref16_Join.l0
    rw [if_neg (by simp; omega), List.take_of_length_le (by omega)]
  | succ n ih =>
    intro k i hni hi hk
    by_cases he : i = ns.length
    · exact ih k i (by omega) hi (by omega)
    · obtain ⟨k, rfl⟩ : ∃ m, k = m + 1 := ⟨k - 1, by omega⟩
      have hlt : i < ns.length := by omega
      have h1 := hle i
      have h2 := hle (i + 1)
      have hstep : joinFlat (ns.take (i + 1)) = joinFlat (ns.take i) ++ 47 :: ns[i] := by
        rw [List.take_succ_eq_append_getElem hlt]
        unfold joinFlat
        rw [List.flatMap_append]
        simp
      rw [hstep, List.length_append, List.length_cons] at h2
      unfold permafrostref16_Join.l0
      rw [if_pos (by simp; omega), if_pos (by rw [mk_size]; omega), if_pos (by omega), rd_mk ns i ns[i] (by simp [hlt])]
      rw [show (mk (joinFlat (ns.take i)) ++ (⟨#[47]⟩ : ByteArray)) = mk (joinFlat (ns.take i) ++ [47]) from mk_append _ [47]]
      rw [if_pos (by rw [mk_size, mk_size]; simp; omega), mk_append, wrap_succ i (by omega)]
      have := ih k (i + 1) (by omega) (by omega) (by omega)
      rw [hstep] at this
      rw [← this]
      simp
theorem refjoin_ok (ns : List Str) (hn : ns.length ≤ 1099511627776) (hb : (join ns).length ≤ 1099511627776) (k : Nat) (hk : ns.length < k) : permafrostref16_Join.f k (ns.map mk) = some (mk (join ns)) := by
  unfold permafrostref16_Join.f
  cases ns with
  | nil => rfl
  | cons x t =>
    rw [if_neg (by simp; omega)]
    rw [join_flat (by simp)] at hb ⊢
    exact refjoin_loop (x :: t) hn hb (x :: t).length k 0 (by omega) (by omega) hk

/-! ### parent -/
theorem refparent_ok (l : Str) (hl : l.length ≤ 1099511627776) (k : Nat) (hk : 3 * l.length + 10 < k) : permafrostref16_Parent.f k (mk l) = some (mk (parentV l).1, mk (parentV l).2.1, (parentV l).2.2) := by
  unfold permafrostref16_Parent.f
  rw [refsplit_ok l hl k hk, Option.bind_some]
  cases hs : split l with
  | none =>
    rw [splitV_none hs, parentV_none hs]
    rfl
  | some ns =>
    rw [splitV_some hs]
    by_cases hne : ns = []
    · subst hne
      rw [parentV_nil hs]
      rfl
    · obtain ⟨ini, x, rfl⟩ := snoc_of hne
      rw [parentV_snoc hs, if_pos rfl]
      have hjl := split_length hs
      have hjj : (join (ini ++ [x])).length = l.length := by rw [join_split hs]
      have hj2 := join_snoc_length ini x
      have hlen : (((ini ++ [x]).map mk).length : Int) = (ini.length : Int) + 1 := by simp
      simp only [List.length_append, List.length_cons, List.length_nil] at hjl
      have hw : wrap64 (((((ini ++ [x]).map mk).length : Int)) - 1) = (ini.length : Int) := by rw [hlen]; unfold wrap64; omega
      simp only [hw]
      rw [hlen, if_neg (by omega), if_pos (by omega), if_pos (by omega), Int.toNat_natCast]
      have ht : ((ini ++ [x]).map mk).take ini.length = ini.map mk := by simp
      rw [ht, refjoin_ok ini (by omega) (by omega) k (by omega), Option.bind_some, if_pos (by omega), rd_mk (ini ++ [x]) ini.length x (by simp)]

/-! ### within -/
theorem refwithin_loop (a b : List Str) (ha : a.length ≤ 1099511627776) (hab : a.length ≤ b.length) : ∀ (n k i : Nat), a.length - i ≤ n → i ≤ a.length → n < k →
    permafrostref16_Within.l0 k (a.map mk) (b.map mk) (i : Int) = some ((a.drop i).isPrefixOf (b.drop i)) := by
  intro n
  induction n with
  | zero =>
    intro k i hni hi hk
    obtain ⟨k, rfl⟩ : ∃ m, k = m + 1 := ⟨k - 1, by omega⟩
    unfold permafrostref16_Within.l0
    rw [if_neg (by simp; omega), List.drop_of_length_le (by omega : a.length ≤ i)]
    rfl
  | succ n ih =>
    intro k i hni hi hk
    by_cases he : i = a.length
    · exact ih k i (by omega) hi (by omega)
    · obtain ⟨k, rfl⟩ : ∃ m, k = m + 1 := ⟨k - 1, by omega⟩
      have hlt : i < a.length := by omega
      have hlt' : i < b.length := by omega
      unfold permafrostref16_Within.l0
      rw [if_pos (by simp; omega), if_pos (by omega), if_pos (by simp; omega), rd_mk a i a[i] (by simp [hlt]), rd_mk b i b[i] (by simp [hlt']), mk_list, mk_list, wrap_succ i (by omega)]
      rw [List.drop_eq_getElem_cons hlt, List.drop_eq_getElem_cons hlt']
      by_cases hx : a[i] = b[i]
      · rw [if_pos hx, ih k (i + 1) (by omega) (by omega) (by omega), hx]
        simp [List.isPrefixOf]
      · rw [if_neg hx]
        simp [List.isPrefixOf, hx]
theorem refwithin_ok (a b : Str) (ha : a.length ≤ 1099511627776) (hb : b.length ≤ 1099511627776) (k : Nat) (hka : 3 * a.length + 10 < k) (hkb : 3 * b.length + 10 < k) : permafrostref16_Within.f k (mk a) (mk b) = some (within a b) := by
  unfold permafrostref16_Within.f
  rw [refsplit_ok a ha k hka, refsplit_ok b hb k hkb, Option.bind_some, Option.bind_some]
  obtain ⟨k, rfl⟩ : ∃ m, k = m + 1 := ⟨k - 1, by omega⟩
  cases hs : split a with
  | none =>
    rw [splitV_none hs, within_none1 hs, if_neg (by decide)]
    simp [permafrostref16_Within.j0]
  | some ns =>
    cases ht : split b with
    | none =>
      rw [splitV_some hs, splitV_none ht, within_none2 ht, if_pos rfl, if_neg (by decide)]
      simp [permafrostref16_Within.j0]
    | some ms =>
      rw [splitV_some hs, splitV_some ht, within_some hs ht, if_pos rfl, if_pos rfl]
      have h1 := split_length hs
      show (if decide (((ns.map mk).length : Int) > ((ms.map mk).length : Int)) = true then some false else permafrostref16_Within.l0 k (ns.map mk) (ms.map mk) 0) = _
      by_cases hc : ms.length < ns.length
      · rw [if_pos (by simp; omega), prefix_false hc]
      · rw [if_neg (by simp; omega)]
        have := refwithin_loop ns ms (by omega) (by omega) ns.length k 0 (by omega) (by omega) (by omega)
        rw [show ((0 : Nat) : Int) = 0 from rfl, List.drop_zero, List.drop_zero] at this
        exact this

/-! ### same -/
theorem same_loop (a b : List Str) (ha : a.length ≤ 1099511627776) (hab : a.length = b.length) : ∀ (n k i : Nat), a.length - i ≤ n → i ≤ a.length → n < k →
    permafrostref01_Same.l0 k (a.map mk) (b.map mk) (i : Int) = some (decide (a.drop i = b.drop i)) := by
  intro n
  induction n with
  | zero =>
    intro k i hni hi hk
    obtain ⟨k, rfl⟩ : ∃ m, k = m + 1 := ⟨k - 1, by omega⟩
    unfold permafrostref01_Same.l0
    rw [if_neg (by simp; omega), List.drop_of_length_le (by omega : a.length ≤ i), List.drop_of_length_le (by omega : b.length ≤ i)]
    rfl
  | succ n ih =>
    intro k i hni hi hk
    by_cases he : i = a.length
    · exact ih k i (by omega) hi (by omega)
    · obtain ⟨k, rfl⟩ : ∃ m, k = m + 1 := ⟨k - 1, by omega⟩
      have hlt : i < a.length := by omega
      have hlt' : i < b.length := by omega
      unfold permafrostref01_Same.l0
      rw [if_pos (by simp; omega), if_pos (by omega), if_pos (by simp; omega), rd_mk a i a[i] (by simp [hlt]), rd_mk b i b[i] (by simp [hlt']), mk_list, mk_list, wrap_succ i (by omega)]
      rw [List.drop_eq_getElem_cons hlt, List.drop_eq_getElem_cons hlt']
      by_cases hx : a[i] = b[i]
      · rw [if_pos hx, ih k (i + 1) (by omega) (by omega) (by omega), hx]
        simp only [List.cons.injEq, true_and]
      · rw [if_neg hx, decide_eq_false]
        intro h
        injection h with h
        exact hx h
theorem same_ok (a b : List Str) (ha : a.length ≤ 1099511627776) (k : Nat) (hk : a.length < k) : permafrostref01_Same.f k (a.map mk) (b.map mk) = some (decide (a = b)) := by
  unfold permafrostref01_Same.f
  by_cases hab : a.length = b.length
  · rw [if_pos (by simp; omega)]
    have := same_loop a b ha hab a.length k 0 (by omega) (by omega) hk
    rw [show ((0 : Nat) : Int) = 0 from rfl, List.drop_zero, List.drop_zero] at this
    exact this
  · rw [if_neg (by simp; omega), decide_eq_false (fun h => hab (by rw [h]))]
end Go.Proofs.YtebcojpmdihjfaaDoor
