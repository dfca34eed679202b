/- Keys as they were used last, each once. Nothing of the program's code. -/
import Derived.Test.YtigkckpjbnflpaaLuVi
namespace Go.Proofs.Ytigkckpjbnflpaa
set_option linter.unusedVariables false
def dd : List Int → List Int
  | [] => []
  | x :: l => x :: (dd l).filter fun y => !decide (y = x)
theorem dd_mem {l : List Int} {x : Int} : x ∈ dd l ↔ x ∈ l := by
  induction l with
  | nil => simp [dd]
  | cons y l ih =>
    simp only [dd, List.mem_cons, List.mem_filter, ih]
    by_cases h : x = y
    · simp [h]
    · simp [h]
theorem dd_nodup : ∀ l : List Int, (dd l).Nodup
  | [] => .nil
  | x :: l => by
    rw [dd, List.nodup_cons]
    exact ⟨by simp, (List.filter_sublist).nodup (dd_nodup l)⟩
theorem dd_snoc (l : List Int) (x : Int) : dd (l ++ [x]) = if x ∈ l then dd l else dd l ++ [x] := by
  induction l with
  | nil => simp [dd]
  | cons y l ih =>
    rw [List.cons_append, dd, ih]
    by_cases h : x ∈ l
    · simp [h, dd]
    · by_cases e : x = y
      · subst e; simp [h, dd]
      · simp [h, e, dd]
theorem dd_prefix (l : List Int) : ∀ m : List Int, dd l <+: dd (l ++ m)
  | [] => by simp
  | x :: m => by
    have h1 : dd l <+: dd (l ++ [x]) := by
      rw [dd_snoc]; split
      · exact List.prefix_refl _
      · exact List.prefix_append _ _
    have h2 := dd_prefix (l ++ [x]) m
    rw [List.append_assoc] at h2
    exact h1.trans h2
theorem take_filter_all {p : Int → Bool} : ∀ (k : Nat) (l : List Int), (∀ x ∈ l.take k, p x = true) → (l.filter p).take k = l.take k
  | 0, l, _ => by simp
  | k + 1, [], _ => by simp
  | k + 1, x :: l, h => by
    have hx := h x (by simp)
    rw [List.filter_cons, if_pos hx, List.take_succ_cons, List.take_succ_cons, take_filter_all k l (fun y hy => h y (by simp [hy]))]
theorem filter_take {x : Int} : ∀ (k : Nat) (l : List Int), l.Nodup → x ∈ l.take (k + 1) → (l.take (k + 1)).filter (fun y => !decide (y = x)) = (l.filter fun y => !decide (y = x)).take k
  | k, [], _, h => by simp at h
  | k, y :: l, hn, h => by
    rw [List.nodup_cons] at hn
    rw [List.take_succ_cons] at h ⊢
    by_cases e : y = x
    · subst e
      have e1 : l.filter (fun z => !decide (z = y)) = l := by
        rw [List.filter_eq_self]; intro z hz
        have : z ≠ y := fun e => hn.1 (e ▸ hz)
        simp [this]
      have e2 : (l.take k).filter (fun z => !decide (z = y)) = l.take k := by
        rw [List.filter_eq_self]; intro z hz
        have : z ≠ y := fun e => hn.1 (e ▸ List.mem_of_mem_take hz)
        simp [this]
      simp [e1, e2]
    · have hx : x ∈ l.take k := by
        rcases List.mem_cons.1 h with h | h
        · exact absurd h.symm e
        · exact h
      cases k with
      | zero => simp at hx
      | succ k =>
        have := filter_take k l hn.2 hx
        simp only [List.filter_cons, e, decide_false, Bool.not_false, if_true, List.take_succ_cons, this]

/-- What a cache without pins holds behind these uses: oldest first. -/
def lastL (fr : Nat) (xs : List Int) : List (KTi × Nat) := ((dd xs.reverse).take fr).reverse.map fun x : Int => ((x : KTi), 0)
theorem lastL_zero {fr : Nat} {xs : List Int} : ∀ p ∈ lastL fr xs, p.2 ≤ 0 := fun p hp => by
  obtain ⟨x, _, rfl⟩ := List.mem_map.1 hp
  exact Nat.le_refl _
theorem hasK_last {fr : Nat} {xs : List Int} {x : Int} : hasK (lastL fr xs) x = true ↔ x ∈ (dd xs.reverse).take fr := by
  rw [hasK, List.any_eq_true]
  constructor
  · rintro ⟨p, hp, he⟩
    obtain ⟨y, hy, rfl⟩ := List.mem_map.1 hp
    have e : @Eq Int y x := of_decide_eq_true he
    rw [← e]; simpa using hy
  · intro h
    exact ⟨(x, 0), List.mem_map.2 ⟨x, by simpa using h, rfl⟩, by simp⟩
theorem drop_rev (K : List Int) (x : Int) : dropK (K.reverse.map fun x : Int => ((x : KTi), 0)) x = ((K.filter fun y => !decide (y = x)).reverse.map fun x : Int => ((x : KTi), 0)) := by
  rw [dropK, List.filter_map, ← List.filter_reverse]
  rfl
theorem last_step {fr : Nat} (hf : 1 ≤ fr) (xs : List Int) (x : Int) : ∃ M g is, useK zi fr (lastL fr xs) x = some (M, 0, g, is) ∧ M ++ [((x : KTi), 0)] = lastL fr (xs ++ [x]) := by
  obtain ⟨f, rfl⟩ : ∃ f, fr = f + 1 := ⟨fr - 1, by omega⟩
  have hn := dd_nodup xs.reverse
  have e1 : lastL (f + 1) (xs ++ [x]) = (((dd xs.reverse).filter fun y => !decide (y = x)).take f).reverse.map (fun x : Int => ((x : KTi), 0)) ++ [((x : KTi), 0)] := by
    rw [lastL, List.reverse_append]
    simp only [List.reverse_cons, List.reverse_nil, List.nil_append, List.singleton_append, dd, List.take_succ_cons, List.map_append, List.map_cons, List.map_nil]
  rw [e1]
  by_cases hx : x ∈ (dd xs.reverse).take (f + 1)
  · refine ⟨_, _, _, by simp only [useK, hasK_last.2 hx, if_true]; rw [show pinsK (lastL (f + 1) xs) x = 0 from Nat.le_zero.1 (by
      unfold pinsK
      cases e : (lastL (f + 1) xs).find? fun p => decide (p.1 = x) with
      | none => simp
      | some p => exact lastL_zero p (List.mem_of_find?_eq_some e))], ?_⟩
    rw [lastL, drop_rev, filter_take f _ hn hx]
  · have hk : hasK (lastL (f + 1) xs) x = false := by rw [Bool.eq_false_iff]; exact fun h => hx (hasK_last.1 h)
    have hlen : (lastL (f + 1) xs).length = min (f + 1) (dd xs.reverse).length := by simp [lastL]
    by_cases hl : f + 1 ≤ (lastL (f + 1) xs).length
    · have hfl : f < (dd xs.reverse).length := by omega
      have hK : (dd xs.reverse).take (f + 1) = (dd xs.reverse).take f ++ [(dd xs.reverse)[f]] := List.take_succ_eq_append_getElem hfl
      have hL : lastL (f + 1) xs = (((dd xs.reverse)[f] : KTi), 0) :: (((dd xs.reverse).take f).reverse.map fun x : Int => ((x : KTi), 0)) := by
        rw [lastL, hK, List.reverse_append]; rfl
      have hnz : (dd xs.reverse)[f] ∉ (dd xs.reverse).take f := by
        have := (List.take_sublist (f + 1) (dd xs.reverse)).nodup hn
        rw [hK, List.nodup_append] at this
        intro h
        exact this.2.2 _ h _ (List.mem_singleton.2 rfl) rfl
      have hd : dropK (lastL (f + 1) xs) ((dd xs.reverse)[f]) = (((dd xs.reverse).take f).reverse.map fun x : Int => ((x : KTi), 0)) := by
        rw [lastL, drop_rev, hK, List.filter_append]
        have e2 : ((dd xs.reverse).take f).filter (fun y => !decide (y = (dd xs.reverse)[f])) = (dd xs.reverse).take f := by
          rw [List.filter_eq_self]; intro y hy
          have : y ≠ (dd xs.reverse)[f] := fun e => hnz (e ▸ hy)
          simp [this]
        rw [e2]; simp
      have hfi : (lastL (f + 1) xs).find? (fun p => decide (p.2 = 0)) = some (((dd xs.reverse)[f] : KTi), 0) := by rw [hL]; simp
      refine ⟨_, _, _, by simp only [useK, hk, Bool.false_eq_true, if_false, if_pos hl, hfi, hd]; rfl, ?_⟩
      rw [take_filter_all]
      intro y hy
      have : y ≠ x := fun e => hx (by rw [hK, ← e]; exact List.mem_append_left _ hy)
      simp [this]
    · have hfl : (dd xs.reverse).length ≤ f := by omega
      refine ⟨_, _, _, by simp only [useK, hk, Bool.false_eq_true, if_false, if_neg hl]; rfl, ?_⟩
      rw [List.take_of_length_le (by omega)] at hx
      have e2 : (dd xs.reverse).filter (fun y => !decide (y = x)) = dd xs.reverse := by
        rw [List.filter_eq_self]; intro y hy
        have : y ≠ x := fun e => hx (e ▸ hy)
        simp [this]
      rw [e2, List.take_of_length_le hfl, lastL, List.take_of_length_le (by omega)]
end Go.Proofs.Ytigkckpjbnflpaa
