/- Heaps of heads as lists: what Push and Pop make, and that a heap gives its things in order. Nothing of the program. -/
namespace Go.Proofs.Ytkkbeljmloikkaa.HH

structure Hd where
  key : Int
  val : Int
  run : Int
  deriving Inhabited, DecidableEq
/-- Does a record stand ahead of another one? -/
def ltR (a b : Hd) : Bool := decide (a.key < b.key) || (a.key == b.key && (decide (a.val < b.val) || (a.val == b.val && decide (a.run < b.run))))

/-- The place of the first of two below a place; -1: there is none. -/
def leastI (xs : List Hd) (i : Nat) : Int := if xs.length ≤ 2 * i + 1 then -1 else if 2 * i + 2 < xs.length ∧ ltR xs[2 * i + 2]! xs[2 * i + 1]! = true then ((2 * i + 2 : Nat) : Int) else ((2 * i + 1 : Nat) : Int)

/-- A record rises to its place. -/
def siftUp (x : Hd) (xs : List Hd) (i : Nat) : List Hd :=
  if h : 0 < i ∧ ltR x xs[(i - 1) / 2]! = true then siftUp x (xs.set i xs[(i - 1) / 2]!) ((i - 1) / 2) else xs.set i x
termination_by i
decreasing_by omega
theorem siftUp_go {x : Hd} {xs : List Hd} {i : Nat} (h0 : 0 < i) (h : ltR x xs[(i - 1) / 2]! = true) : siftUp x xs i = siftUp x (xs.set i xs[(i - 1) / 2]!) ((i - 1) / 2) := by
  rw [siftUp, dif_pos ⟨h0, h⟩]
theorem siftUp_stop {x : Hd} {xs : List Hd} {i : Nat} (h : ¬ (0 < i ∧ ltR x xs[(i - 1) / 2]! = true)) : siftUp x xs i = xs.set i x := by
  rw [siftUp, dif_neg h]

/-- A record sinks to its place. -/
def siftDown (x : Hd) (xs : List Hd) (i : Nat) : List Hd :=
  if h : 0 ≤ leastI xs i ∧ ltR xs[(leastI xs i).toNat]! x = true then siftDown x (xs.set i xs[(leastI xs i).toNat]!) (leastI xs i).toNat else xs.set i x
termination_by xs.length - i
decreasing_by
  have := h.1
  unfold leastI at this ⊢
  simp only [List.length_set]
  split at this
  · omega
  · rename_i h1
    rw [if_neg h1]
    split <;> omega
theorem leastI_lt {xs : List Hd} {i : Nat} (h : 0 ≤ leastI xs i) : i < (leastI xs i).toNat ∧ (leastI xs i).toNat < xs.length := by
  unfold leastI at h ⊢
  split at h
  · omega
  · rename_i h1
    rw [if_neg h1]
    split <;> omega
theorem siftDown_go {x : Hd} {xs : List Hd} {i : Nat} (h0 : 0 ≤ leastI xs i) (h : ltR xs[(leastI xs i).toNat]! x = true) : siftDown x xs i = siftDown x (xs.set i xs[(leastI xs i).toNat]!) (leastI xs i).toNat := by
  rw [siftDown, dif_pos ⟨h0, h⟩]
theorem siftDown_stop {x : Hd} {xs : List Hd} {i : Nat} (h : ¬ (0 ≤ leastI xs i ∧ ltR xs[(leastI xs i).toNat]! x = true)) : siftDown x xs i = xs.set i x := by
  rw [siftDown, dif_neg h]

/-- What is left behind a Pop. -/
def popL (xs : List Hd) : List Hd := if xs.length ≤ 1 then [] else siftDown xs[xs.length - 1]! (xs.take (xs.length - 1)) 0


/-- A record is put in its place in a row that rises, from the end on. -/
def putDown (r : Hd) (ys : List Hd) (k : Nat) : List Hd :=
  if 0 < k ∧ ltR r ys[k - 1]! = true then putDown r (ys.set k ys[k - 1]!) (k - 1) else ys.set k r
termination_by k
decreasing_by omega
theorem putDown_go {r : Hd} {ys : List Hd} {k : Nat} (h0 : 0 < k) (h : ltR r ys[k - 1]! = true) : putDown r ys k = putDown r (ys.set k ys[k - 1]!) (k - 1) := by
  rw [putDown, if_pos ⟨h0, h⟩]
theorem putDown_stop {r : Hd} {ys : List Hd} {k : Nat} (h : ¬ (0 < k ∧ ltR r ys[k - 1]! = true)) : putDown r ys k = ys.set k r := by
  rw [putDown, if_neg h]
def putL (xs : List Hd) (r : Hd) : List Hd := putDown r (xs ++ [r]) xs.length

/-! ### The order -/
theorem ltR_iff {a b : Hd} : ltR a b = true ↔ a.key < b.key ∨ (a.key = b.key ∧ (a.val < b.val ∨ (a.val = b.val ∧ a.run < b.run))) := by simp [ltR]
theorem ltR_asymm {a b : Hd} (h : ltR a b = true) : ltR b a = false := by
  cases h2 : ltR b a with
  | false => rfl
  | true => rw [ltR_iff] at h h2; omega
theorem ltR_trans {a b c : Hd} (h : ltR a b = true) (h2 : ltR b c = true) : ltR a c = true := by
  rw [ltR_iff] at *; omega
theorem geR_trans {a b c : Hd} (h : ltR a b = false) (h2 : ltR b c = false) : ltR a c = false := by
  cases h3 : ltR a c with
  | false => rfl
  | true =>
    rw [← Bool.not_eq_true, ltR_iff] at h h2
    rw [ltR_iff] at h3
    omega
theorem geR_lt {a b c : Hd} (h : ltR a c = false) (h2 : ltR b c = true) : ltR a b = false := by
  cases h3 : ltR a b with
  | false => rfl
  | true => rw [ltR_trans h3 h2] at h; cases h
theorem geR_antisymm {a b : Hd} (h : ltR a b = false) (h2 : ltR b a = false) : a = b := by
  rw [← Bool.not_eq_true, ltR_iff] at h h2
  cases a; cases b
  simp only [Hd.mk.injEq] at *
  omega
theorem ltR_irrefl (a : Hd) : ltR a a = false := by
  cases h : ltR a a with
  | false => rfl
  | true => rw [ltR_iff] at h; omega

theorem get_set (l : List Hd) (i j : Nat) (x : Hd) : (l.set i x)[j]! = if i = j ∧ j < l.length then x else l[j]! := by
  by_cases hj : j < l.length
  · rw [getElem!_pos _ j (by simpa using hj), List.getElem_set, getElem!_pos l j hj]
    by_cases hij : i = j <;> simp [hij, hj]
  · rw [getElem!_neg _ j (by simpa using hj), if_neg (fun h => hj h.2), getElem!_neg l j hj]

/-- Two things change their places. -/
theorem perm_swap (l : List Hd) (i p : Nat) (x : Hd) (hi : i < l.length) (hp : p < l.length) (hne : i ≠ p) : ((l.set i l[p]!).set p x).Perm (l.set i x) := by
  rw [List.perm_iff_count]
  intro a
  have h1 : (l.set i l[p]!)[p]! = l[p]! := by rw [get_set, if_neg (fun h => hne h.1)]
  have hc : ∀ (m : List Hd) (j : Nat) (y : Hd), j < m.length → (m.set j y).count a + (if m[j]! = a then 1 else 0) = m.count a + (if y = a then 1 else 0) := by
    intro m j y hj
    induction m generalizing j with
    | nil => simp at hj
    | cons z m ih =>
      cases j with
      | zero =>
        simp only [List.set_cons_zero, List.count_cons]
        have hz : (z :: m)[0]! = z := rfl
        rw [hz]
        simp only [beq_iff_eq]
        omega
      | succ j =>
        simp only [List.set_cons_succ, List.count_cons]
        have := ih j (by simpa using hj)
        have hz : (z :: m)[j + 1]! = m[j]! := by simp
        rw [hz]
        omega
  have e1 := hc (l.set i l[p]!) p x (by simpa using hp)
  have e2 := hc l i l[p]! hi
  have e3 := hc l i x hi
  rw [h1] at e1
  omega

theorem siftUp_length (x : Hd) : ∀ (i : Nat) (ys : List Hd), (siftUp x ys i).length = ys.length := by
  intro i
  induction i using Nat.strongRecOn with
  | _ i ih =>
    intro ys
    by_cases h : 0 < i ∧ ltR x ys[(i - 1) / 2]! = true
    · rw [siftUp_go h.1 h.2, ih _ (by omega)]; simp
    · rw [siftUp_stop h]; simp
theorem siftUp_perm (x : Hd) : ∀ (i : Nat) (ys : List Hd), i < ys.length → (siftUp x ys i).Perm (ys.set i x) := by
  intro i
  induction i using Nat.strongRecOn with
  | _ i ih =>
    intro ys hi
    by_cases h : 0 < i ∧ ltR x ys[(i - 1) / 2]! = true
    · rw [siftUp_go h.1 h.2]
      exact (ih _ (by omega) _ (by simp; omega)).trans (perm_swap ys i ((i - 1) / 2) x hi (by omega) (by omega))
    · rw [siftUp_stop h]

/-- No thing stands ahead of the one above it. -/
def HeapOK (xs : List Hd) : Prop := ∀ j, 0 < j → j < xs.length → ltR xs[j]! xs[(j - 1) / 2]! = false

theorem siftUp_ok (x : Hd) : ∀ (i : Nat) (ys : List Hd), i < ys.length →
    (∀ j, 0 < j → j < ys.length → j ≠ i → ltR (ys.set i x)[j]! (ys.set i x)[(j - 1) / 2]! = false) →
    (∀ j, 0 < j → j < ys.length → (j - 1) / 2 = i → 0 < i → ltR (ys.set i x)[j]! (ys.set i x)[(i - 1) / 2]! = false) → HeapOK (siftUp x ys i) := by
  intro i
  induction i using Nat.strongRecOn with
  | _ i ih =>
    intro ys hi h1 h2
    by_cases h : 0 < i ∧ ltR x ys[(i - 1) / 2]! = true
    · rw [siftUp_go h.1 h.2]
      obtain ⟨h0, hx⟩ := h
      have hp : (i - 1) / 2 < ys.length := by omega
      have hpi : (i - 1) / 2 < i := by omega
      generalize hP : ys[(i - 1) / 2]! = Q at hx
      have hi0 : (ys.set i x)[i]! = x := by rw [get_set, if_pos ⟨rfl, hi⟩]
      have hne : ∀ j, j ≠ i → (ys.set i x)[j]! = ys[j]! := fun j hj => by rw [get_set, if_neg (fun h => hj h.1.symm)]
      have zi : ∀ j, j < ys.length → ((ys.set i Q).set ((i - 1) / 2) x)[j]! = if j = (i - 1) / 2 then x else if j = i then Q else ys[j]! := fun j hj => by
        rw [get_set, get_set, List.length_set]
        by_cases a : j = (i - 1) / 2
        · rw [if_pos ⟨a.symm, hj⟩, if_pos a]
        · rw [if_neg (fun h => a h.1.symm), if_neg a]
          by_cases b : j = i
          · rw [if_pos ⟨b.symm, hj⟩, if_pos b]
          · rw [if_neg (fun h => b h.1.symm), if_neg b]
      refine ih _ hpi _ (by simpa using hp) ?_ ?_
      · intro j hj0 hj hjp
        rw [List.length_set] at hj
        rw [zi j hj, zi ((j - 1) / 2) (by omega), if_neg hjp]
        by_cases a : j = i
        · subst a
          rw [if_pos rfl, if_pos rfl]
          exact ltR_asymm hx
        · rw [if_neg a]
          have hj1 := h1 j hj0 hj a
          rw [hne j a] at hj1
          by_cases b : (j - 1) / 2 = (i - 1) / 2
          · rw [if_pos b]
            rw [hne _ (by omega), b, hP] at hj1
            exact geR_lt hj1 hx
          · rw [if_neg b]
            by_cases c : (j - 1) / 2 = i
            · rw [if_pos c]
              have := h2 j hj0 hj c h0
              rwa [hne j a, hne _ (by omega), hP] at this
            · rw [if_neg c]
              rwa [hne _ c] at hj1
      · intro j hj0 hj hjp hp0
        rw [List.length_set] at hj
        rw [zi j hj, zi (((i - 1) / 2 - 1) / 2) (by omega), if_neg (show ¬ j = (i - 1) / 2 by omega), if_neg (show ¬ ((i - 1) / 2 - 1) / 2 = (i - 1) / 2 by omega), if_neg (show ¬ ((i - 1) / 2 - 1) / 2 = i by omega)]
        have hq := h1 ((i - 1) / 2) hp0 hp (by omega)
        rw [hne _ (by omega), hne _ (by omega), hP] at hq
        by_cases a : j = i
        · rw [if_pos a]; exact hq
        · rw [if_neg a]
          have hj1 := h1 j hj0 hj a
          rw [hne j a, hne _ (by omega), hjp, hP] at hj1
          exact geR_trans hj1 hq
    · rw [siftUp_stop h]
      intro j hj0 hj
      rw [List.length_set] at hj
      by_cases a : j = i
      · subst a
        rw [get_set, if_pos ⟨rfl, hj⟩, get_set, if_neg (by omega)]
        cases hq : ltR x ys[(j - 1) / 2]! with
        | false => rfl
        | true => exact (h ⟨hj0, hq⟩).elim
      · exact h1 j hj0 hj a

theorem get_app (xs : List Hd) (x : Hd) (j : Nat) (hj : j < xs.length) : (xs ++ [x])[j]! = xs[j]! := by
  rw [getElem!_pos _ j (by simp; omega), getElem!_pos xs j hj, List.getElem_append_left hj]
theorem set_app (xs : List Hd) (x y : Hd) : (xs ++ [x]).set xs.length y = xs ++ [y] := by
  rw [List.set_append_right _ _ (Nat.le_refl _)]; simp

theorem push_perm (xs : List Hd) (x : Hd) : (siftUp x (xs ++ [x]) xs.length).Perm (x :: xs) := by
  have := siftUp_perm x xs.length (xs ++ [x]) (by simp)
  rw [set_app] at this
  exact this.trans (List.perm_append_comm (l₁ := xs) (l₂ := [x]))
theorem push_ok {xs : List Hd} (h : HeapOK xs) (x : Hd) : HeapOK (siftUp x (xs ++ [x]) xs.length) := by
  refine siftUp_ok x _ _ (by simp) ?_ ?_
  · intro j hj0 hj hne
    rw [set_app]
    have hj' : j < xs.length := by simp at hj; omega
    rw [get_app xs x j hj', get_app xs x _ (by omega)]
    exact h j hj0 hj'
  · intro j hj0 hj hp hi
    simp at hj
    omega

theorem siftDown_perm (x : Hd) : ∀ (d i : Nat) (ys : List Hd), ys.length - i = d → i < ys.length → (siftDown x ys i).Perm (ys.set i x) := by
  intro d
  induction d using Nat.strongRecOn with
  | _ d ih =>
    intro i ys hd hi
    by_cases h : 0 ≤ leastI ys i ∧ ltR ys[(leastI ys i).toNat]! x = true
    · rw [siftDown_go h.1 h.2]
      obtain ⟨h1, h2⟩ := leastI_lt h.1
      exact (ih _ (by simp; omega) _ _ rfl (by simpa using h2)).trans (perm_swap ys i _ x hi h2 (by omega))
    · rw [siftDown_stop h]

theorem leastI_spec {ys : List Hd} {i k : Nat} (h : leastI ys i = (k : Int)) : (k - 1) / 2 = i ∧ 0 < k ∧ k < ys.length ∧ ∀ j, 0 < j → j < ys.length → (j - 1) / 2 = i → ltR ys[j]! ys[k]! = false := by
  unfold leastI at h
  split at h
  · omega
  · rename_i h1
    split at h
    · rename_i h2
      have hk : k = 2 * i + 2 := by omega
      subst hk
      refine ⟨by omega, by omega, h2.1, fun j hj0 hj hp => ?_⟩
      have : j = 2 * i + 1 ∨ j = 2 * i + 2 := by omega
      rcases this with rfl | rfl
      · exact ltR_asymm h2.2
      · exact ltR_irrefl _
    · rename_i h2
      have hk : k = 2 * i + 1 := by omega
      subst hk
      refine ⟨by omega, by omega, by omega, fun j hj0 hj hp => ?_⟩
      have : j = 2 * i + 1 ∨ j = 2 * i + 2 := by omega
      rcases this with rfl | rfl
      · exact ltR_irrefl _
      · cases hq : ltR ys[2 * i + 2]! ys[2 * i + 1]! with
        | false => rfl
        | true => exact (h2 ⟨hj, hq⟩).elim
theorem leastI_neg {ys : List Hd} {i : Nat} (h : ¬ 0 ≤ leastI ys i) : ys.length ≤ 2 * i + 1 := by
  unfold leastI at h
  split at h
  · assumption
  · split at h <;> omega

theorem siftDown_ok (x : Hd) : ∀ (d i : Nat) (ys : List Hd), ys.length - i = d → i < ys.length →
    (∀ j, 0 < j → j < ys.length → (j - 1) / 2 ≠ i → ltR (ys.set i x)[j]! (ys.set i x)[(j - 1) / 2]! = false) →
    (∀ j, 0 < j → j < ys.length → (j - 1) / 2 = i → 0 < i → ltR (ys.set i x)[j]! (ys.set i x)[(i - 1) / 2]! = false) → HeapOK (siftDown x ys i) := by
  intro d
  induction d using Nat.strongRecOn with
  | _ d ih =>
    intro i ys hd hi h1 h2
    have hi0 : (ys.set i x)[i]! = x := by rw [get_set, if_pos ⟨rfl, hi⟩]
    have hne : ∀ j, j ≠ i → (ys.set i x)[j]! = ys[j]! := fun j hj => by rw [get_set, if_neg (fun h => hj h.1.symm)]
    by_cases h : 0 ≤ leastI ys i ∧ ltR ys[(leastI ys i).toNat]! x = true
    · rw [siftDown_go h.1 h.2]
      obtain ⟨h0, hx⟩ := h
      obtain ⟨k, hk⟩ := Int.eq_ofNat_of_zero_le h0
      rw [hk, Int.toNat_natCast] at hx ⊢
      obtain ⟨k1, k2, k3, k4⟩ := leastI_spec hk
      generalize hP : ys[k]! = Q at hx k4
      have zi : ∀ j, j < ys.length → ((ys.set i Q).set k x)[j]! = if j = k then x else if j = i then Q else ys[j]! := fun j hj => by
        rw [get_set, get_set, List.length_set]
        by_cases a : j = k
        · rw [if_pos ⟨a.symm, hj⟩, if_pos a]
        · rw [if_neg (fun h => a h.1.symm), if_neg a]
          by_cases b : j = i
          · rw [if_pos ⟨b.symm, hj⟩, if_pos b]
          · rw [if_neg (fun h => b h.1.symm), if_neg b]
      refine ih _ (by simp; omega) k _ rfl (by simpa using k3) ?_ ?_
      · intro j hj0 hj hjp
        rw [List.length_set] at hj
        rw [zi j hj, zi ((j - 1) / 2) (by omega), if_neg hjp]
        by_cases a : j = k
        · subst a
          rw [if_pos rfl, if_pos k1]
          exact ltR_asymm hx
        · rw [if_neg a]
          by_cases b : (j - 1) / 2 = i
          · rw [if_pos b, if_neg (by omega)]
            exact k4 j hj0 hj b
          · rw [if_neg b]
            have hj1 := h1 j hj0 hj b
            rw [hne _ b] at hj1
            by_cases c : j = i
            · subst c
              rw [if_pos rfl]
              have := h2 k k2 k3 k1 hj0
              rwa [hne k (by omega), hne _ b, hP] at this
            · rw [if_neg c]
              rwa [hne j c] at hj1
      · intro j hj0 hj hjp hk0
        rw [List.length_set] at hj
        rw [zi j hj, zi _ (by omega), if_neg (by omega), if_neg (by omega), if_neg (by omega), if_pos k1]
        have := h1 j hj0 hj (by omega)
        rwa [hne j (by omega), hjp, hne k (by omega), hP] at this
    · rw [siftDown_stop h]
      intro j hj0 hj
      rw [List.length_set] at hj
      by_cases a : (j - 1) / 2 = i
      · rw [a, hi0, hne j (by omega)]
        by_cases h0 : 0 ≤ leastI ys i
        · obtain ⟨k, hk⟩ := Int.eq_ofNat_of_zero_le h0
          obtain ⟨_, _, _, k4⟩ := leastI_spec hk
          have := k4 j hj0 hj a
          refine geR_trans this ?_
          cases hq : ltR ys[k]! x with
          | false => rfl
          | true => exact (h ⟨h0, by rw [hk, Int.toNat_natCast]; exact hq⟩).elim
        · have := leastI_neg h0
          omega
      · exact h1 j hj0 hj a

theorem get_take (xs : List Hd) (n j : Nat) (hj : j < n) (hn : n ≤ xs.length) : (xs.take n)[j]! = xs[j]! := by
  rw [getElem!_pos _ j (by simp; omega), getElem!_pos xs j (by omega), List.getElem_take]

theorem pop_perm (xs : List Hd) (h0 : 0 < xs.length) : xs.Perm (xs[0]! :: popL xs) := by
  unfold popL
  by_cases h1 : xs.length ≤ 1
  · rw [if_pos h1]
    have : xs = [xs[0]!] := by
      rcases xs with _ | ⟨a, _ | ⟨b, l⟩⟩
      · simp at h0
      · rfl
      · simp at h1
    rw [← this]
  · rw [if_neg h1]
    have hl : (xs.take (xs.length - 1)).length = xs.length - 1 := by simp
    have hp := siftDown_perm xs[xs.length - 1]! _ 0 (xs.take (xs.length - 1)) rfl (by omega)
    have e1 : xs = xs.take (xs.length - 1) ++ [xs[xs.length - 1]!] := by
      conv => lhs; rw [← List.take_append_drop (xs.length - 1) xs]
      congr 1
      rw [List.drop_eq_getElem_cons (by omega), getElem!_pos xs _ (by omega), List.drop_eq_nil_of_le (by omega)]
    have e2 : (xs.take (xs.length - 1)).set 0 xs[xs.length - 1]! = xs[xs.length - 1]! :: (xs.take (xs.length - 1)).drop 1 := by
      cases ht : xs.take (xs.length - 1) with
      | nil => rw [ht, List.length_nil] at hl; omega
      | cons a l => rfl
    have e3 : xs.take (xs.length - 1) = xs[0]! :: (xs.take (xs.length - 1)).drop 1 := by
      cases ht : xs.take (xs.length - 1) with
      | nil => rw [ht, List.length_nil] at hl; omega
      | cons a l =>
        have : (xs.take (xs.length - 1))[0]! = xs[0]! := get_take xs _ 0 (by omega) (by omega)
        rw [ht] at this
        have h2 : (a :: l)[0]! = a := rfl
        rw [h2] at this
        rw [this]; rfl
    rw [e2] at hp
    have h4 : xs.Perm (xs[0]! :: ((xs.take (xs.length - 1)).drop 1 ++ [xs[xs.length - 1]!])) := by
      have h5 := List.Perm.refl xs
      rw [e1, e3] at h5
      rw [← List.cons_append, ← e3]
      rw [← e1]
    exact h4.trans ((List.perm_append_comm.trans hp.symm).cons _)
theorem pop_ok {xs : List Hd} (h : HeapOK xs) : HeapOK (popL xs) := by
  unfold popL
  by_cases h1 : xs.length ≤ 1
  · rw [if_pos h1]; intro j hj0 hj; simp at hj
  · rw [if_neg h1]
    have hl : (xs.take (xs.length - 1)).length = xs.length - 1 := by simp
    refine siftDown_ok _ _ 0 _ rfl (by omega) ?_ ?_
    · intro j hj0 hj hp
      rw [hl] at hj
      rw [get_set, if_neg (by omega), get_set, if_neg (by omega), get_take xs _ _ hj (by omega), get_take xs _ _ (by omega) (by omega)]
      exact h j hj0 (by omega)
    · intro j hj0 hj hp hi; omega
theorem heap_first {xs : List Hd} (h : HeapOK xs) : ∀ j, j < xs.length → ltR xs[j]! xs[0]! = false := by
  intro j
  induction j using Nat.strongRecOn with
  | _ j ih =>
    intro hj
    by_cases h0 : j = 0
    · subst h0; exact ltR_irrefl _
    · exact geR_trans (h j (by omega) hj) (ih ((j - 1) / 2) (by omega) (by omega))
theorem heap_le {xs : List Hd} (h : HeapOK xs) {a : Hd} (ha : a ∈ xs) : ltR a xs[0]! = false := by
  obtain ⟨j, hj, rfl⟩ := List.getElem_of_mem ha
  have := heap_first h j hj
  rwa [getElem!_pos xs j hj] at this

/-! ### Rows that rise -/
def Rises (ys : List Hd) : Prop := ys.Pairwise fun a b => ltR b a = false
theorem first_same {xs ys : List Hd} (h : HeapOK xs) (hs : Rises ys) (hp : xs.Perm ys) (h0 : 0 < xs.length) : xs[0]! = ys[0]! := by
  cases ys with
  | nil => have := hp.length_eq; rw [List.length_nil] at this; omega
  | cons a l =>
    have h1 : xs[0]! ∈ a :: l := hp.mem_iff.1 (by rw [getElem!_pos xs 0 h0]; exact List.getElem_mem h0)
    have h2 : ltR a xs[0]! = false := heap_le h (hp.mem_iff.2 List.mem_cons_self)
    have e : (a :: l)[0]! = a := rfl
    rw [e]
    rcases List.mem_cons.1 h1 with h1 | h1
    · exact h1
    · exact geR_antisymm ((List.pairwise_cons.1 hs).1 _ h1) h2

theorem putDown_length (r : Hd) : ∀ (k : Nat) (ys : List Hd), (putDown r ys k).length = ys.length := by
  intro k
  induction k with
  | zero => intro ys; rw [putDown_stop (by omega)]; simp
  | succ k ih =>
    intro ys
    by_cases h : 0 < k + 1 ∧ ltR r ys[k + 1 - 1]! = true
    · rw [putDown_go h.1 h.2]; simp only [Nat.add_sub_cancel]; rw [ih]; simp
    · rw [putDown_stop h]; simp
theorem putDown_perm (r : Hd) : ∀ (k : Nat) (ys : List Hd), k < ys.length → (putDown r ys k).Perm (ys.set k r) := by
  intro k
  induction k with
  | zero => intro ys _; rw [putDown_stop (by omega)]
  | succ k ih =>
    intro ys hk
    by_cases h : 0 < k + 1 ∧ ltR r ys[k + 1 - 1]! = true
    · rw [putDown_go h.1 h.2]
      simp only [Nat.add_sub_cancel]
      exact (ih _ (by simp; omega)).trans (perm_swap ys (k + 1) k r hk (by omega) (by omega))
    · rw [putDown_stop h]
/-- by places -/
theorem rises_iff {ys : List Hd} : Rises ys ↔ ∀ j, j + 1 < ys.length → ltR ys[j + 1]! ys[j]! = false := by
  constructor
  · intro h j hj
    have := List.pairwise_iff_getElem.1 h j (j + 1) (by omega) hj (by omega)
    rwa [getElem!_pos ys _ hj, getElem!_pos ys j (by omega)]
  · intro h
    refine List.pairwise_iff_getElem.2 fun i j hi hj hij => ?_
    obtain ⟨d, rfl⟩ : ∃ d, j = i + d + 1 := ⟨j - i - 1, by omega⟩
    induction d with
    | zero =>
      have := h i hj
      rwa [getElem!_pos ys _ hj, getElem!_pos ys i hi] at this
    | succ d ih =>
      have h1 := ih (by omega) (by omega)
      have h2 := h (i + d + 1) hj
      rw [getElem!_pos ys _ hj, getElem!_pos ys _ (by omega)] at h2
      exact geR_trans h2 h1
theorem putDown_rises (r : Hd) : ∀ (k : Nat) (ys : List Hd), k < ys.length →
    (∀ j, j + 1 < ys.length → j ≠ k → j + 1 ≠ k → ltR ys[j + 1]! ys[j]! = false) → (k + 1 < ys.length → ltR ys[k + 1]! r = false) →
    (0 < k → k + 1 < ys.length → ltR ys[k + 1]! ys[k - 1]! = false) → Rises (putDown r ys k) := by
  intro k
  induction k with
  | zero =>
    intro ys hk h1 h2 _
    rw [putDown_stop (by omega), rises_iff]
    intro j hj
    rw [List.length_set] at hj
    rw [get_set, if_neg (by omega), get_set]
    by_cases a : 0 = j
    · subst a; rw [if_pos ⟨rfl, by omega⟩]; exact h2 hj
    · rw [if_neg (fun h => a h.1)]; exact h1 j hj (by omega) (by omega)
  | succ k ih =>
    intro ys hk h1 h2 h3
    by_cases h : 0 < k + 1 ∧ ltR r ys[k + 1 - 1]! = true
    · rw [putDown_go h.1 h.2]
      simp only [Nat.add_sub_cancel] at h ⊢
      have g : ∀ j, (ys.set (k + 1) ys[k]!)[j]! = if k + 1 = j ∧ j < ys.length then ys[k]! else ys[j]! := fun j => get_set _ _ _ _
      refine ih _ (by simp; omega) ?_ ?_ ?_
      · intro j hj a b
        rw [List.length_set] at hj
        rw [g, g, if_neg (fun h => by omega)]
        by_cases c : k + 1 = j
        · subst c
          rw [if_pos ⟨rfl, by omega⟩]
          exact h3 (by omega) hj
        · rw [if_neg (fun h => c h.1)]; exact h1 j hj (by omega) (by omega)
      · intro hj
        rw [List.length_set] at hj
        rw [g, if_pos ⟨rfl, hj⟩]
        exact ltR_asymm h.2
      · intro hk0 hj
        rw [List.length_set] at hj
        rw [g, g, if_pos ⟨rfl, hj⟩, if_neg (fun h => by omega)]
        have := h1 (k - 1) (by omega) (by omega) (by omega)
        rwa [show k - 1 + 1 = k by omega] at this
    · rw [putDown_stop h, rises_iff]
      intro j hj
      rw [List.length_set] at hj
      rw [get_set, get_set]
      by_cases a : k + 1 = j + 1
      · have : k = j := by omega
        subst this
        rw [if_pos ⟨rfl, hj⟩, if_neg (fun h => by omega)]
        cases hq : ltR r ys[k]! with
        | false => rfl
        | true => exact (h ⟨by omega, by simpa using hq⟩).elim
      · rw [if_neg (fun h => a h.1)]
        by_cases b : k + 1 = j
        · subst b
          rw [if_pos ⟨rfl, by omega⟩]
          exact h2 hj
        · rw [if_neg (fun h => b h.1)]; exact h1 j hj (by omega) (by omega)
theorem put_perm (xs : List Hd) (r : Hd) : (putL xs r).Perm (r :: xs) := by
  have := putDown_perm r xs.length (xs ++ [r]) (by simp)
  rw [set_app] at this
  exact this.trans (List.perm_append_comm (l₁ := xs) (l₂ := [r]))
theorem put_rises {xs : List Hd} (h : Rises xs) (r : Hd) : Rises (putL xs r) := by
  rw [rises_iff] at h
  refine putDown_rises r _ _ (by simp) ?_ (by simp) (by simp)
  intro j hj a b
  simp at hj
  rw [get_app xs r _ (by omega), get_app xs r _ (by omega)]
  exact h j (by omega)
theorem rises_tail {a : Hd} {l : List Hd} (h : Rises (a :: l)) : Rises l := (List.pairwise_cons.1 h).2

/-- All of a list, each put in its place. -/
def sortL (l : List Hd) : List Hd := l.foldl putL []
theorem sort_perm : ∀ (l acc : List Hd), (l.foldl putL acc).Perm (acc ++ l)
  | [], acc => by simp
  | x :: l, acc => by
    have := sort_perm l (putL acc x)
    refine this.trans ?_
    refine ((put_perm acc x).append_right l).trans ?_
    exact (List.perm_middle (a := x) (l₁ := acc) (l₂ := l)).symm
theorem sort_rises : ∀ (l acc : List Hd), Rises acc → Rises (l.foldl putL acc)
  | [], acc, h => h
  | x :: l, acc, h => sort_rises l _ (put_rises h x)
end Go.Proofs.Ytkkbeljmloikkaa.HH
