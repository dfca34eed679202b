/- Pools: pages among blocks. -/
import Derived.Test.YtjhegjcjplpmjaaLuUp
import Derived.Test.YtjhegjcjplpmjaaDk0
namespace Go.Proofs.Ytjhegjcjplpmjaa
set_option linter.unusedVariables false

structure Pg where
  b : List UInt8
  dirty : Bool
  deriving Inhabited
/-- The blocks of a map's pages. -/
inductive PagesAt : List (Me Pl) → List (Pl × Pg) → Hl → Prop
  | nil : PagesAt [] [] []
  | cons {ms : List (Me Pl)} {ps : List (Pl × Pg)} {hl s : Hl} {k : Pl} {x : Pg} {b born : Nat} {v : Value} (h : PagesAt ms ps hl) (own : Own byteE v x.b s) :
      PagesAt (⟨k, .pointer (some ⟨b, 0, none⟩), born⟩ :: ms) ((k, x) :: ps) ((b, cellsO [v, .bool x.dirty] 62) :: (s ++ hl))
theorem PagesAt.keys {ms : List (Me Pl)} {ps : List (Pl × Pg)} {hl : Hl} (h : PagesAt ms ps hl) : ms.map (·.k) = ps.map (·.1) := by
  induction h with
  | nil => rfl
  | cons h own ih => simp [ih]
def setP (ps : List (Pl × Pg)) (k : Pl) (x : Pg) : List (Pl × Pg) := ps.map fun p => if p.1 = k then (k, x) else p
def findP (ps : List (Pl × Pg)) (k : Pl) : Option Pg := (ps.find? fun p => decide (p.1 = k)).map (·.2)
def cutP (ps : List (Pl × Pg)) (k : Pl) : List (Pl × Pg) := ps.filter fun p => !decide (p.1 = k)
theorem setP_none {ps : List (Pl × Pg)} {k : Pl} {x : Pg} (h : ∀ p ∈ ps, p.1 ≠ k) : setP ps k x = ps := by
  unfold setP
  conv => rhs; rw [← List.map_id ps]
  exact List.map_congr_left fun p hp => by rw [if_neg (h p hp)]; rfl
theorem cutP_of {ps : List (Pl × Pg)} {k : Pl} (h : ∀ p ∈ ps, p.1 ≠ k) : cutP ps k = ps := by
  rw [cutP, List.filter_eq_self]
  intro y hy
  simp [h y hy]
theorem cutM_ofP {ms : List (Me Pl)} {k : Pl} (h : ∀ m ∈ ms, m.k ≠ k) : cutM ms k = ms := by
  rw [cutM, List.filter_eq_self]
  intro y hy
  simp [h y hy]
theorem perm_mv {α : Type} (x y : α) (s t rest : List α) : (x :: (s ++ (y :: (t ++ rest)))).Perm (y :: (t ++ (x :: (s ++ rest)))) := by
  have e1 : (x :: (s ++ (y :: (t ++ rest)))) = (x :: s) ++ ((y :: t) ++ rest) := by simp
  have e2 : (y :: (t ++ (x :: (s ++ rest)))) = (y :: t) ++ ((x :: s) ++ rest) := by simp
  rw [e1, e2, ← List.append_assoc, ← List.append_assoc]
  exact List.perm_append_comm.append_right rest
theorem PagesAt.get {ms : List (Me Pl)} {ps : List (Pl × Pg)} {hl : Hl} (h : PagesAt ms ps hl) (hn : (ms.map (·.k)).Nodup) {m : Me Pl} (hm : m ∈ ms) :
    ∃ b x v s rest, m.v = .pointer (some ⟨b, 0, none⟩) ∧ findP ps m.k = some x ∧ hl.Perm ((b, cellsO [v, .bool x.dirty] 62) :: (s ++ rest)) ∧ Own byteE v x.b s ∧
      (∀ (x' : Pg) v' s', Own byteE v' x'.b s' → ∃ hl', hl'.Perm ((b, cellsO [v', .bool x'.dirty] 62) :: (s' ++ rest)) ∧ PagesAt ms (setP ps m.k x') hl') ∧ PagesAt (cutM ms m.k) (cutP ps m.k) rest := by
  induction h with
  | nil => cases hm
  | @cons ms ps hl s k x b born v h own ih =>
    rw [List.map_cons, List.nodup_cons] at hn
    have hks := h.keys
    rcases List.mem_cons.1 hm with rfl | hm'
    · have h1 : ∀ m ∈ ms, m.k ≠ k := fun m hm e => hn.1 (List.mem_map.2 ⟨m, hm, e⟩)
      have hno : ∀ p ∈ ps, p.1 ≠ k := fun p hp e => hn.1 (by rw [hks]; exact List.mem_map.2 ⟨p, hp, e⟩)
      refine ⟨b, x, v, s, hl, rfl, by simp [findP], .refl _, own, fun x' v' s' o => ⟨_, .refl _, ?_⟩, ?_⟩
      · have e : setP ((k, x) :: ps) k x' = (k, x') :: ps := by
          have := setP_none (x := x') hno
          simp only [setP] at this ⊢
          rw [List.map_cons, this, if_pos rfl]
        show PagesAt _ (setP ((k, x) :: ps) k x') _
        rw [e]
        exact .cons h o
      · have e1 := cutM_ofP h1
        have e2 := cutP_of hno
        simp only [cutM, cutP] at e1 e2
        simp only [cutM, cutP, List.filter_cons, decide_true, Bool.not_true, Bool.false_eq_true, ↓reduceIte, e1, e2]
        exact h
    · obtain ⟨b2, x2, v2, t, rest, e1, e2, hp, o, hset, hc⟩ := ih hn.2 hm'
      have hne : k ≠ m.k := fun e => hn.1 (List.mem_map.2 ⟨m, hm', e.symm⟩)
      refine ⟨b2, x2, v2, t, (b, cellsO [v, .bool x.dirty] 62) :: (s ++ rest), e1, ?_, ?_, o, fun x' v' s' p1 => ?_, ?_⟩
      · simp only [findP, List.find?_cons] at e2 ⊢
        rw [decide_eq_false hne]
        exact e2
      · exact ((hp.append_left s).cons _).trans (perm_mv _ _ _ _ _)
      · obtain ⟨hl', hp', h'⟩ := hset x' v' s' p1
        refine ⟨(b, cellsO [v, .bool x.dirty] 62) :: (s ++ hl'), ((hp'.append_left s).cons _).trans (perm_mv _ _ _ _ _), ?_⟩
        have e : setP ((k, x) :: ps) m.k x' = (k, x) :: setP ps m.k x' := by simp only [setP, List.map_cons]; rw [if_neg hne]
        rw [e]
        exact .cons h' own
      · simp only [cutM, cutP] at hc ⊢
        simp only [List.filter_cons, decide_eq_false hne, Bool.not_false, ↓reduceIte]
        exact .cons hc own
theorem PagesAt.snoc {ms : List (Me Pl)} {ps : List (Pl × Pg)} {hl s : Hl} {k : Pl} {x : Pg} {b born : Nat} {v : Value} (h : PagesAt ms ps hl) (own : Own byteE v x.b s) :
    ∃ hl', hl'.Perm ((b, cellsO [v, .bool x.dirty] 62) :: (s ++ hl)) ∧ PagesAt (ms ++ [⟨k, .pointer (some ⟨b, 0, none⟩), born⟩]) (ps ++ [(k, x)]) hl' := by
  induction h with
  | nil => exact ⟨_, .refl _, .cons .nil own⟩
  | @cons ms ps hl t k2 x2 b2 born2 v2 h o ih =>
    obtain ⟨hl', hp, h'⟩ := ih
    exact ⟨_, ((hp.append_left t).cons _).trans (perm_mv _ _ _ _ _), .cons h' o⟩

/-! ### Pages by their places -/
theorem findP_some {ps : List (Pl × Pg)} {k : Pl} {x : Pg} (h : findP ps k = some x) : (k, x) ∈ ps := by
  unfold findP at h
  cases hx : ps.find? fun p => decide (p.1 = k) with
  | none => rw [hx] at h; cases h
  | some p =>
    rw [hx] at h
    simp only [Option.map_some, Option.some.injEq] at h
    have h1 := List.find?_some hx
    simp only [decide_eq_true_eq] at h1
    have h2 := List.mem_of_find?_eq_some hx
    rw [← h, ← h1]
    exact h2
theorem findP_none {ps : List (Pl × Pg)} {k : Pl} (h : findP ps k = none) : ∀ p ∈ ps, p.1 ≠ k := by
  intro p hp e
  unfold findP at h
  rw [Option.map_eq_none_iff, List.find?_eq_none] at h
  exact h p hp (by simp [e])
theorem findP_mem {ps : List (Pl × Pg)} (hn : (ps.map (·.1)).Nodup) {k : Pl} {x : Pg} (h : (k, x) ∈ ps) : findP ps k = some x := by
  induction ps with
  | nil => cases h
  | cons p ps ih =>
    rw [List.map_cons, List.nodup_cons] at hn
    unfold findP
    rw [List.find?_cons]
    rcases List.mem_cons.1 h with rfl | h'
    · simp
    · have hne : p.1 ≠ k := fun e => hn.1 (List.mem_map.2 ⟨(k, x), h', e.symm⟩)
      simp only [hne, decide_false]
      exact ih hn.2 h'
theorem setP_keys (ps : List (Pl × Pg)) (k : Pl) (x : Pg) : (setP ps k x).map (·.1) = ps.map (·.1) := by
  unfold setP
  rw [List.map_map]
  exact List.map_congr_left fun p _ => by
    simp only [Function.comp]
    split
    · next h => exact h.symm
    · rfl
theorem mem_setP {ps : List (Pl × Pg)} {k : Pl} {x : Pg} {q : Pl × Pg} (h : q ∈ setP ps k x) : (q = (k, x)) ∨ (q ∈ ps ∧ q.1 ≠ k) := by
  obtain ⟨p, hp, rfl⟩ := List.mem_map.1 h
  by_cases e : p.1 = k
  · rw [if_pos e]; exact .inl rfl
  · rw [if_neg e]; exact .inr ⟨hp, e⟩
theorem mem_cutP {ps : List (Pl × Pg)} {k : Pl} {q : Pl × Pg} : q ∈ cutP ps k ↔ q ∈ ps ∧ q.1 ≠ k := by
  simp [cutP, List.mem_filter]
theorem cutP_keys (ps : List (Pl × Pg)) (k : Pl) : (cutP ps k).map (·.1) = (ps.map (·.1)).filter fun q => !decide (q = k) := by
  unfold cutP
  rw [List.filter_map]
  rfl
theorem findM_page {ms : List (Me Pl)} {ps : List (Pl × Pg)} {hl : Hl} (h : PagesAt ms ps hl) (hn : (ms.map (·.k)).Nodup) (k : Pl) :
    (findM ms k = none ∧ findP ps k = none) ∨ ∃ m x, findM ms k = some m ∧ m ∈ ms ∧ m.k = k ∧ findP ps k = some x := by
  cases hm : findM ms k with
  | none =>
    refine .inl ⟨rfl, ?_⟩
    have h1 := findM_none.1 hm
    cases hp : findP ps k with
    | none => rfl
    | some x =>
      have h2 := findP_some hp
      have : k ∈ ms.map (·.k) := by rw [h.keys]; exact List.mem_map.2 ⟨_, h2, rfl⟩
      obtain ⟨m, hm2, hk⟩ := List.mem_map.1 this
      exact absurd hk (h1 m hm2)
  | some m =>
    have hmm : m ∈ ms := List.mem_of_find?_eq_some hm
    have hmk : m.k = k := by simpa using List.find?_some hm
    obtain ⟨b, x, v, s, rest, _, hx, _⟩ := h.get hn hmm
    exact .inr ⟨m, x, rfl, hmm, hmk, by rw [← hmk]; exact hx⟩
end Go.Proofs.Ytjhegjcjplpmjaa
