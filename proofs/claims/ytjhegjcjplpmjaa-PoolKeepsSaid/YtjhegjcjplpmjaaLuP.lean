/- Caches as lists: what a cache's memory holds, and what its keys are. Nothing of the program's code. -/
import Derived.Test.YtjhegjcjplpmjaaSlM
namespace Go.Proofs.Ytjhegjcjplpmjaa
theorem Spec.permL {P : Program} {f : FuncId} {args : Array Value} {F : Fm} {h1 h2 : Hl} {post : Value → Hl → Prop} (h : Spec P f args F h2 post) (hp : h1.Perm h2) : Spec P f args F h1 post := fun w hw => h w (hw.perm hp)
set_option linter.unusedVariables false
set_option linter.unusedSectionVars false

/-- What is kept for a key: when it was used last, how often it is pinned; the block of it; the number of its entry. -/
structure Ce (κ : Type) where
  k : κ
  used : Nat
  pins : Nat
  blk : Nat
  born : Nat

section
variable {κ : Type} [DecidableEq κ]
abbrev meC (e : Ce κ) : Me κ := ⟨e.k, .pointer (some ⟨e.blk, 0, none⟩), e.born⟩
abbrev ebC (TE : TypeId) (e : Ce κ) : Nat × Obj := (e.blk, cellsO [.int .i64 (e.used : Int), .int .i64 (e.pins : Int)] TE)

/-- 'es': in the map's order; 'us': in the order in which they were used. -/
structure Good (ck mc : Nat) (es us : List (Ce κ)) : Prop where
  perm : es.Perm us
  keys : (us.map (·.k)).Nodup
  borns : (es.map (·.born)).Nodup
  old : ∀ e ∈ es, e.born < mc
  rise : us.Pairwise fun x y => x.used < y.used
  le : ∀ e ∈ us, e.used ≤ ck

def viewC (us : List (Ce κ)) : List (κ × Nat) := us.map fun e => (e.k, e.pins)
def hasK (L : List (κ × Nat)) (k : κ) : Bool := L.any fun p => decide (p.1 = k)

theorem hasK_view (us : List (Ce κ)) (k : κ) : hasK (viewC us) k = true ↔ ∃ e ∈ us, e.k = k := by
  simp [hasK, viewC]
theorem keys_me (es : List (Ce κ)) : (es.map meC).map (·.k) = es.map (·.k) := by simp [List.map_map, Function.comp_def]
theorem borns_me (es : List (Ce κ)) : (es.map meC).map (·.born) = es.map (·.born) := by simp [List.map_map, Function.comp_def]
theorem Good.nodup {ck mc : Nat} {es us : List (Ce κ)} (h : Good ck mc es us) : ((es.map meC).map (·.k)).Nodup := by
  rw [keys_me]; exact (h.perm.map _).nodup_iff.2 h.keys
/-- What a look-up gives. -/
theorem Good.look {ck mc : Nat} {es us : List (Ce κ)} (h : Good ck mc es us) (k : κ) :
    (hasK (viewC us) k = false ∧ findM (es.map meC) k = none) ∨ ∃ e ∈ us, e.k = k ∧ hasK (viewC us) k = true ∧ findM (es.map meC) k = some (meC e) := by
  cases hb : hasK (viewC us) k with
  | false =>
    refine .inl ⟨rfl, findM_none.2 fun m hm e => ?_⟩
    obtain ⟨x, hx, rfl⟩ := List.mem_map.1 hm
    have := (hasK_view us k).2 ⟨x, h.perm.mem_iff.1 hx, e⟩
    rw [hb] at this; cases this
  | true =>
    obtain ⟨e, he, hk⟩ := (hasK_view us k).1 hb
    exact .inr ⟨e, he, hk, rfl, findM_some h.nodup (List.mem_map.2 ⟨e, h.perm.mem_iff.2 he, rfl⟩) hk⟩

theorem born_inj {es : List (Ce κ)} (hb : (es.map (·.born)).Nodup) : ∀ {x y : Ce κ}, x ∈ es → y ∈ es → x.born = y.born → x = y := by
  induction es with
  | nil => intro x y hx; cases hx
  | cons a es ih =>
    rw [List.map_cons, List.nodup_cons] at hb
    intro x y hx hy e
    rcases List.mem_cons.1 hx with hx | hx <;> rcases List.mem_cons.1 hy with hy | hy
    · rw [hx, hy]
    · exact absurd (List.mem_map.2 ⟨y, hy, by rw [← e, hx]⟩) hb.1
    · exact absurd (List.mem_map.2 ⟨x, hx, by rw [e, hy]⟩) hb.1
    · exact ih hb.2 hx hy e
theorem seen_step {es dn : List (Ce κ)} {seen : Array Nat} {e : Ce κ} (hb : (es.map (·.born)).Nodup) (he : e ∈ es) (h : ∀ x ∈ es, seen.contains x.born = true ↔ x ∈ dn) :
    ∀ x ∈ es, (seen.push e.born).contains x.born = true ↔ x ∈ dn ++ [e] := fun x hx => by
  rw [Array.contains_push, Bool.or_eq_true, h x hx, List.mem_append, List.mem_singleton]
  constructor
  · rintro (h | h)
    · exact .inl h
    · exact .inr (born_inj hb hx he (by simpa using h))
  · rintro (h | h)
    · exact .inl h
    · exact .inr (by rw [h]; simp)
theorem nodup_of_born {es : List (Ce κ)} (hb : (es.map (·.born)).Nodup) : es.Nodup := by
  induction es with
  | nil => exact .nil
  | cons a es ih =>
    rw [List.map_cons, List.nodup_cons] at hb
    exact List.nodup_cons.2 ⟨fun h => hb.1 (List.mem_map.2 ⟨a, h, rfl⟩), ih hb.2⟩

/-- A cache's memory. -/
def CacheAt (kv : κ → Value) (TC TE cb fr ck : Nat) (L : List (κ × Nat)) (hl : Hl) : Prop :=
  ∃ mb mc es us, hl.Perm ((cb, cellsO [.int .i64 (fr : Int), .int .i64 (ck : Int), .map (some mb)] TC) :: (mb, mapO kv (es.map meC) mc) :: us.map (ebC TE)) ∧ Good ck mc es us ∧ L = viewC us

/-! ### What a cache does, on lists -/
def dropK (L : List (κ × Nat)) (k : κ) : List (κ × Nat) := L.filter fun p => !decide (p.1 = k)
def pinsK (L : List (κ × Nat)) (k : κ) : Nat := ((L.find? fun p => decide (p.1 = k)).map (·.2)).getD 0
/-- Use: what is left ahead of the key, its pins, what is gone, whether something is; none: all are pinned. -/
def useK (z : κ) (fr : Nat) (L : List (κ × Nat)) (k : κ) : Option (List (κ × Nat) × Nat × κ × Bool) :=
  if hasK L k = true then some (dropK L k, pinsK L k, z, false)
  else if fr ≤ L.length then
    match L.find? fun p => decide (p.2 = 0) with
    | none => none
    | some p => some (dropK L p.1, 0, p.1, true)
  else some (L, 0, z, false)
/-- The pins of a key become as many. -/
def setK (L : List (κ × Nat)) (k : κ) (n : Nat) : List (κ × Nat) := L.map fun p => if p.1 = k then (p.1, n) else p

theorem dropK_split {A B : List (Ce κ)} {e : Ce κ} (h : ((A ++ e :: B).map (·.k)).Nodup) : dropK (viewC (A ++ e :: B)) e.k = viewC (A ++ B) := by
  rw [List.map_append, List.map_cons, List.nodup_append, List.nodup_cons] at h
  have hA : ∀ x ∈ A, x.k ≠ e.k := fun x hx he => h.2.2 x.k (List.mem_map.2 ⟨x, hx, rfl⟩) e.k List.mem_cons_self he
  have hB : ∀ x ∈ B, x.k ≠ e.k := fun x hx he => h.2.1.1 (List.mem_map.2 ⟨x, hx, he⟩)
  simp only [dropK, viewC, List.map_append, List.map_cons, List.filter_append, List.filter_cons, decide_true, Bool.not_true, Bool.false_eq_true, if_false]
  congr 1
  · rw [List.filter_eq_self]; intro p hp; obtain ⟨x, hx, rfl⟩ := List.mem_map.1 hp; simp [hA x hx]
  · rw [List.filter_eq_self]; intro p hp; obtain ⟨x, hx, rfl⟩ := List.mem_map.1 hp; simp [hB x hx]
theorem pinsK_split {A B : List (Ce κ)} {e : Ce κ} (h : ((A ++ e :: B).map (·.k)).Nodup) : pinsK (viewC (A ++ e :: B)) e.k = e.pins := by
  rw [List.map_append, List.map_cons, List.nodup_append] at h
  have hA : ∀ x ∈ A, x.k ≠ e.k := fun x hx he => h.2.2 x.k (List.mem_map.2 ⟨x, hx, rfl⟩) e.k List.mem_cons_self he
  have h0 : (viewC A).find? (fun p => decide (p.1 = e.k)) = none := by
    rw [List.find?_eq_none]; intro p hp; obtain ⟨x, hx, rfl⟩ := List.mem_map.1 hp; simp [hA x hx]
  simp only [viewC] at h0
  simp [pinsK, viewC, List.find?_append, h0]
theorem setK_split {A B : List (Ce κ)} {e : Ce κ} (h : ((A ++ e :: B).map (·.k)).Nodup) (n : Nat) : setK (viewC (A ++ e :: B)) e.k n = viewC (A ++ { e with pins := n } :: B) := by
  rw [List.map_append, List.map_cons, List.nodup_append, List.nodup_cons] at h
  have hA : ∀ x ∈ A, x.k ≠ e.k := fun x hx he => h.2.2 x.k (List.mem_map.2 ⟨x, hx, rfl⟩) e.k List.mem_cons_self he
  have hB : ∀ x ∈ B, x.k ≠ e.k := fun x hx he => h.2.1.1 (List.mem_map.2 ⟨x, hx, he⟩)
  simp only [setK, viewC, List.map_append, List.map_cons, List.map_map, if_true]
  congr 1
  · apply List.map_congr_left; intro x hx; simp [hA x hx]
  · congr 1; apply List.map_congr_left; intro x hx; simp [hB x hx]

/-- An entry is used now: it is the last one. -/
theorem Good.last {ck mc : Nat} {es A B : List (Ce κ)} {e : Ce κ} (h : Good ck mc es (A ++ e :: B)) : Good (ck + 1) mc (es.map fun x => if x.k = e.k then { x with used := ck + 1 } else x) (A ++ (B ++ [{ e with used := ck + 1 }])) := by
  have hk := h.keys
  rw [List.map_append, List.map_cons, List.nodup_append, List.nodup_cons] at hk
  have hA : ∀ x ∈ A, x.k ≠ e.k := fun x hx he => hk.2.2 x.k (List.mem_map.2 ⟨x, hx, rfl⟩) e.k List.mem_cons_self he
  have hB : ∀ x ∈ B, x.k ≠ e.k := fun x hx he => hk.2.1.1 (List.mem_map.2 ⟨x, hx, he⟩)
  have hm : (A ++ e :: B).map (fun x => if x.k = e.k then { x with used := ck + 1 } else x) = A ++ { e with used := ck + 1 } :: B := by
    rw [List.map_append, List.map_cons, if_pos rfl]
    congr 1
    · conv => rhs; rw [← List.map_id A]
      apply List.map_congr_left; intro x hx; rw [if_neg (hA x hx)]; rfl
    · congr 1
      conv => rhs; rw [← List.map_id B]
      apply List.map_congr_left; intro x hx; rw [if_neg (hB x hx)]; rfl
  have hr := List.pairwise_append.1 h.rise
  have hr2 := List.pairwise_cons.1 hr.2.1
  refine ⟨?_, ?_, ?_, ?_, ?_, ?_⟩
  · have := h.perm.map (fun x => if x.k = e.k then { x with used := ck + 1 } else x)
    rw [hm] at this
    exact this.trans ((List.perm_append_singleton _ _).symm.append_left A)
  · have hp : ((A ++ (B ++ [({ e with used := ck + 1 } : Ce κ)])).map fun x => Ce.k x).Perm ((A ++ e :: B).map fun x => Ce.k x) := by
      simp only [List.map_append, List.map_cons, List.map_nil]
      exact (List.perm_append_singleton _ _).append_left _
    exact hp.nodup_iff.2 h.keys
  · have : (es.map fun x => if x.k = e.k then { x with used := ck + 1 } else x).map (·.born) = es.map (·.born) := by
      rw [List.map_map]; apply List.map_congr_left; intro x _; simp only [Function.comp]; split <;> rfl
    rw [this]; exact h.borns
  · intro x hx
    obtain ⟨y, hy, rfl⟩ := List.mem_map.1 hx
    have := h.old y hy
    split <;> exact this
  · rw [List.pairwise_append, List.pairwise_append]
    refine ⟨hr.1, ⟨hr2.2, List.pairwise_singleton _ _, fun x hx y hy => ?_⟩, fun x hx y hy => ?_⟩
    · rw [List.mem_singleton.1 hy]
      have := h.le x (List.mem_append_right _ (List.mem_cons_of_mem _ hx))
      show x.used < ck + 1
      omega
    · rcases List.mem_append.1 hy with hy | hy
      · exact hr.2.2 x hx y (List.mem_cons_of_mem _ hy)
      · rw [List.mem_singleton.1 hy]
        have := h.le x (List.mem_append_left _ hx)
        show x.used < ck + 1
        omega
  · intro x hx
    rcases List.mem_append.1 hx with hx | hx
    · have := h.le x (List.mem_append_left _ hx); omega
    · rcases List.mem_append.1 hx with hx | hx
      · have := h.le x (List.mem_append_right _ (List.mem_cons_of_mem _ hx)); omega
      · rw [List.mem_singleton.1 hx]; exact Nat.le_refl _
theorem me_last (es : List (Ce κ)) (k : κ) (n : Nat) : (es.map fun x => if x.k = k then { x with used := n } else x).map meC = es.map meC := by
  rw [List.map_map]; apply List.map_congr_left; intro x _; simp only [Function.comp]; split <;> rfl
/-- .. is gone. -/
theorem Good.gone {ck mc : Nat} {es A B : List (Ce κ)} {e : Ce κ} (h : Good ck mc es (A ++ e :: B)) : Good ck mc (es.filter fun x => !decide (x.k = e.k)) (A ++ B) := by
  have hk := h.keys
  rw [List.map_append, List.map_cons, List.nodup_append, List.nodup_cons] at hk
  have hA : ∀ x ∈ A, x.k ≠ e.k := fun x hx he => hk.2.2 x.k (List.mem_map.2 ⟨x, hx, rfl⟩) e.k List.mem_cons_self he
  have hB : ∀ x ∈ B, x.k ≠ e.k := fun x hx he => hk.2.1.1 (List.mem_map.2 ⟨x, hx, he⟩)
  have hs : (A ++ B).Sublist (A ++ e :: B) := (List.Sublist.refl A).append (List.sublist_cons_self _ _)
  refine ⟨?_, ((hs.map _).nodup h.keys), ((List.filter_sublist (p := fun x : Ce κ => !decide (x.k = e.k))).map _).nodup h.borns, fun x hx => h.old x (List.mem_filter.1 hx).1, h.rise.sublist hs, fun x hx => h.le x (hs.subset hx)⟩
  have := h.perm.filter (fun x => !decide (x.k = e.k))
  have e2 : (A ++ e :: B).filter (fun x => !decide (x.k = e.k)) = A ++ B := by
    rw [List.filter_append, List.filter_cons]
    simp only [decide_true, Bool.not_true, Bool.false_eq_true, if_false]
    congr 1
    · rw [List.filter_eq_self]; intro x hx; simp [hA x hx]
    · rw [List.filter_eq_self]; intro x hx; simp [hB x hx]
  rw [e2] at this; exact this
theorem me_gone (es : List (Ce κ)) (k : κ) : (es.filter fun x => !decide (x.k = k)).map meC = cutM (es.map meC) k := by
  rw [cutM, List.filter_map]; rfl
/-- .. comes, used now. -/
theorem Good.come {ck mc : Nat} {es us : List (Ce κ)} (h : Good ck mc es us) (k : κ) (hk : hasK (viewC us) k = false) (b : Nat) : Good (ck + 1) (mc + 1) (es ++ [⟨k, ck + 1, 0, b, mc⟩]) (us ++ [⟨k, ck + 1, 0, b, mc⟩]) := by
  have hno : ∀ x ∈ us, x.k ≠ k := fun x hx he => by
    have := (hasK_view us k).2 ⟨x, hx, he⟩
    rw [hk] at this; cases this
  refine ⟨h.perm.append_right _, ?_, ?_, ?_, ?_, ?_⟩
  · rw [List.map_append, List.nodup_append]
    refine ⟨h.keys, by simp, fun x hx y hy e => ?_⟩
    obtain ⟨z, hz, rfl⟩ := List.mem_map.1 hx
    simp at hy
    exact hno z hz (e.trans hy)
  · rw [List.map_append, List.nodup_append]
    refine ⟨h.borns, by simp, fun x hx y hy e => ?_⟩
    obtain ⟨z, hz, rfl⟩ := List.mem_map.1 hx
    simp at hy
    have := h.old z hz
    omega
  · intro x hx
    rcases List.mem_append.1 hx with hx | hx
    · have := h.old x hx; omega
    · rw [List.mem_singleton.1 hx]; exact Nat.lt_succ_self _
  · rw [List.pairwise_append]
    refine ⟨h.rise, List.pairwise_singleton _ _, fun x hx y hy => ?_⟩
    rw [List.mem_singleton.1 hy]
    have := h.le x hx
    show x.used < ck + 1
    omega
  · intro x hx
    rcases List.mem_append.1 hx with hx | hx
    · have := h.le x hx; omega
    · rw [List.mem_singleton.1 hx]; exact Nat.le_refl _
/-- Pins alone turn. -/
theorem Good.pin {ck mc : Nat} {es A B : List (Ce κ)} {e : Ce κ} (h : Good ck mc es (A ++ e :: B)) (n : Nat) : Good ck mc (es.map fun x => if x.k = e.k then { x with pins := n } else x) (A ++ { e with pins := n } :: B) := by
  have hk := h.keys
  rw [List.map_append, List.map_cons, List.nodup_append, List.nodup_cons] at hk
  have hA : ∀ x ∈ A, x.k ≠ e.k := fun x hx he => hk.2.2 x.k (List.mem_map.2 ⟨x, hx, rfl⟩) e.k List.mem_cons_self he
  have hB : ∀ x ∈ B, x.k ≠ e.k := fun x hx he => hk.2.1.1 (List.mem_map.2 ⟨x, hx, he⟩)
  have hm : (A ++ e :: B).map (fun x => if x.k = e.k then { x with pins := n } else x) = A ++ { e with pins := n } :: B := by
    rw [List.map_append, List.map_cons, if_pos rfl]
    congr 1
    · conv => rhs; rw [← List.map_id A]
      apply List.map_congr_left; intro x hx; rw [if_neg (hA x hx)]; rfl
    · congr 1
      conv => rhs; rw [← List.map_id B]
      apply List.map_congr_left; intro x hx; rw [if_neg (hB x hx)]; rfl
  have hu : ∀ x : Ce κ, (if x.k = e.k then { x with pins := n } else x).used = x.used := fun x => by split <;> rfl
  refine ⟨?_, ?_, ?_, ?_, ?_, ?_⟩
  · have := h.perm.map (fun x => if x.k = e.k then { x with pins := n } else x)
    rwa [hm] at this
  · simpa using h.keys
  · have : (es.map fun x => if x.k = e.k then { x with pins := n } else x).map (·.born) = es.map (·.born) := by
      rw [List.map_map]; apply List.map_congr_left; intro x _; simp only [Function.comp]; split <;> rfl
    rw [this]; exact h.borns
  · intro x hx
    obtain ⟨y, hy, rfl⟩ := List.mem_map.1 hx
    have := h.old y hy
    split <;> exact this
  · rw [← hm, List.pairwise_map]
    exact h.rise.imp (fun {a b} hab => by rw [hu, hu]; exact hab)
  · intro x hx
    rw [← hm] at hx
    obtain ⟨y, hy, rfl⟩ := List.mem_map.1 hx
    rw [hu]; exact h.le y hy
theorem me_pin (es : List (Ce κ)) (k : κ) (n : Nat) : (es.map fun x => if x.k = k then { x with pins := n } else x).map meC = es.map meC := by
  rw [List.map_map]; apply List.map_congr_left; intro x _; simp only [Function.comp]; split <;> rfl

theorem perm_back (x y z : Nat × Obj) (A B : Hl) : (x :: y :: z :: (A ++ B)).Perm (y :: z :: (A ++ x :: B)) := by
  have := (List.perm_middle (a := x) (l₁ := y :: z :: A) (l₂ := B)).symm
  simpa using this

/-- One order: what is sorted by what rises. -/
theorem sorted_one {α : Type} (f : α → Int) : ∀ {l us : List α}, l.Perm us → l.Pairwise (fun x y => f x ≤ f y) → us.Pairwise (fun x y => f x < f y) → l = us
  | [], us, hp, _, _ => (List.nil_perm.1 hp).symm
  | x :: l, [], hp, _, _ => by simp at hp
  | x :: l, y :: us, hp, hl, hu => by
    have hxy : x = y := by
      rcases List.mem_cons.1 (hp.mem_iff.1 List.mem_cons_self) with e | hx
      · exact e
      · rcases List.mem_cons.1 (hp.mem_iff.2 List.mem_cons_self) with e | hy
        · exact e.symm
        · have h1 := (List.pairwise_cons.1 hl).1 y hy
          have h2 := (List.pairwise_cons.1 hu).1 x hx
          omega
    subst hxy
    rw [sorted_one f hp.cons_inv (List.pairwise_cons.1 hl).2 (List.pairwise_cons.1 hu).2]
end
end Go.Proofs.Ytjhegjcjplpmjaa
