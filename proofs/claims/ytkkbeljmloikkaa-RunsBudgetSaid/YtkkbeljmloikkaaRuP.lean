/- Records combined: plain. -/
import Derived.Test.YtkkbeljmloikkaaHpP
namespace Go.Proofs.Ytkkbeljmloikkaa
set_option linter.unusedVariables false

theorem eq_nil_or_snoc {α : Type} : ∀ l : List α, l = [] ∨ ∃ m x, l = m ++ [x] := fun l => by
  rcases List.eq_nil_or_concat l with h | ⟨m, x, h⟩
  · exact .inl h
  · exact .inr ⟨m, x, by simpa using h⟩
/-- lists from their end -/
theorem snocRec {α : Type} {motive : List α → Prop} (l : List α) (nil : motive []) (snoc : ∀ (l : List α) (r : α), motive l → motive (l ++ [r])) : motive l := by
  rw [← List.reverse_reverse l]
  induction l.reverse with
  | nil => exact nil
  | cons x m ih => rw [List.reverse_cons]; exact snoc _ _ ih
def InR (r : Rc) : Prop := (0 ≤ r.key ∧ r.key < 18446744073709551616) ∧ (0 ≤ r.val ∧ r.val < 18446744073709551616)
/-- two values of one key -/
def comb (how a b : Int) : Int := if how = 1 then (if a + b < 18446744073709551616 then a + b else 18446744073709551615) else min a b
theorem comb_in {how a b : Int} (ha : 0 ≤ a ∧ a < 18446744073709551616) (hb : 0 ≤ b ∧ b < 18446744073709551616) : 0 ≤ comb how a b ∧ comb how a b < 18446744073709551616 := by
  unfold comb; split <;> (try split) <;> omega
theorem comb_comm (how a b : Int) : comb how a b = comb how b a := by
  unfold comb; split
  · rw [Int.add_comm]
  · omega
theorem comb_assoc {how a b c : Int} (ha : 0 ≤ a) (hb : 0 ≤ b) (hc : 0 ≤ c) : comb how (comb how a b) c = comb how a (comb how b c) := by
  unfold comb; split
  · split <;> split <;> (try split) <;> (try split) <;> omega
  · omega

/-- one record more -/
def stepC (how : Int) (out : List Rc) (r : Rc) : List Rc :=
  if how ≠ 0 ∧ 0 < out.length ∧ out[out.length - 1]!.key = r.key then out.set (out.length - 1) ⟨r.key, comb how out[out.length - 1]!.val r.val⟩ else out ++ [r]
def foldC (how : Int) (l : List Rc) : List Rc := l.foldl (stepC how) []
def sortedG (how : Int) (l : List Rc) : List Rc := foldC how (sortL l)
theorem foldC_snoc (how : Int) (l : List Rc) (r : Rc) : foldC how (l ++ [r]) = stepC how (foldC how l) r := by simp [foldC]
theorem stepC_length (how : Int) (out : List Rc) (r : Rc) : (stepC how out r).length ≤ out.length + 1 := by unfold stepC; split <;> simp
theorem foldC_length (how : Int) (l : List Rc) : (foldC how l).length ≤ l.length := by
  induction l using snocRec with
  | nil => simp [foldC]
  | snoc l r ih => rw [foldC_snoc]; have := stepC_length how (foldC how l) r; simp; omega

/-! ### A row that rises is the only one -/
theorem rises_unique : ∀ {a b : List Rc}, Rises a → Rises b → a.Perm b → a = b
  | [], b, _, _, hp => (List.nil_perm.1 hp).symm
  | x :: a, [], _, _, hp => List.perm_nil.1 hp
  | x :: a, y :: b, ha, hb, hp => by
    have hx : x ∈ y :: b := hp.mem_iff.1 List.mem_cons_self
    have hy : y ∈ x :: a := hp.mem_iff.2 List.mem_cons_self
    have e : x = y := by
      rcases List.mem_cons.1 hx with h | h
      · exact h
      · rcases List.mem_cons.1 hy with h2 | h2
        · exact h2.symm
        · exact geR_antisymm ((List.pairwise_cons.1 hb).1 x h) ((List.pairwise_cons.1 ha).1 y h2)
    subst e
    rw [rises_unique (List.pairwise_cons.1 ha).2 (List.pairwise_cons.1 hb).2 (List.Perm.cons_inv hp)]
theorem sortL_perm (l : List Rc) : (sortL l).Perm l := sort_perm l []
theorem sortL_rises (l : List Rc) : Rises (sortL l) := sort_rises l [] .nil
theorem sortL_of {l zs : List Rc} (hp : zs.Perm l) (hr : Rises zs) : zs = sortL l := rises_unique hr (sortL_rises l) (hp.trans (sortL_perm l).symm)
theorem sortL_congr {l m : List Rc} (h : l.Perm m) : sortL l = sortL m := sortL_of ((sortL_perm l).trans h) (sortL_rises l)
theorem sortedG_congr {how : Int} {l m : List Rc} (h : l.Perm m) : sortedG how l = sortedG how m := by rw [sortedG, sortedG, sortL_congr h]
theorem sortL_self {l : List Rc} (h : Rises l) : sortL l = l := (sortL_of (.refl _) h).symm

/-! ### Nothing combined -/
theorem foldC_zero (l : List Rc) : foldC 0 l = l := by
  induction l using snocRec with
  | nil => rfl
  | snoc l r ih => rw [foldC_snoc, ih]; simp [stepC]
theorem sortedG_zero (l : List Rc) : sortedG 0 l = sortL l := foldC_zero _

/-! ### What a key's values make -/
def addO (how : Int) : Option Int → Int → Option Int
  | none, v => some v
  | some a, v => some (comb how a v)
def tot (how k : Int) (l : List Rc) : Option Int := l.foldl (fun acc r => if r.key = k then addO how acc r.val else acc) none
theorem tot_snoc (how k : Int) (l : List Rc) (r : Rc) : tot how k (l ++ [r]) = if r.key = k then addO how (tot how k l) r.val else tot how k l := by simp [tot]
def joinO (how : Int) : Option Int → Option Int → Option Int
  | none, b => b
  | some a, none => some a
  | some a, some b => some (comb how a b)
def NN (l : List Rc) : Prop := ∀ r ∈ l, 0 ≤ r.val
theorem comb_nn {how a b : Int} (ha : 0 ≤ a) (hb : 0 ≤ b) : 0 ≤ comb how a b := by unfold comb; split <;> (try split) <;> omega
theorem tot_nn {how k : Int} {l : List Rc} (h : NN l) : ∀ v, tot how k l = some v → 0 ≤ v := by
  induction l using snocRec with
  | nil => intro v hv; simp [tot] at hv
  | snoc l r ih =>
    intro v hv
    have hl := ih fun x hx => h x (List.mem_append_left _ hx)
    have hr := h r (by simp)
    rw [tot_snoc] at hv
    split at hv
    · cases ht : tot how k l with
      | none => rw [ht] at hv; cases hv; exact hr
      | some a => rw [ht] at hv; cases hv; exact comb_nn (hl a ht) hr
    · exact hl v hv
theorem tot_append {how k : Int} {l m : List Rc} (hl : NN l) (hm : NN m) : tot how k (l ++ m) = joinO how (tot how k l) (tot how k m) := by
  induction m using snocRec with
  | nil => simp [tot, joinO]; cases (List.foldl _ none l) <;> rfl
  | snoc m r ih =>
    have hm' : NN m := fun x hx => hm x (List.mem_append_left _ hx)
    have hr := hm r (by simp)
    rw [← List.append_assoc, tot_snoc, tot_snoc, ih hm']
    split
    · cases h1 : tot how k l with
      | none => rfl
      | some a =>
        cases h2 : tot how k m with
        | none => rfl
        | some b => simp only [joinO, addO]; rw [comb_assoc (tot_nn hl a h1) (tot_nn hm' b h2) hr]
    · rfl
theorem tot_one (how k : Int) (r : Rc) : tot how k [r] = if r.key = k then some r.val else none := by simp [tot, addO]
theorem joinO_comm (how : Int) (a b : Option Int) : joinO how a b = joinO how b a := by
  cases a <;> cases b <;> simp [joinO, comb_comm]
theorem NN.app {l m : List Rc} (hl : NN l) (hm : NN m) : NN (l ++ m) := fun x hx => (List.mem_append.1 hx).elim (hl x) (hm x)
theorem tot_perm {how k : Int} {l m : List Rc} (h : l.Perm m) : NN l → tot how k l = tot how k m := by
  induction h with
  | nil => intro _; rfl
  | cons x hp ih =>
    intro hn
    have h1 : NN [x] := fun y hy => hn y (by simp at hy; simp [hy])
    have h2 := fun y hy => hn y (List.mem_cons_of_mem x hy)
    have e1 := tot_append (how := how) (k := k) h1 h2
    have e2 := tot_append (how := how) (k := k) h1 (fun y hy => h2 y (hp.mem_iff.2 hy))
    rw [← ih h2, ← e1] at e2
    exact e2.symm
  | swap x y l =>
    intro hn
    have hx : NN [x] := fun z hz => hn z (by simp at hz; simp [hz])
    have hy : NN [y] := fun z hz => hn z (by simp at hz; simp [hz])
    have hl : NN l := fun z hz => hn z (by simp [hz])
    rw [show y :: x :: l = ([y] ++ [x]) ++ l from rfl, show x :: y :: l = ([x] ++ [y]) ++ l from rfl, tot_append (hy.app hx) hl, tot_append (hx.app hy) hl, tot_append hy hx, tot_append hx hy, joinO_comm how (tot how k [y])]
  | trans h1 h2 ih1 ih2 =>
    intro hn
    rw [ih1 hn, ih2 fun y hy => hn y (h1.mem_iff.2 hy)]

/-! ### What is combined: each key once, rising, with what its values make -/
def KeysUp (l : List Rc) : Prop := l.Pairwise fun a b => a.key < b.key
/-- The last one of a row. -/
theorem snoc_last (l : List Rc) (r : Rc) : (l ++ [r])[(l ++ [r]).length - 1]! = r := by
  rw [getElem!_pos _ _ (by simp)]; simp
theorem snoc_set (l : List Rc) (r x : Rc) : (l ++ [r]).set ((l ++ [r]).length - 1) x = l ++ [x] := by simp
theorem stepC_snoc (how : Int) (l : List Rc) (x r : Rc) : stepC how (l ++ [x]) r = if how ≠ 0 ∧ x.key = r.key then l ++ [⟨r.key, comb how x.val r.val⟩] else l ++ [x] ++ [r] := by
  unfold stepC
  rw [snoc_last, snoc_set]
  by_cases h : how ≠ 0 ∧ x.key = r.key
  · rw [if_pos h, if_pos ⟨h.1, by simp, h.2⟩]
  · rw [if_neg h, if_neg (fun h' => h ⟨h'.1, h'.2.2⟩)]
theorem stepC_nil (how : Int) (r : Rc) : stepC how [] r = [r] := by simp [stepC]

theorem fold_spec {how : Int} (h0 : how ≠ 0) (l : List Rc) : (l.Pairwise fun a b => a.key ≤ b.key) → NN l →
    KeysUp (foldC how l) ∧ (∀ k, tot how k (foldC how l) = tot how k l) ∧ NN (foldC how l) ∧ (∀ x ∈ foldC how l, ∃ y ∈ l, y.key = x.key) := by
  induction l using snocRec with
  | nil => intro _ _; exact ⟨.nil, fun _ => rfl, fun _ h => absurd h List.not_mem_nil, fun _ h => absurd h List.not_mem_nil⟩
  | snoc l r ih =>
    intro hs hn
    rw [List.pairwise_append] at hs
    have hn' : NN l := fun x hx => hn x (List.mem_append_left _ hx)
    have hr := hn r (by simp)
    obtain ⟨h1, h2, h3, h4⟩ := ih hs.1 hn'
    have hle : ∀ x ∈ foldC how l, x.key ≤ r.key := fun x hx => by
      obtain ⟨y, hy, e⟩ := h4 x hx
      rw [← e]
      exact hs.2.2 y hy r (by simp)
    rw [foldC_snoc]
    rcases eq_nil_or_snoc (foldC how l) with hf | ⟨m, x, hf⟩
    · rw [hf] at h2 ⊢
      rw [stepC_nil]
      refine ⟨by simp [KeysUp], fun k => ?_, fun y hy => by simp at hy; rw [hy]; exact hr, fun y hy => ⟨r, by simp, by simp at hy; rw [hy]⟩⟩
      rw [tot_snoc, ← h2 k, tot_one]
      rfl
    · rw [hf] at h1 h2 h3 h4 hle ⊢
      rw [stepC_snoc]
      have hxle := hle x (by simp)
      have hxn : 0 ≤ x.val := h3 x (by simp)
      have hmn : NN m := fun y hy => h3 y (List.mem_append_left _ hy)
      rw [KeysUp, List.pairwise_append] at h1
      by_cases he : x.key = r.key
      · rw [if_pos ⟨h0, he⟩]
        refine ⟨?_, fun k => ?_, ?_, ?_⟩
        · rw [KeysUp, List.pairwise_append]
          exact ⟨h1.1, by simp, fun a ha b hb => by simp at hb; rw [hb, ← he]; exact h1.2.2 a ha x (by simp)⟩
        · rw [tot_snoc, tot_snoc, ← h2 k, tot_snoc]
          simp only [he]
          by_cases hk : r.key = k
          · rw [if_pos hk, if_pos hk, if_pos hk]
            cases ht : tot how k m with
            | none => rfl
            | some a => simp only [addO]; rw [comb_assoc (tot_nn hmn a ht) hxn hr]
          · rw [if_neg hk, if_neg hk, if_neg hk]
        · exact hmn.app fun y hy => by simp at hy; rw [hy]; exact comb_nn hxn hr
        · intro y hy
          rcases List.mem_append.1 hy with hy | hy
          · obtain ⟨z, hz, e⟩ := h4 y (List.mem_append_left _ hy)
            exact ⟨z, List.mem_append_left _ hz, e⟩
          · simp at hy; exact ⟨r, by simp, by rw [hy]⟩
      · rw [if_neg (fun h => he h.2)]
        refine ⟨?_, fun k => ?_, ?_, ?_⟩
        · rw [KeysUp, List.pairwise_append]
          refine ⟨by rw [List.pairwise_append]; exact h1, by simp, fun a ha b hb => ?_⟩
          simp at hb
          rw [hb]
          rcases List.mem_append.1 ha with ha | ha
          · have := h1.2.2 a ha x (by simp); omega
          · simp at ha; rw [ha]; omega
        · rw [tot_snoc, tot_snoc how k l, h2 k]
        · exact h3.app fun y hy => by simp at hy; rw [hy]; exact hr
        · intro y hy
          rcases List.mem_append.1 hy with hy | hy
          · obtain ⟨z, hz, e⟩ := h4 y hy
            exact ⟨z, List.mem_append_left _ hz, e⟩
          · simp at hy; exact ⟨r, by simp, by rw [hy]⟩

theorem tot_none {how k : Int} {l : List Rc} : (∀ x ∈ l, x.key ≠ k) → tot how k l = none := by
  induction l using snocRec with
  | nil => intro _; rfl
  | snoc l r ih =>
    intro h
    rw [tot_snoc, if_neg (h r (by simp)), ih fun x hx => h x (List.mem_append_left _ hx)]
theorem tot_cons {how k : Int} {x : Rc} {l : List Rc} (hn : NN (x :: l)) : tot how k (x :: l) = joinO how (if x.key = k then some x.val else none) (tot how k l) := by
  rw [← List.singleton_append, tot_append (fun y hy => hn y (by simp at hy; simp [hy])) (fun y hy => hn y (by simp [hy])), tot_one]
/-- Rows of which each key stands once, rising, are the same just if each key's values make the same. -/
theorem keys_unique {how : Int} : ∀ {a b : List Rc}, KeysUp a → KeysUp b → NN a → NN b → (∀ k, tot how k a = tot how k b) → a = b
  | [], [], _, _, _, _, _ => rfl
  | [], y :: b, _, hb, _, nb, h => by
    have := h y.key
    rw [tot_cons nb, if_pos rfl] at this
    cases ht : tot how y.key b <;> rw [ht] at this <;> simp [tot, joinO] at this
  | x :: a, [], ha, _, na, _, h => by
    have := h x.key
    rw [tot_cons na, if_pos rfl] at this
    cases ht : tot how x.key a <;> rw [ht] at this <;> simp [tot, joinO] at this
  | x :: a, y :: b, ha, hb, na, nb, h => by
    have hax := List.pairwise_cons.1 ha
    have hby := List.pairwise_cons.1 hb
    have na' : NN a := fun z hz => na z (by simp [hz])
    have nb' : NN b := fun z hz => nb z (by simp [hz])
    have n1 : ∀ k, k ≤ x.key → tot how k a = none := fun k hk => tot_none fun z hz => by have := hax.1 z hz; omega
    have n2 : ∀ k, k ≤ y.key → tot how k b = none := fun k hk => tot_none fun z hz => by have := hby.1 z hz; omega
    have hkey : x.key = y.key := by
      rcases Int.lt_trichotomy x.key y.key with hlt | he | hlt
      · have := h x.key
        rw [tot_cons na, tot_cons nb, if_pos rfl, if_neg (by omega), n1 _ (Int.le_refl _), n2 _ (by omega)] at this
        cases this
      · exact he
      · have := h y.key
        rw [tot_cons na, tot_cons nb, if_pos rfl, if_neg (by omega), n1 _ (by omega), n2 _ (Int.le_refl _)] at this
        cases this
    have hval : x.val = y.val := by
      have := h x.key
      rw [tot_cons na, tot_cons nb, if_pos rfl, if_pos hkey.symm, n1 _ (Int.le_refl _), n2 _ (by omega)] at this
      simpa [joinO] using this
    have hxy : x = y := by cases x; cases y; simp at hkey hval; simp [hkey, hval]
    subst hxy
    have hk : ∀ k, tot how k a = tot how k b := fun k => by
      have hk := h k
      rw [tot_cons na, tot_cons nb] at hk
      by_cases e : x.key = k
      · rw [n1 k (by omega), n2 k (by omega)]
      · rw [if_neg e] at hk
        cases h1 : tot how k a <;> cases h2 : tot how k b <;> rw [h1, h2] at hk <;> first | rfl | exact hk
    rw [keys_unique hax.2 hby.2 na' nb' hk]

theorem rises_keys {l : List Rc} (h : Rises l) : l.Pairwise fun a b => a.key ≤ b.key := h.imp fun {a b} h => by
  rw [← Bool.not_eq_true, ltR_iff] at h
  omega
theorem keysUp_rises {l : List Rc} (h : KeysUp l) : Rises l := h.imp fun {a b} h => by
  rw [← Bool.not_eq_true, ltR_iff]
  omega
theorem NN.perm {l m : List Rc} (h : l.Perm m) (hn : NN l) : NN m := fun x hx => hn x (h.mem_iff.2 hx)
/-- what is sorted and combined -/
theorem sortedG_spec {how : Int} (h0 : how ≠ 0) {l : List Rc} (hn : NN l) :
    KeysUp (sortedG how l) ∧ (∀ k, tot how k (sortedG how l) = tot how k l) ∧ NN (sortedG how l) ∧ (∀ x ∈ sortedG how l, ∃ y ∈ l, y.key = x.key) := by
  obtain ⟨h1, h2, h3, h4⟩ := fold_spec h0 (sortL l) (rises_keys (sortL_rises l)) (hn.perm (sortL_perm l).symm)
  exact ⟨h1, fun k => (h2 k).trans (tot_perm (sortL_perm l) (hn.perm (sortL_perm l).symm)), h3, fun x hx => (h4 x hx).imp fun y hy => ⟨(sortL_perm l).mem_iff.1 hy.1, hy.2⟩⟩
theorem sortedG_nn {how : Int} {l : List Rc} (hn : NN l) : NN (sortedG how l) := by
  by_cases h : how = 0
  · rw [h, sortedG_zero]; exact hn.perm (sortL_perm l).symm
  · exact (sortedG_spec h hn).2.2.1
theorem sortedG_rises {how : Int} {l : List Rc} (hn : NN l) : Rises (sortedG how l) := by
  by_cases h : how = 0
  · rw [h, sortedG_zero]; exact sortL_rises l
  · exact keysUp_rises (sortedG_spec h hn).1
/-- Parts that were sorted and combined by themselves. -/
theorem sortedG_join {how : Int} {l m : List Rc} (hl : NN l) (hm : NN m) : sortedG how (sortedG how l ++ m) = sortedG how (l ++ m) := by
  by_cases h : how = 0
  · have e := sortedG_zero l
    rw [h, e]
    exact sortedG_congr ((sortL_perm l).append_right m)
  · have hs := sortedG_nn (how := how) hl
    obtain ⟨a1, a2, a3, _⟩ := sortedG_spec h (hs.app hm)
    obtain ⟨b1, b2, b3, _⟩ := sortedG_spec h (hl.app hm)
    refine keys_unique (how := how) a1 b1 a3 b3 fun k => ?_
    rw [a2, b2, tot_append hs hm, tot_append hl hm, (sortedG_spec h hl).2.1]
theorem NN.flat {xss : List (List Rc)} (h : ∀ xs ∈ xss, NN xs) : NN xss.flatten := fun x hx => by
  obtain ⟨xs, h1, h2⟩ := List.mem_flatten.1 hx
  exact h xs h1 x h2
theorem sortedG_parts {how : Int} : ∀ (xss : List (List Rc)) (m : List Rc), (∀ xs ∈ xss, NN xs) → NN m → sortedG how ((xss.map (sortedG how)).flatten ++ m) = sortedG how (xss.flatten ++ m)
  | [], m, _, _ => rfl
  | xs :: xss, m, h, hm => by
    have h1 : NN xs := h xs (by simp)
    have h2 : ∀ ys ∈ xss, NN ys := fun ys hy => h ys (by simp [hy])
    have hs : NN (xss.map (sortedG how)).flatten := NN.flat fun ys hy => by
      obtain ⟨zs, hz, rfl⟩ := List.mem_map.1 hy
      exact sortedG_nn (h2 zs hz)
    rw [List.map_cons, List.flatten_cons, List.flatten_cons, List.append_assoc, sortedG_join h1 (hs.app hm)]
    have e : (xs ++ ((xss.map (sortedG how)).flatten ++ m)).Perm ((xss.map (sortedG how)).flatten ++ (m ++ xs)) := by
      rw [← List.append_assoc ((xss.map (sortedG how)).flatten)]
      exact List.perm_append_comm
    have e2 : (xs ++ xss.flatten ++ m).Perm (xss.flatten ++ (m ++ xs)) := by
      rw [List.append_assoc, ← List.append_assoc xss.flatten]
      exact List.perm_append_comm
    rw [sortedG_congr e, sortedG_congr e2]
    exact sortedG_parts xss (m ++ xs) h2 (hm.app h1)
theorem sortedG_idem {how : Int} {l : List Rc} (hl : NN l) : sortedG how (sortedG how l) = sortedG how l := by
  have := sortedG_join (how := how) hl (m := []) (fun _ h => by cases h)
  simpa using this
end Go.Proofs.Ytkkbeljmloikkaa
