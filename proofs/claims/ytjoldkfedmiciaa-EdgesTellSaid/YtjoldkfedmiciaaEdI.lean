/- Graphs: what was told is read as it was. Plain. -/
import Derived.Test.YtjoldkfedmiciaaEdH
namespace Go.Proofs.Ytjoldkfedmiciaa
set_option linter.unusedVariables false

theorem getB_mid (A B : List UInt8) (n : Nat) (hn : n < 4294967296) : getB (A ++ (leBytes 4 n ++ B)) A.length 4 = n := by
  unfold getB
  rw [List.drop_left' rfl, List.take_left' (leBytes_length 4 n), leNum_leBytes]
  exact Nat.mod_eq_of_lt (by simpa using hn)
theorem encE_split (e : Eg) : encE e = leBytes 4 e.f ++ (leBytes 4 e.t ++ leBytes 4 e.w) := by simp [encE, nums]
theorem encG_length (M : Nat) (es : List Eg) : (encG M es).length = 4 + 12 * es.length := by
  rw [encG, List.length_append, leBytes_length, encs_length]
theorem encG_head (M : Nat) (hM : M ≤ 1048576) (es : List Eg) : getB (encG M es) 0 4 = M := by
  have := getB_mid [] (es.flatMap encE) M (by omega)
  simpa [encG] using this
theorem encG_at (M : Nat) (es : List Eg) (hE : ∀ e ∈ es, InE e) {i : Nat} (hi : i < es.length) : egAt (encG M es) i = es[i]! := by
  have hx : es[i]! = es[i] := getElem!_pos es i hi
  have hin : InE es[i]! := by rw [hx]; exact hE _ (List.getElem_mem _)
  have e1 : es = es.take i ++ (es[i]! :: es.drop (i + 1)) := by
    rw [hx, ← List.drop_eq_getElem_cons hi, List.take_append_drop]
  have hl : (es.take i).length = i := by simp; omega
  generalize hA : es.take i = A at e1 hl
  generalize hB : es.drop (i + 1) = B at e1
  generalize es[i]! = x at e1 hin ⊢
  subst e1
  have hb : encG M (A ++ x :: B) = (leBytes 4 M ++ A.flatMap encE) ++ (encE x ++ B.flatMap encE) := by simp [encG]
  have hlA : (leBytes 4 M ++ A.flatMap encE).length = 4 + 12 * i := by rw [List.length_append, leBytes_length, encs_length, hl]
  rw [hb, encE_split]
  generalize leBytes 4 M ++ A.flatMap encE = C at hlA
  generalize B.flatMap encE = D
  have g1 : getB (C ++ (leBytes 4 x.f ++ (leBytes 4 x.t ++ leBytes 4 x.w) ++ D)) (4 + 12 * i) 4 = x.f := by
    have := getB_mid C ((leBytes 4 x.t ++ leBytes 4 x.w) ++ D) x.f hin.1
    rw [hlA] at this
    simpa using this
  have g2 : getB (C ++ (leBytes 4 x.f ++ (leBytes 4 x.t ++ leBytes 4 x.w) ++ D)) (4 + 12 * i + 4) 4 = x.t := by
    have := getB_mid (C ++ leBytes 4 x.f) (leBytes 4 x.w ++ D) x.t hin.2.1
    rw [List.length_append, hlA, leBytes_length] at this
    simpa using this
  have g3 : getB (C ++ (leBytes 4 x.f ++ (leBytes 4 x.t ++ leBytes 4 x.w) ++ D)) (4 + 12 * i + 8) 4 = x.w := by
    have := getB_mid (C ++ leBytes 4 x.f ++ leBytes 4 x.t) D x.w hin.2.2
    rw [List.length_append, List.length_append, hlA, leBytes_length, leBytes_length] at this
    simpa [Nat.add_assoc] using this
  unfold egAt
  rw [g1, g2, g3]
theorem scan_none {n : Nat} {bs : List UInt8} : ∀ (k i : Nat), (∀ j, i ≤ j → j < i + k → (egAt bs j).f < n ∧ (egAt bs j).t < n) → scanE n bs i k = none
  | 0, _, _ => rfl
  | k + 1, i, h => by
    have h0 := h i (Nat.le_refl _) (by omega)
    rw [scanE, if_neg (by omega), if_neg (by omega)]
    exact scan_none k (i + 1) fun j h1 h2 => h j (by omega) (by omega)
theorem scan_some {n : Nat} {bs : List UInt8} {m : Nat} : ∀ (k i : Nat), i ≤ m → m < i + k → (∀ j, i ≤ j → j < m → (egAt bs j).f < n ∧ (egAt bs j).t < n) → (n ≤ (egAt bs m).f ∨ n ≤ (egAt bs m).t) →
    scanE n bs i k = some (if n ≤ (egAt bs m).f then 4 + 12 * m else 4 + 12 * m + 4)
  | 0, i, h1, h2, _, _ => by omega
  | k + 1, i, h1, h2, h, hb => by
    rw [scanE]
    by_cases e : i = m
    · subst e
      by_cases hf : n ≤ (egAt bs i).f
      · rw [if_pos hf, if_pos hf]
      · rw [if_neg hf, if_neg hf, if_pos (hb.resolve_left hf)]
    · have h0 := h i (Nat.le_refl _) (by omega)
      rw [if_neg (by omega), if_neg (by omega)]
      exact scan_some k (i + 1) (by omega) (by omega) (fun j h3 h4 => h j (by omega) h4) hb
theorem rightG_all {M : Nat} {es : List Eg} (h : rightG (M : Int) es = true) : M ≤ 1048576 ∧ es.length ≤ 1048576 ∧ ∀ e ∈ es, e.f < M ∧ e.t < M := by
  simp only [rightG, Bool.and_eq_true, decide_eq_true_eq, Bool.not_eq_true', List.any_eq_false, Bool.or_eq_true, not_or] at h
  refine ⟨by omega, by omega, fun e he => ?_⟩
  have := h.2 e he
  omega
theorem rightG_mk {M : Nat} {es : List Eg} (h1 : M ≤ 1048576) (h2 : es.length ≤ 1048576) (h3 : ∀ e ∈ es, e.f < M ∧ e.t < M) : rightG (M : Int) es = true := by
  simp only [rightG, Bool.and_eq_true, decide_eq_true_eq, Bool.not_eq_true', List.any_eq_false, Bool.or_eq_true, not_or]
  exact ⟨⟨⟨by omega, by omega⟩, by omega⟩, fun e he => by have := h3 e he; omega⟩
theorem getE_mem {es : List Eg} {j : Nat} (h : j < es.length) : es[j]! ∈ es := by rw [getElem!_pos es j h]; exact List.getElem_mem _
theorem dec_enc {M : Nat} {es : List Eg} (hE : ∀ e ∈ es, InE e) (h : rightG (M : Int) es = true) : decG (encG M es) = (M, es, 0, 0) := by
  obtain ⟨h1, h2, h3⟩ := rightG_all h
  have hl := encG_length M es
  have hm : (encG M es).length % 12 = 4 := by omega
  have hk : (encG M es).length / 12 = es.length := by omega
  have hs : scanE M (encG M es) 0 es.length = none := scan_none _ _ fun j _ hj => by
    rw [encG_at M es hE (by omega)]; exact h3 _ (getE_mem (by omega))
  have hr : (List.range es.length).map (egAt (encG M es)) = es := by
    apply List.ext_getElem (by simp)
    intro j hj1 hj2
    rw [List.getElem_map, List.getElem_range, encG_at M es hE hj2, getElem!_pos es j hj2]
  simp [decG, hm, encG_head M h1, hk, show ¬ 1048576 < M by omega, show ¬ 1048576 < es.length by omega, hs, hr]
theorem dec_bad {M : Nat} {es : List Eg} {m : Nat} (hE : ∀ e ∈ es, InE e) (h1 : M ≤ 1048576) (h2 : es.length ≤ 1048576) (hm : m < es.length) (h3 : ∀ j, j < m → es[j]!.f < M ∧ es[j]!.t < M) (hb : M ≤ es[m]!.f ∨ M ≤ es[m]!.t) :
    decG (encG M es) = (0, [], (if M ≤ es[m]!.f then 4 + 12 * m else 4 + 12 * m + 4), 1) := by
  have hl := encG_length M es
  have hm4 : (encG M es).length % 12 = 4 := by omega
  have hk : (encG M es).length / 12 = es.length := by omega
  have hs := scan_some (n := M) (bs := encG M es) (m := m) es.length 0 (Nat.zero_le _) (by omega) (fun j _ hj => by rw [encG_at M es hE (by omega)]; exact h3 j hj) (by rw [encG_at M es hE hm]; exact hb)
  rw [encG_at M es hE hm] at hs
  simp [decG, hm4, encG_head M h1, hk, show ¬ 1048576 < M by omega, show ¬ 1048576 < es.length by omega, hs]
theorem encG_app (M : Nat) (es fs : List Eg) : encG M (es ++ fs) = encG M es ++ fs.flatMap encE := by simp [encG]
end Go.Proofs.Ytjoldkfedmiciaa
