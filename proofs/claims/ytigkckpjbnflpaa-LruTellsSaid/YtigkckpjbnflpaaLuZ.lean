/- The document's cache: a place is cut out. -/
import Derived.Test.YtigkckpjbnflpaaLuY
namespace Go.Proofs.Ytigkckpjbnflpaa
set_option linter.unusedVariables false

section
variable {α : Type} {E : Enc α} {F : Fm} {hl : Hl}
theorem cells_row {w : World} {b : Nat} {xs : List α} {sp : List Value} (h : w.heap[b]? = some (rowS E xs sp)) {j : Nat} {u : Value} (hu : (flat E xs)[j]? = some u) : w.cell? ⟨b, j, none⟩ = some u := by
  simp only [World.cell?, h, rowS, Option.isSome_none, Bool.false_eq_true, if_false, List.getElem?_toArray]
  rw [List.getElem?_append_left (List.getElem?_eq_some_iff.1 hu).1, hu]
theorem flat_parts (xs : List α) (k : Nat) : flat E xs = flat E (xs.take k) ++ flat E (xs.drop k) := by
  conv => lhs; rw [← List.take_append_drop k xs]
  simp only [flat, List.flatMap_append]
/-- The first k of an own slice. -/
theorem Src.upTo {b c k : Nat} {xs : List α} {sp : List Value} [h : Has F hl b (rowS E xs sp)] (hk : k ≤ xs.length) : Src E F hl (.slice (some ⟨b, 0, none⟩) k c) (xs.take k) :=
  .inr ⟨b, 0, c, by simp [Nat.min_eq_left hk], fun w hw j u hu => by
    rw [Nat.zero_add]
    refine cells_row (E := E) (xs := xs) (h.st hw) ?_
    rw [flat_parts xs k, List.getElem?_append_left (List.getElem?_eq_some_iff.1 hu).1, hu]⟩
/-- .. and the others. -/
theorem Src.behind {b c k : Nat} {xs : List α} {sp : List Value} [h : Has F hl b (rowS E xs sp)] (hk : k ≤ xs.length) (hc : xs.length ≤ c) : Src E F hl (.slice (some ⟨b, if c = k then 0 else 0 + k * E.k, none⟩) (xs.length - k) (c - k)) (xs.drop k) := by
  by_cases e : c = k
  · have : xs.drop k = [] := List.drop_eq_nil_of_le (by omega)
    rw [this, show xs.length - k = 0 by omega]
    exact Src.empty
  · rw [if_neg e]
    refine .inr ⟨b, 0 + k * E.k, c - k, by simp, fun w hw j u hu => ?_⟩
    refine cells_row (E := E) (xs := xs) (h.st hw) ?_
    have hl2 : (flat E (xs.take k)).length = k * E.k := by rw [flat_length]; congr 1; simp; omega
    rw [flat_parts xs k, List.getElem?_append_right (by omega), hl2, show 0 + k * E.k + j - k * E.k = j by omega, hu]
end

theorem cut_map {β γ : Type} (f : β → γ) (A B : List β) (p : β) : (A ++ B).map f = ((A ++ p :: B).map f).take A.length ++ ((A ++ p :: B).map f).drop (A.length + 1) := by
  have e1 : (A ++ p :: B).take A.length = A := List.take_left' rfl
  have e2 : (A ++ p :: B).drop (A.length + 1) = B := by
    rw [show A ++ p :: B = (A ++ [p]) ++ B by simp]
    exact List.drop_left' (by simp)
  rw [← List.map_take, ← List.map_drop, e1, e2, List.map_append]

theorem cut_spec (F : Fm) {rb fr : Nat} {A B : List (KTs × Nat)} {p : KTs × Nat} {s : Hl} (hh : RefAt rb fr (A ++ p :: B) s) (hN : (A ++ p :: B).length < 1073741824) :
    Spec Try.prog 35 #[.pointer (some ⟨rb, 0, none⟩), .int .i64 (A.length : Int)] F s fun _ s' => RefAt rb fr (A ++ B) s' := by
  obtain ⟨vL, vP, sL, sP, ownL, ownP, rfl⟩ := hh
  have eL := cut_map (fun p : KTs × Nat => p.1) A B p
  have eP := cut_map (fun p : KTs × Nat => ((p.2 : Int) : KTi)) A B p
  have lL : ((A ++ p :: B).map fun p : KTs × Nat => p.1).length = A.length + 1 + B.length := by simp; omega
  have lP : ((A ++ p :: B).map fun p : KTs × Nat => ((p.2 : Int) : KTi)).length = A.length + 1 + B.length := by simp; omega
  have hAB : A.length + 1 + B.length < 1073741824 := by simp at hN; omega
  unfold RefAt
  rw [eL, eP]
  generalize ((A ++ p :: B).map fun p : KTs × Nat => p.1) = ks at *
  generalize ((A ++ p :: B).map fun p : KTs × Nat => ((p.2 : Int) : KTi)) = ps at *
  obtain ⟨bL, cL, spL, rfl, rfl, hcL, _⟩ := ownL.block (by omega)
  obtain ⟨bP, cP, spP, rfl, rfl, hcP, _⟩ := ownP.block (by omega)
  have kL : ks.length ≤ cL := Nat.le_of_mul_le_mul_right (show ks.length * keyEs.k ≤ cL * keyEs.k by omega) keyEs.pos
  have kP : ps.length ≤ cP := Nat.le_of_mul_le_mul_right (show ps.length * keyEi.k ≤ cP * keyEi.k by omega) keyEi.pos
  refine Spec.of (n := 42) (vs := [.pointer (some ⟨rb, 0, none⟩), .int .i64 (A.length : Int)]) Try.func35 rfl Try.ntmps35 rfl ?_
  refine Vc.seq ?_
  refine Vc.drawS [19] (sd [(0, .pure), (2, .pure), (3, .pure), (4, .pure), (5, .read), (6, .pure), (7, .pure), (9, .pure), (10, .pure), (11, .pure), (12, .read), (13, .pure), (14, .pure), (15, .pure), (1, .eff), (8, .eff), (16, .eff), (17, .pure), (18, .pure), (19, .eff)]) [(rb, cellsO [.int .i64 (fr : Int), .slice (some ⟨bL, 0, none⟩) ks.length cL, .slice (some ⟨bP, 0, none⟩) ps.length cP] 39), (bL, rowS keyEs ks spL)] pulled mixed (by kernel_rfl) ?_
  refine Rg.pure rfl rfl rfl (Pv.move rfl) ?_
  refine Rg.pure rfl rfl rfl (Pv.move rfl) ?_
  refine Rg.pure rfl rfl rfl (Pv.nilp rfl) ?_
  refine Rg.pure rfl rfl rfl (Pv.fa rfl) ?_
  refine Rg.read rfl rfl rfl (Ev.ld rfl rfl) ?_
  refine Rg.pure rfl rfl rfl (Pv.move rfl) ?_
  refine Rg.pure rfl rfl rfl (Pv.slTo (A.length) rfl rfl (by omega)) ?_
  refine Rg.pure rfl rfl rfl (Pv.move rfl) ?_
  refine Rg.pure rfl rfl rfl (Pv.nilp rfl) ?_
  refine Rg.pure rfl rfl rfl (Pv.fa rfl) ?_
  refine Rg.read rfl rfl rfl (Ev.ld rfl rfl) ?_
  refine Rg.pure rfl rfl rfl (Pv.move rfl) ?_
  refine Rg.pure rfl rfl rfl (Pv.asI (A.length + 1) (Pv.add rfl rfl (by omega)) (by omega)) ?_
  refine Rg.pure rfl rfl rfl (Pv.slFrom (A.length + 1) rfl rfl (by omega) (by omega)) ?_
  refine Rg.bslice0N (E := keyEs) rfl rfl rfl (fun b5 own5 => ?_)
  refine Rg.appendN rfl rfl rfl rfl rfl own5 (Src.upTo (xs := ks) (by omega)) (by simp; omega) (by simp [maxLen]; omega) (fun v12 s12 own12 => ?_)
  refine Rg.appendN rfl rfl rfl rfl rfl own12 (Src.behind (xs := ks) (k := A.length + 1) (by omega) kL) (by simp; omega) (by simp [maxLen]; omega) (fun v20 s20 own20 => ?_)
  refine Rg.pure rfl rfl rfl (Pv.nilp rfl) ?_
  refine Rg.pure rfl rfl rfl (Pv.fa rfl) ?_
  refine Rg.store rfl rfl rfl rfl rfl own20.one rfl rfl ?_
  refine Rg.nil ?_
  refine Vc.drawS [19] (sd [(0, .pure), (2, .pure), (3, .pure), (4, .pure), (5, .read), (6, .pure), (7, .pure), (9, .pure), (10, .pure), (11, .pure), (12, .read), (13, .pure), (14, .pure), (15, .pure), (1, .eff), (8, .eff), (16, .eff), (17, .pure), (18, .pure), (19, .eff)]) [(rb, cellsO [.int .i64 (fr : Int), v20, .slice (some ⟨bP, 0, none⟩) ps.length cP] 39), (bP, rowS keyEi ps spP)] pulled mixed (by kernel_rfl) ?_
  refine Rg.pure rfl rfl rfl (Pv.move rfl) ?_
  refine Rg.pure rfl rfl rfl (Pv.move rfl) ?_
  refine Rg.pure rfl rfl rfl (Pv.nilp rfl) ?_
  refine Rg.pure rfl rfl rfl (Pv.fa rfl) ?_
  refine Rg.read rfl rfl rfl (Ev.ld rfl rfl) ?_
  refine Rg.pure rfl rfl rfl (Pv.move rfl) ?_
  refine Rg.pure rfl rfl rfl (Pv.slTo (A.length) rfl rfl (by omega)) ?_
  refine Rg.pure rfl rfl rfl (Pv.move rfl) ?_
  refine Rg.pure rfl rfl rfl (Pv.nilp rfl) ?_
  refine Rg.pure rfl rfl rfl (Pv.fa rfl) ?_
  refine Rg.read rfl rfl rfl (Ev.ld rfl rfl) ?_
  refine Rg.pure rfl rfl rfl (Pv.move rfl) ?_
  refine Rg.pure rfl rfl rfl (Pv.asI (A.length + 1) (Pv.add rfl rfl (by omega)) (by omega)) ?_
  refine Rg.pure rfl rfl rfl (Pv.slFrom (A.length + 1) rfl rfl (by omega) (by omega)) ?_
  refine Rg.bslice0N (E := keyEi) rfl rfl rfl (fun b24 own24 => ?_)
  refine Rg.appendN rfl rfl rfl rfl rfl own24 (Src.upTo (xs := ps) (by omega)) (by simp; omega) (by simp [maxLen]; omega) (fun v31 s31 own31 => ?_)
  refine Rg.appendN rfl rfl rfl rfl rfl own31 (Src.behind (xs := ps) (k := A.length + 1) (by omega) kP) (by simp; omega) (by simp [maxLen]; omega) (fun v39 s39 own39 => ?_)
  refine Rg.pure rfl rfl rfl (Pv.nilp rfl) ?_
  refine Rg.pure rfl rfl rfl (Pv.fa rfl) ?_
  refine Rg.store rfl rfl rfl rfl rfl own39.one rfl rfl ?_
  refine Rg.nil ?_
  exact Vc.fin (Vc.retsH rfl .nil (⟨v20, v39, s20, s39, by simpa using own20, by simpa using own39, rfl⟩) pulled)
end Go.Proofs.Ytigkckpjbnflpaa
