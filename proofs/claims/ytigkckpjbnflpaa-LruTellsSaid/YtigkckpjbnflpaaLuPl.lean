/- The document's cache: where a key stands; Pin. -/
import Derived.Test.YtigkckpjbnflpaaLuEq
namespace Go.Proofs.Ytigkckpjbnflpaa
set_option linter.unusedVariables false

theorem place_parts (L : List (KTs × Nat)) (key : KTs) : (placeK L key = -1 ∧ hasK L key = false) ∨ ∃ A p B, L = A ++ p :: B ∧ p.1 = key ∧ placeK L key = (A.length : Int) ∧ hasK L key = true ∧ pinsK L key = p.2 ∧ (∀ a ∈ A, a.1 ≠ key) := by
  unfold placeK
  rw [idxI_map]
  rcases idxI_spec (fun p : KTs × Nat => decide (p.1 = key)) L 0 with ⟨h1, h2⟩ | ⟨A, x, B, rfl, h2, h3, h4⟩
  · refine .inl ⟨h1, ?_⟩
    rw [Bool.eq_false_iff]; intro h
    obtain ⟨p, hp, e⟩ := List.any_eq_true.1 h
    rw [h2 p hp] at e; cases e
  · have hA : A.find? (fun p => decide (p.1 = key)) = none := by
      rw [List.find?_eq_none]; intro p hp; rw [h2 p hp]; simp
    refine .inr ⟨A, x, B, rfl, of_decide_eq_true h3, by rw [h4]; simp, List.any_eq_true.2 ⟨x, by simp, h3⟩, ?_, fun a ha e => ?_⟩
    · simp only [pinsK, List.find?_append, hA, Option.none_or, List.find?_cons, h3, Option.map_some, Option.getD_some]
    · have := h2 a ha
      rw [e] at this; simp at this
theorem setK_parts {A B : List (KTs × Nat)} {p : KTs × Nat} (hn : ((A ++ p :: B).map (·.1)).Nodup) (n : Nat) : setK (A ++ p :: B) p.1 n = A ++ (p.1, n) :: B := by
  rw [List.map_append, List.map_cons, List.nodup_append, List.nodup_cons] at hn
  have hA : ∀ x ∈ A, x.1 ≠ p.1 := fun x hx he => hn.2.2 x.1 (List.mem_map.2 ⟨x, hx, rfl⟩) p.1 List.mem_cons_self he
  have hB : ∀ x ∈ B, x.1 ≠ p.1 := fun x hx he => hn.2.1.1 (List.mem_map.2 ⟨x, hx, he⟩)
  simp only [setK, List.map_append, List.map_cons, if_true]
  congr 1
  · conv => rhs; rw [← List.map_id A]
    apply List.map_congr_left; intro x hx; simp [hA x hx]
  · congr 1
    conv => rhs; rw [← List.map_id B]
    apply List.map_congr_left; intro x hx; simp [hB x hx]
theorem dropK_parts {A B : List (KTs × Nat)} {p : KTs × Nat} (hn : ((A ++ p :: B).map (·.1)).Nodup) : dropK (A ++ p :: B) p.1 = A ++ B := by
  rw [List.map_append, List.map_cons, List.nodup_append, List.nodup_cons] at hn
  have hA : ∀ x ∈ A, x.1 ≠ p.1 := fun x hx he => hn.2.2 x.1 (List.mem_map.2 ⟨x, hx, rfl⟩) p.1 List.mem_cons_self he
  have hB : ∀ x ∈ B, x.1 ≠ p.1 := fun x hx he => hn.2.1.1 (List.mem_map.2 ⟨x, hx, he⟩)
  simp only [dropK, List.filter_append, List.filter_cons, decide_true, Bool.not_true, Bool.false_eq_true, if_false]
  congr 1
  · rw [List.filter_eq_self]; intro x hx; simp [hA x hx]
  · rw [List.filter_eq_self]; intro x hx; simp [hB x hx]

theorem rpin_spec (F : Fm) {rb fr : Nat} {L : List (KTs × Nat)} {s : Hl} (hh : RefAt rb fr L s) (key : KTs) (hn : (L.map (·.1)).Nodup) (hp : ∀ p ∈ L, p.2 < 1073741824) (hN : L.length < 1073741824) :
    Spec Try.prog 16 #[.pointer (some ⟨rb, 0, none⟩), kvs key] F s fun v s' => v = .int .i64 (if hasK L key = true then 0 else 4) ∧ RefAt rb fr (if hasK L key = true then setK L key (pinsK L key + 1) else L) s' := by
  have hf := fun (F' : Fm) (hF : ∀ b o, (b, o) ∈ s → F'.at_ b o) => find_spec hh hF key hN
  rcases place_parts L key with ⟨h1, hk⟩ | ⟨A, p, B, rfl, rfl, h1, hk, hpk, _⟩
  · simp only [hk, Bool.false_eq_true, if_false]
    refine Spec.of (n := 25) (vs := [.pointer (some ⟨rb, 0, none⟩), kvs key]) Try.func16 rfl Try.ntmps16 rfl ?_
    refine Vc.seq ?_
    refine Vc.text (List.range 1) (sd [(0, .pure)]) rfl ?_
    refine Rg.pure rfl rfl rfl (Pv.assign rfl) ?_
    refine Rg.nil ?_
    refine Vc.seq ?_
    refine Vc.text (List.range 4) (sd [(0, .pure), (1, .pure), (2, .eff), (3, .pure)]) rfl ?_
    refine Rg.pure rfl rfl rfl (Pv.move rfl) ?_
    refine Rg.pure rfl rfl rfl (Pv.move rfl) ?_
    refine Rg.callP rfl rfl rfl (run_callF rfl) (hf _ frz_sb) ?_
    rintro _ rfl
    refine Rg.pure rfl rfl rfl (Pv.assign rfl) ?_
    refine Rg.nil ?_
    refine Vc.seq ?_
    refine Vc.seq ?_
    refine Vc.text (List.range 2) (sd [(0, .pure), (1, .pure)]) rfl ?_
    refine Rg.pure rfl rfl rfl (Pv.move rfl) ?_
    refine Rg.pure rfl rfl rfl (Pv.lss rfl rfl) ?_
    refine Rg.nil ?_
    refine Vc.cond rfl (fun h10 => ?_) (fun h10 => absurd h10 (by rw [h1]; decide))
    refine Vc.seq ?_
    refine Vc.text (List.range 1) (sd [(0, .pure)]) rfl ?_
    refine Rg.pure rfl rfl rfl (Pv.assign rfl) ?_
    refine Rg.nil ?_
    exact Vc.ret (Vc.rets rfl (.cons (.tmp rfl) .nil) ⟨rfl, hh⟩)
  · simp only [hk, if_true, hpk, setK_parts hn]
    have hpp := hp p (by simp)
    obtain ⟨vL, vP, sL, sP, ownL, ownP, rfl⟩ := hh
    have lP : ((A ++ p :: B).map fun p : KTs × Nat => ((p.2 : Int) : KTi)).length = A.length + 1 + B.length := by simp; omega
    have gP : ((A ++ p :: B).map fun p : KTs × Nat => ((p.2 : Int) : KTi))[A.length]! = (p.2 : Int) := by rw [getElem!_pos ((A ++ p :: B).map fun p : KTs × Nat => ((p.2 : Int) : KTi)) A.length (by omega)]; simp
    have sP2 : ((A ++ p :: B).map fun p : KTs × Nat => ((p.2 : Int) : KTi)).set A.length ((p.2 + 1 : Nat) : Int) = (A ++ (p.1, p.2 + 1) :: B).map fun p : KTs × Nat => ((p.2 : Int) : KTi) := by simp [List.set_append]
    have eL : (A ++ p :: B).map (fun p : KTs × Nat => p.1) = (A ++ (p.1, p.2 + 1) :: B).map fun p : KTs × Nat => p.1 := by simp
    rw [eL] at ownL
    generalize ((A ++ p :: B).map fun p : KTs × Nat => ((p.2 : Int) : KTi)) = ps at *
    obtain ⟨bP, cP, spP, rfl, rfl, hcP, hmP⟩ := ownP.block (by omega)
    refine Spec.of (n := 25) (vs := [.pointer (some ⟨rb, 0, none⟩), kvs p.1]) Try.func16 rfl Try.ntmps16 rfl ?_
    refine Vc.seq ?_
    refine Vc.text (List.range 1) (sd [(0, .pure)]) rfl ?_
    refine Rg.pure rfl rfl rfl (Pv.assign rfl) ?_
    refine Rg.nil ?_
    refine Vc.seq ?_
    refine Vc.text (List.range 4) (sd [(0, .pure), (1, .pure), (2, .eff), (3, .pure)]) rfl ?_
    refine Rg.pure rfl rfl rfl (Pv.move rfl) ?_
    refine Rg.pure rfl rfl rfl (Pv.move rfl) ?_
    refine Rg.callP rfl rfl rfl (run_callF rfl) (hf _ frz_sb) ?_
    rintro _ rfl
    refine Rg.pure rfl rfl rfl (Pv.assign rfl) ?_
    refine Rg.nil ?_
    refine Vc.seq ?_
    refine Vc.seq ?_
    refine Vc.text (List.range 2) (sd [(0, .pure), (1, .pure)]) rfl ?_
    refine Rg.pure rfl rfl rfl (Pv.move rfl) ?_
    refine Rg.pure rfl rfl rfl (Pv.lss rfl rfl) ?_
    refine Rg.nil ?_
    refine Vc.cond rfl (fun h10 => absurd h10 (by rw [h1]; simp)) (fun h10 => ?_)
    refine Vc.skip ?_
    refine Vc.seq ?_
    refine Vc.draw [14] (sd [(0, .pure), (1, .pure), (2, .pure), (3, .read), (4, .pure), (5, .pure), (6, .pure), (7, .pure), (8, .read), (9, .pure), (10, .pure), (11, .read), (12, .pure), (13, .pure), (14, .eff)]) mixed (by kernel_rfl) ?_
    refine Rg.pure rfl rfl rfl (Pv.move rfl) ?_
    refine Rg.pure rfl rfl rfl (Pv.nilp rfl) ?_
    refine Rg.pure rfl rfl rfl (Pv.fa rfl) ?_
    refine Rg.read rfl rfl rfl (Ev.ld rfl rfl) ?_
    refine Rg.pure rfl rfl rfl (Pv.move rfl) ?_
    refine Rg.pure rfl rfl rfl (Pv.move rfl) ?_
    refine Rg.pure rfl rfl rfl (Pv.nilp rfl) ?_
    refine Rg.pure rfl rfl rfl (Pv.fa rfl) ?_
    refine Rg.read rfl rfl rfl (Ev.ld rfl rfl) ?_
    refine Rg.pure rfl rfl rfl (Pv.move rfl) ?_
    refine Rg.pure rfl rfl rfl (Pv.ixA (A.length) rfl rfl (by omega) (by omega)) ?_
    refine Rg.read rfl rfl rfl (Ev.as (.int .i64 (p.2 : Int)) (Ev.ldR (A.length) rfl (Nat.zero_add _) (by omega)) (congrArg kvi gP)) ?_
    refine Rg.pure rfl rfl rfl (Pv.asI (p.2 + 1) (Pv.add rfl rfl (by omega)) (by omega)) ?_
    refine Rg.pure rfl rfl rfl (Pv.ixA (A.length) rfl rfl (by omega) (by omega)) ?_
    refine Rg.storeR (A.length) rfl rfl rfl rfl rfl rfl (Nat.zero_add _) (by omega) rfl ?_
    refine Rg.nil ?_
    refine Vc.seq ?_
    refine Vc.text (List.range 1) (sd [(0, .pure)]) rfl ?_
    refine Rg.pure rfl rfl rfl (Pv.assign rfl) ?_
    refine Rg.nil ?_
    exact Vc.ret (Vc.retsH rfl (.cons (.tmp rfl) (.nil)) (⟨rfl, vL, _, sL, _, ownL, by rw [← sP2]; exact Own.blk' bP cP _ (ps.set A.length ((p.2 + 1 : Nat) : Int)) spP (by rw [List.length_set]) hcP hmP, rfl⟩) pulled)
end Go.Proofs.Ytigkckpjbnflpaa
