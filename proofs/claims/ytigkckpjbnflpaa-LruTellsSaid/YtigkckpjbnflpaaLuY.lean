/- The document's cache: what its memory holds; New, find, Has. -/
import Derived.Test.YtigkckpjbnflpaaLuX
import Derived.Test.YtigkckpjbnflpaaLuVi
namespace Go.Proofs.Ytigkckpjbnflpaa
set_option linter.unusedVariables false

/-- The document's cache holds these keys and pins. -/
def RefAt (rb fr : Nat) (L : List (KTs × Nat)) (hl : Hl) : Prop :=
  ∃ vL vP sL sP, Own keyEs vL (L.map fun p : KTs × Nat => p.1) sL ∧ Own keyEi vP (L.map fun p : KTs × Nat => ((p.2 : Int) : KTi)) sP ∧ hl = (rb, cellsO [.int .i64 (fr : Int), vL, vP] 39) :: (sL ++ sP)

theorem rnew_spec (F : Fm) (z : Int) (hz : z ≤ 9223372036854775807) : Spec Try.prog 12 #[.int .i64 z] F [] fun v hl' => ∃ rb, v = .pointer (some ⟨rb, 0, none⟩) ∧ RefAt rb (max z 1).toNat [] hl' := by
  refine Spec.of (n := 7) (vs := [.int .i64 z]) Try.func12 rfl Try.ntmps12 rfl ?_
  refine Vc.seq ?_
  refine Vc.text (List.range 1) (sd [(0, .pure)]) rfl ?_
  refine Rg.pure rfl rfl rfl (Pv.assign rfl) ?_
  refine Rg.nil ?_
  refine Vc.seq ?_
  refine Vc.text (List.range 5) (sd [(0, .pure), (1, .pure), (2, .pure), (3, .eff), (4, .pure)]) rfl ?_
  refine Rg.pure rfl rfl rfl (Pv.move rfl) ?_
  refine Rg.pure rfl rfl rfl (Pv.asI ((max z 1).toNat) (Pv.max rfl rfl) (by omega)) ?_
  refine Rg.pure rfl rfl rfl (Pv.build (c := #[.int .i64 ((max z 1).toNat : Int), .slice none 0 0, .slice none 0 0]) rfl rfl) ?_
  refine Rg.box rfl rfl rfl rfl rfl (fun b6 => ?_)
  refine Rg.pure rfl rfl rfl (Pv.assign rfl) ?_
  refine Rg.nil ?_
  exact Vc.ret (Vc.rets rfl (.cons (.tmp rfl) .nil) ⟨b6, rfl, _, _, [], [], .nil, .nil, rfl⟩)

def placeK (L : List (KTs × Nat)) (key : KTs) : Int := idxI (fun k => decide (k = key)) (L.map fun p : KTs × Nat => p.1) 0
theorem find_spec {F : Fm} {rb fr : Nat} {L : List (KTs × Nat)} {s : Hl} (hh : RefAt rb fr L s) (hF : ∀ b o, (b, o) ∈ s → F.at_ b o) (key : KTs) (hN : L.length < 1073741824) :
    Spec Try.prog 34 #[.pointer (some ⟨rb, 0, none⟩), kvs key] F [] fun v _ => v = .int .i64 (placeK L key) := by
  obtain ⟨vL, vP, sL, sP, ownL, ownP, rfl⟩ := hh
  have ha : Arg keyEs F vL (L.map fun p : KTs × Nat => p.1) := Arg.own ownL fun b o h => hF b o (List.mem_cons_of_mem _ (List.mem_append_left _ h))
  obtain ⟨qL, cL, rfl⟩ := ownL.shape
  have : Fat F rb (cellsO [.int .i64 (fr : Int), .slice qL (L.map fun p : KTs × Nat => p.1).length cL, vP] 39) := ⟨hF _ _ List.mem_cons_self⟩
  have hkl : (L.map fun p : KTs × Nat => p.1).length = L.length := List.length_map _
  unfold placeK
  generalize (L.map fun p : KTs × Nat => p.1) = ks at *
  refine Spec.of (n := 25) (vs := [.pointer (some ⟨rb, 0, none⟩), kvs key]) Try.func34 rfl Try.ntmps34 rfl ?_
  refine Vc.seq ?_
  refine Vc.text (List.range 1) (sd [(0, .pure)]) rfl ?_
  refine Rg.pure rfl rfl rfl (Pv.assign rfl) ?_
  refine Rg.nil ?_
  refine Vc.seq ?_
  refine Vc.seq ?_
  refine Vc.text (List.range 1) (sd [(0, .pure)]) rfl ?_
  refine Rg.pure rfl rfl rfl (Pv.assign rfl) ?_
  refine Rg.nil ?_
  refine Vc.block ?_
  refine Vc.loop1 (fun (i : Nat) => i ≤ ks.length ∧ idxI (fun k => decide (k = key)) ks 0 = idxI (fun k => decide (k = key)) (ks.drop i) i) (fun i => [(0, .pointer (some ⟨rb, 0, none⟩)), (1, kvs key), (5, .int .i64 (i : Int))]) (fun i => []) (fun i => ks.length - i) 0 ⟨Nat.zero_le _, rfl⟩ (.cons rfl (.cons rfl (.cons rfl .nil))) pulled ?_
  rintro i ⟨h1, h2⟩
  refine Vc.seq ?_
  refine Vc.seq ?_
  refine Vc.text (List.range 7) (sd [(0, .pure), (1, .pure), (2, .pure), (3, .pure), (4, .read), (5, .pure), (6, .pure)]) rfl ?_
  refine Rg.pure rfl rfl rfl (Pv.move rfl) ?_
  refine Rg.pure rfl rfl rfl (Pv.move rfl) ?_
  refine Rg.pure rfl rfl rfl (Pv.nilp rfl) ?_
  refine Rg.pure rfl rfl rfl (Pv.fa rfl) ?_
  refine Rg.read rfl rfl rfl (Ev.ld rfl rfl) ?_
  refine Rg.pure rfl rfl rfl (Pv.lenS rfl) ?_
  refine Rg.pure rfl rfl rfl (Pv.lss rfl rfl) ?_
  refine Rg.nil ?_
  refine Vc.cond rfl (fun h12 => ?_) (fun h12 => ?_)
  ·
    simp only [decide_eq_true_eq] at h12
    obtain ⟨b, off, c', e, _⟩ := ha.block (by omega)
    cases e
    have hd : ks.drop i = ks[i]! :: ks.drop (i + 1) := by rw [getElem!_pos ks i (by omega)]; exact List.drop_eq_getElem_cons (by omega)
    rw [hd] at h2
    refine Vc.skip ?_
    refine Vc.seq ?_
    refine Vc.block ?_
    refine Vc.seq ?_
    refine Vc.text (List.range 9) (sd [(0, .pure), (1, .pure), (2, .pure), (3, .read), (4, .pure), (5, .pure), (6, .read), (7, .pure), (8, .pure)]) rfl ?_
    refine Rg.pure rfl rfl rfl (Pv.move rfl) ?_
    refine Rg.pure rfl rfl rfl (Pv.nilp rfl) ?_
    refine Rg.pure rfl rfl rfl (Pv.fa rfl) ?_
    refine Rg.read rfl rfl rfl (Ev.ld rfl rfl) ?_
    refine Rg.pure rfl rfl rfl (Pv.move rfl) ?_
    refine Rg.pure rfl rfl rfl (Pv.ixA (i) rfl rfl (by omega) (by omega)) ?_
    refine Rg.read rfl rfl rfl (Ev.ldS (i) (ha.src) rfl rfl rfl (by omega)) ?_
    refine Rg.pure rfl rfl rfl (Pv.move rfl) ?_
    refine Rg.pure rfl rfl rfl (Pv.eqlS rfl rfl) ?_
    refine Rg.nil ?_
    refine Vc.cond rfl (fun h23 => ?_) (fun h23 => ?_)
    ·
      refine Vc.seq ?_
      refine Vc.text (List.range 2) (sd [(0, .pure), (1, .pure)]) rfl ?_
      refine Rg.pure rfl rfl rfl (Pv.move rfl) ?_
      refine Rg.pure rfl rfl rfl (Pv.assign rfl) ?_
      refine Rg.nil ?_
      refine Vc.ret (Vc.rets rfl (.cons (.tmp rfl) (.nil)) ?_)
      exact congrArg (Value.int .i64) (by rw [h2, idxI, if_pos h23])
    ·
      refine Vc.skip ?_
      refine Vc.blk ?_
      refine Vc.text (List.range 3) (sd [(0, .pure), (1, .pure), (2, .pure)]) rfl ?_
      refine Rg.pure rfl rfl rfl (Pv.move rfl) ?_
      refine Rg.pure rfl rfl rfl (Pv.asI (i + 1) (Pv.add rfl rfl (by omega)) (by omega)) ?_
      refine Rg.pure rfl rfl rfl (Pv.assign rfl) ?_
      refine Rg.nil ?_
      exact Vc.inv1 (i + 1) ⟨⟨by omega, by rw [h2, idxI, if_neg (by rw [h23]; simp)]⟩, by omega⟩ (.cons rfl (.cons rfl (.cons rfl .nil))) pulled
  ·
    simp only [decide_eq_false_iff_not] at h12
    rw [List.drop_eq_nil_of_le (by omega)] at h2
    refine Vc.exit rfl ?_
    refine Vc.seq ?_
    refine Vc.text (List.range 1) (sd [(0, .pure)]) rfl ?_
    refine Rg.pure rfl rfl rfl (Pv.assign rfl) ?_
    refine Rg.nil ?_
    refine Vc.ret (Vc.rets rfl (.cons (.tmp rfl) (.nil)) ?_)
    exact congrArg (Value.int .i64) h2.symm
theorem placeK_has (L : List (KTs × Nat)) (key : KTs) : decide (0 ≤ placeK L key) = hasK L key := by
  unfold placeK
  rw [idxI_map]
  rcases idxI_spec (fun p : KTs × Nat => decide (p.1 = key)) L 0 with ⟨h1, h2⟩ | ⟨A, x, B, rfl, _, h3, h4⟩
  · rw [h1]
    have : hasK L key = false := by
      rw [Bool.eq_false_iff]; intro h
      obtain ⟨p, hp, e⟩ := List.any_eq_true.1 h
      rw [h2 p hp] at e; cases e
    rw [this]; rfl
  · rw [h4]
    have : hasK (A ++ x :: B) key = true := List.any_eq_true.2 ⟨x, by simp, h3⟩
    rw [this]; exact decide_eq_true (by omega)
theorem rhas_spec {F : Fm} {rb fr : Nat} {L : List (KTs × Nat)} {s : Hl} (hh : RefAt rb fr L s) (hF : ∀ b o, (b, o) ∈ s → F.at_ b o) (key : KTs) (hN : L.length < 1073741824) :
    Spec Try.prog 24 #[.pointer (some ⟨rb, 0, none⟩), kvs key] F [] fun v _ => v = .bool (hasK L key) := by
  refine Spec.of (n := 9) (vs := [.pointer (some ⟨rb, 0, none⟩), kvs key]) Try.func24 rfl Try.ntmps24 rfl ?_
  refine Vc.seq ?_
  refine Vc.text (List.range 1) (sd [(0, .pure)]) rfl ?_
  refine Rg.pure rfl rfl rfl (Pv.assign rfl) ?_
  refine Rg.nil ?_
  refine Vc.seq ?_
  refine Vc.text (List.range 5) (sd [(0, .pure), (1, .pure), (2, .eff), (3, .pure), (4, .pure)]) rfl ?_
  refine Rg.pure rfl rfl rfl (Pv.move rfl) ?_
  refine Rg.pure rfl rfl rfl (Pv.move rfl) ?_
  refine Rg.callP rfl rfl rfl (run_callF rfl) (find_spec hh (fun b o h => Or.inr (hF b o h)) key hN) ?_
  rintro _ rfl
  refine Rg.pure rfl rfl rfl (Pv.geq rfl rfl) ?_
  refine Rg.pure rfl rfl rfl (Pv.assign rfl) ?_
  refine Rg.nil ?_
  refine Vc.ret (Vc.rets rfl (.cons (.tmp rfl) (.nil)) ?_)
  exact congrArg Value.bool (placeK_has L key)
end Go.Proofs.Ytigkckpjbnflpaa
