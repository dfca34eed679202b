/- The document's cache: Unpin, Drop. -/
import Derived.Test.YtigkckpjbnflpaaLuPl
namespace Go.Proofs.Ytigkckpjbnflpaa
set_option linter.unusedVariables false

theorem runpin_spec (F : Fm) {rb fr : Nat} {L : List (KTs × Nat)} {s : Hl} (hh : RefAt rb fr L s) (key : KTs) (hn : (L.map (·.1)).Nodup) (hp : ∀ p ∈ L, p.2 < 1073741824) (hN : L.length < 1073741824) :
    Spec Try.prog 18 #[.pointer (some ⟨rb, 0, none⟩), kvs key] F s fun v s' => v = .int .i64 (if hasK L key = true then if pinsK L key = 0 then 9 else 0 else 4) ∧ RefAt rb fr (if hasK L key = true then setK L key (pinsK L key - 1) else L) s' := by
  have hf := fun (F' : Fm) (hF : ∀ b o, (b, o) ∈ s → F'.at_ b o) => find_spec hh hF key hN
  rcases place_parts L key with ⟨h1, hk⟩ | ⟨A, p, B, rfl, rfl, h1, hk, hpk, _⟩
  · simp only [hk, Bool.false_eq_true, if_false]
    refine Spec.of (n := 33) (vs := [.pointer (some ⟨rb, 0, none⟩), kvs key]) Try.func18 rfl Try.ntmps18 rfl ?_
    refine Vc.seq ?_
    refine Vc.text (List.range 1) (sd [(0, .pure)]) rfl ?_
    refine Rg.pure rfl rfl rfl (Pv.assign rfl) ?_
    refine Rg.nil ?_
    refine Vc.seq ?_
    refine Vc.text (List.range 4) (sd [(0, .pure), (1, .pure), (2, .eff), (3, .pure)]) rfl ?_
    refine Rg.pure rfl rfl rfl (Pv.move rfl) ?_
    refine Rg.pure rfl rfl rfl (Pv.move rfl) ?_
    refine Rg.callP rfl rfl rfl (run_callF rfl) (hf _ frz_sb) ?_
    rintro _ rfl
    refine Rg.pure rfl rfl rfl (Pv.assign rfl) ?_
    refine Rg.nil ?_
    refine Vc.seq ?_
    refine Vc.seq ?_
    refine Vc.text (List.range 2) (sd [(0, .pure), (1, .pure)]) rfl ?_
    refine Rg.pure rfl rfl rfl (Pv.move rfl) ?_
    refine Rg.pure rfl rfl rfl (Pv.lss rfl rfl) ?_
    refine Rg.nil ?_
    refine Vc.cond rfl (fun h10 => ?_) (fun h10 => absurd h10 (by rw [h1]; decide))
    refine Vc.seq ?_
    refine Vc.text (List.range 1) (sd [(0, .pure)]) rfl ?_
    refine Rg.pure rfl rfl rfl (Pv.assign rfl) ?_
    refine Rg.nil ?_
    exact Vc.ret (Vc.rets rfl (.cons (.tmp rfl) .nil) ⟨rfl, hh⟩)
  · simp only [hk, if_true, hpk, setK_parts hn]
    have hpp := hp p (by simp)
    obtain ⟨vL, vP, sL, sP, ownL, ownP, rfl⟩ := hh
    have lP : ((A ++ p :: B).map fun p : KTs × Nat => ((p.2 : Int) : KTi)).length = A.length + 1 + B.length := by simp; omega
    have gP : ((A ++ p :: B).map fun p : KTs × Nat => ((p.2 : Int) : KTi))[A.length]! = (p.2 : Int) := by rw [getElem!_pos ((A ++ p :: B).map fun p : KTs × Nat => ((p.2 : Int) : KTi)) A.length (by omega)]; simp
    have sP2 : ((A ++ p :: B).map fun p : KTs × Nat => ((p.2 : Int) : KTi)).set A.length ((p.2 - 1 : Nat) : Int) = (A ++ (p.1, p.2 - 1) :: B).map fun p : KTs × Nat => ((p.2 : Int) : KTi) := by simp [List.set_append]
    have sP0 : p.2 = 0 → ((A ++ p :: B).map fun p : KTs × Nat => ((p.2 : Int) : KTi)) = (A ++ (p.1, p.2 - 1) :: B).map fun p : KTs × Nat => ((p.2 : Int) : KTi) := fun h => by simp [h]
    have eL : (A ++ p :: B).map (fun p : KTs × Nat => p.1) = (A ++ (p.1, p.2 - 1) :: B).map fun p : KTs × Nat => p.1 := by simp
    rw [eL] at ownL
    generalize ((A ++ p :: B).map fun p : KTs × Nat => ((p.2 : Int) : KTi)) = ps at *
    obtain ⟨bP, cP, spP, rfl, rfl, hcP, hmP⟩ := ownP.block (by omega)
    refine Spec.of (n := 33) (vs := [.pointer (some ⟨rb, 0, none⟩), kvs p.1]) Try.func18 rfl Try.ntmps18 rfl ?_
    refine Vc.seq ?_
    refine Vc.text (List.range 1) (sd [(0, .pure)]) rfl ?_
    refine Rg.pure rfl rfl rfl (Pv.assign rfl) ?_
    refine Rg.nil ?_
    refine Vc.seq ?_
    refine Vc.text (List.range 4) (sd [(0, .pure), (1, .pure), (2, .eff), (3, .pure)]) rfl ?_
    refine Rg.pure rfl rfl rfl (Pv.move rfl) ?_
    refine Rg.pure rfl rfl rfl (Pv.move rfl) ?_
    refine Rg.callP rfl rfl rfl (run_callF rfl) (hf _ frz_sb) ?_
    rintro _ rfl
    refine Rg.pure rfl rfl rfl (Pv.assign rfl) ?_
    refine Rg.nil ?_
    refine Vc.seq ?_
    refine Vc.seq ?_
    refine Vc.text (List.range 2) (sd [(0, .pure), (1, .pure)]) rfl ?_
    refine Rg.pure rfl rfl rfl (Pv.move rfl) ?_
    refine Rg.pure rfl rfl rfl (Pv.lss rfl rfl) ?_
    refine Rg.nil ?_
    refine Vc.cond rfl (fun h10 => absurd h10 (by rw [h1]; simp)) (fun h10 => ?_)
    refine Vc.skip ?_
    refine Vc.seq ?_
    refine Vc.seq ?_
    refine Vc.text (List.range 8) (sd [(0, .pure), (1, .pure), (2, .pure), (3, .read), (4, .pure), (5, .pure), (6, .read), (7, .pure)]) rfl ?_
    refine Rg.pure rfl rfl rfl (Pv.move rfl) ?_
    refine Rg.pure rfl rfl rfl (Pv.nilp rfl) ?_
    refine Rg.pure rfl rfl rfl (Pv.fa rfl) ?_
    refine Rg.read rfl rfl rfl (Ev.ld rfl rfl) ?_
    refine Rg.pure rfl rfl rfl (Pv.move rfl) ?_
    refine Rg.pure rfl rfl rfl (Pv.ixA (A.length) rfl rfl (by omega) (by omega)) ?_
    refine Rg.read rfl rfl rfl (Ev.as (.int .i64 (p.2 : Int)) (Ev.ldR (A.length) rfl (Nat.zero_add _) (by omega)) (congrArg kvi gP)) ?_
    refine Rg.pure rfl rfl rfl (Pv.eql rfl rfl) ?_
    refine Rg.nil ?_
    refine Vc.cond rfl (fun h18 => ?_) (fun h18 => ?_)
    ·
      simp only [beq_iff_eq] at h18
      have p0 : p.2 = 0 := (by omega)
      refine Vc.seq ?_
      refine Vc.text (List.range 1) (sd [(0, .pure)]) rfl ?_
      refine Rg.pure rfl rfl rfl (Pv.assign rfl) ?_
      refine Rg.nil ?_
      exact Vc.ret (Vc.retsH rfl (.cons (.tmp rfl) (.nil)) (⟨congrArg (Value.int .i64) (if_pos p0).symm, vL, _, sL, _, ownL, by rw [← sP0 p0]; exact ownP, rfl⟩) pulled)
    ·
      simp only [beq_eq_false_iff_ne, ne_eq] at h18
      have p0 : ¬ p.2 = 0 := (by omega)
      refine Vc.skip ?_
      refine Vc.seq ?_
      refine Vc.draw [14] (sd [(0, .pure), (1, .pure), (2, .pure), (3, .read), (4, .pure), (5, .pure), (6, .pure), (7, .pure), (8, .read), (9, .pure), (10, .pure), (11, .read), (12, .pure), (13, .pure), (14, .eff)]) mixed (by kernel_rfl) ?_
      refine Rg.pure rfl rfl rfl (Pv.move rfl) ?_
      refine Rg.pure rfl rfl rfl (Pv.nilp rfl) ?_
      refine Rg.pure rfl rfl rfl (Pv.fa rfl) ?_
      refine Rg.read rfl rfl rfl (Ev.ld rfl rfl) ?_
      refine Rg.pure rfl rfl rfl (Pv.move rfl) ?_
      refine Rg.pure rfl rfl rfl (Pv.move rfl) ?_
      refine Rg.pure rfl rfl rfl (Pv.nilp rfl) ?_
      refine Rg.pure rfl rfl rfl (Pv.fa rfl) ?_
      refine Rg.read rfl rfl rfl (Ev.ld rfl rfl) ?_
      refine Rg.pure rfl rfl rfl (Pv.move rfl) ?_
      refine Rg.pure rfl rfl rfl (Pv.ixA (A.length) rfl rfl (by omega) (by omega)) ?_
      refine Rg.read rfl rfl rfl (Ev.as (.int .i64 (p.2 : Int)) (Ev.ldR (A.length) rfl (Nat.zero_add _) (by omega)) (congrArg kvi gP)) ?_
      refine Rg.pure rfl rfl rfl (Pv.asI (p.2 - 1) (Pv.sub rfl rfl (by omega)) (by omega)) ?_
      refine Rg.pure rfl rfl rfl (Pv.ixA (A.length) rfl rfl (by omega) (by omega)) ?_
      refine Rg.storeR (A.length) rfl rfl rfl rfl rfl rfl (Nat.zero_add _) (by omega) rfl ?_
      refine Rg.nil ?_
      refine Vc.seq ?_
      refine Vc.text (List.range 1) (sd [(0, .pure)]) rfl ?_
      refine Rg.pure rfl rfl rfl (Pv.assign rfl) ?_
      refine Rg.nil ?_
      exact Vc.ret (Vc.retsH rfl (.cons (.tmp rfl) (.nil)) (⟨congrArg (Value.int .i64) (if_neg p0).symm, vL, _, sL, _, ownL, by rw [← sP2]; exact Own.blk' bP cP _ (ps.set A.length ((p.2 - 1 : Nat) : Int)) spP (by rw [List.length_set]) hcP hmP, rfl⟩) pulled)

theorem rdrop_spec (F : Fm) {rb fr : Nat} {L : List (KTs × Nat)} {s : Hl} (hh : RefAt rb fr L s) (key : KTs) (hn : (L.map (·.1)).Nodup) (hp : ∀ p ∈ L, p.2 < 1073741824) (hN : L.length < 1073741824) :
    Spec Try.prog 20 #[.pointer (some ⟨rb, 0, none⟩), kvs key] F s fun v s' => v = .int .i64 (if hasK L key = true then if 0 < pinsK L key then 9 else 0 else 4) ∧ RefAt rb fr (if hasK L key = true then if 0 < pinsK L key then L else dropK L key else L) s' := by
  have hf := fun (F' : Fm) (hF : ∀ b o, (b, o) ∈ s → F'.at_ b o) => find_spec hh hF key hN
  rcases place_parts L key with ⟨h1, hk⟩ | ⟨A, p, B, rfl, rfl, h1, hk, hpk, _⟩
  · simp only [hk, Bool.false_eq_true, if_false]
    refine Spec.of (n := 22) (vs := [.pointer (some ⟨rb, 0, none⟩), kvs key]) Try.func20 rfl Try.ntmps20 rfl ?_
    refine Vc.seq ?_
    refine Vc.text (List.range 1) (sd [(0, .pure)]) rfl ?_
    refine Rg.pure rfl rfl rfl (Pv.assign rfl) ?_
    refine Rg.nil ?_
    refine Vc.seq ?_
    refine Vc.text (List.range 4) (sd [(0, .pure), (1, .pure), (2, .eff), (3, .pure)]) rfl ?_
    refine Rg.pure rfl rfl rfl (Pv.move rfl) ?_
    refine Rg.pure rfl rfl rfl (Pv.move rfl) ?_
    refine Rg.callP rfl rfl rfl (run_callF rfl) (hf _ frz_sb) ?_
    rintro _ rfl
    refine Rg.pure rfl rfl rfl (Pv.assign rfl) ?_
    refine Rg.nil ?_
    refine Vc.seq ?_
    refine Vc.seq ?_
    refine Vc.text (List.range 2) (sd [(0, .pure), (1, .pure)]) rfl ?_
    refine Rg.pure rfl rfl rfl (Pv.move rfl) ?_
    refine Rg.pure rfl rfl rfl (Pv.lss rfl rfl) ?_
    refine Rg.nil ?_
    refine Vc.cond rfl (fun h10 => ?_) (fun h10 => absurd h10 (by rw [h1]; decide))
    refine Vc.seq ?_
    refine Vc.text (List.range 1) (sd [(0, .pure)]) rfl ?_
    refine Rg.pure rfl rfl rfl (Pv.assign rfl) ?_
    refine Rg.nil ?_
    exact Vc.ret (Vc.rets rfl (.cons (.tmp rfl) .nil) ⟨rfl, hh⟩)
  · simp only [hk, if_true, hpk, dropK_parts hn]
    have hpp := hp p (by simp)
    have hh0 := hh
    obtain ⟨vL, vP, sL, sP, ownL, ownP, rfl⟩ := hh
    have lP : ((A ++ p :: B).map fun p : KTs × Nat => ((p.2 : Int) : KTi)).length = A.length + 1 + B.length := by simp; omega
    have gP : ((A ++ p :: B).map fun p : KTs × Nat => ((p.2 : Int) : KTi))[A.length]! = (p.2 : Int) := by rw [getElem!_pos ((A ++ p :: B).map fun p : KTs × Nat => ((p.2 : Int) : KTi)) A.length (by omega)]; simp
    generalize ((A ++ p :: B).map fun p : KTs × Nat => ((p.2 : Int) : KTi)) = ps at ownP lP gP
    obtain ⟨bP, cP, spP, rfl, rfl, hcP, hmP⟩ := ownP.block (by omega)
    refine Spec.of (n := 22) (vs := [.pointer (some ⟨rb, 0, none⟩), kvs p.1]) Try.func20 rfl Try.ntmps20 rfl ?_
    refine Vc.seq ?_
    refine Vc.text (List.range 1) (sd [(0, .pure)]) rfl ?_
    refine Rg.pure rfl rfl rfl (Pv.assign rfl) ?_
    refine Rg.nil ?_
    refine Vc.seq ?_
    refine Vc.text (List.range 4) (sd [(0, .pure), (1, .pure), (2, .eff), (3, .pure)]) rfl ?_
    refine Rg.pure rfl rfl rfl (Pv.move rfl) ?_
    refine Rg.pure rfl rfl rfl (Pv.move rfl) ?_
    refine Rg.callP rfl rfl rfl (run_callF rfl) (hf _ frz_sb) ?_
    rintro _ rfl
    rw [h1]
    refine Rg.pure rfl rfl rfl (Pv.assign rfl) ?_
    refine Rg.nil ?_
    refine Vc.seq ?_
    refine Vc.seq ?_
    refine Vc.text (List.range 2) (sd [(0, .pure), (1, .pure)]) rfl ?_
    refine Rg.pure rfl rfl rfl (Pv.move rfl) ?_
    refine Rg.pure rfl rfl rfl (Pv.lss rfl rfl) ?_
    refine Rg.nil ?_
    refine Vc.cond rfl (fun h10 => absurd h10 (by simp)) (fun h10 => ?_)
    refine Vc.skip ?_
    refine Vc.seq ?_
    refine Vc.seq ?_
    refine Vc.text (List.range 8) (sd [(0, .pure), (1, .pure), (2, .pure), (3, .read), (4, .pure), (5, .pure), (6, .read), (7, .pure)]) rfl ?_
    refine Rg.pure rfl rfl rfl (Pv.move rfl) ?_
    refine Rg.pure rfl rfl rfl (Pv.nilp rfl) ?_
    refine Rg.pure rfl rfl rfl (Pv.fa rfl) ?_
    refine Rg.read rfl rfl rfl (Ev.ld rfl rfl) ?_
    refine Rg.pure rfl rfl rfl (Pv.move rfl) ?_
    refine Rg.pure rfl rfl rfl (Pv.ixA (A.length) rfl rfl (by omega) (by omega)) ?_
    refine Rg.read rfl rfl rfl (Ev.as (.int .i64 (p.2 : Int)) (Ev.ldR (A.length) rfl (Nat.zero_add _) (by omega)) (congrArg kvi gP)) ?_
    refine Rg.pure rfl rfl rfl (Pv.gtr rfl rfl) ?_
    refine Rg.nil ?_
    refine Vc.cond rfl (fun h18 => ?_) (fun h18 => ?_)
    ·
      simp only [decide_eq_true_eq] at h18
      have p0 : 0 < p.2 := (by omega)
      refine Vc.seq ?_
      refine Vc.text (List.range 1) (sd [(0, .pure)]) rfl ?_
      refine Rg.pure rfl rfl rfl (Pv.assign rfl) ?_
      refine Rg.nil ?_
      exact Vc.ret (Vc.rets rfl (.cons (.tmp rfl) .nil) ⟨congrArg (Value.int .i64) (if_pos p0).symm, by rw [if_pos p0]; exact hh0⟩)
    ·
      simp only [decide_eq_false_iff_not] at h18
      have p0 : ¬ 0 < p.2 := (by omega)
      refine Vc.skip ?_
      refine Vc.seq ?_
      refine Vc.text (List.range 3) (sd [(0, .pure), (1, .pure), (2, .eff)]) rfl ?_
      refine Rg.pure rfl rfl rfl (Pv.move rfl) ?_
      refine Rg.pure rfl rfl rfl (Pv.move rfl) ?_
      refine Rg.callH rfl rfl rfl (run_callF rfl) (fun F' hF' => cut_spec F' hh0 hN) rfl ?_
      rintro v21 s21 h21
      refine Rg.nil ?_
      refine Vc.seq ?_
      refine Vc.text (List.range 1) (sd [(0, .pure)]) rfl ?_
      refine Rg.pure rfl rfl rfl (Pv.assign rfl) ?_
      refine Rg.nil ?_
      exact Vc.ret (Vc.retsH rfl (.cons (.tmp rfl) (.nil)) (⟨congrArg (Value.int .i64) (if_neg p0).symm, by rw [if_neg p0]; exact h21⟩) pulled)
end Go.Proofs.Ytigkckpjbnflpaa
