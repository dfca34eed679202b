/- Pools: the pages of a file; Flush, Drop. -/
import Derived.Test.YtjhegjcjplpmjaaPlJ
namespace Go.Proofs.Ytjhegjcjplpmjaa
set_option linter.unusedVariables false

def cmpK (a b : Pl) : Int := if a.k < b.k then -1 else if b.k < a.k then 1 else 0
theorem cmpK_lt (a b : Pl) : cmpK a b < 0 ↔ a.k < b.k := by
  unfold cmpK
  split
  · simp [*]
  · split <;> simp <;> omega
theorem cmpK_swo : Go.Sort.SWO (Go.Proofs.ltOf cmpK) := ⟨fun x => by simp only [Go.Proofs.ltOf, decide_eq_false_iff_not, cmpK_lt]; omega, fun x y z => by simp only [Go.Proofs.ltOf, decide_eq_true_eq, cmpK_lt]; omega, fun x y z => by simp only [Go.Proofs.ltOf, decide_eq_false_iff_not, cmpK_lt]; omega⟩
theorem isNaNI_spec {F : Fm} (a : Nat) : Spec Try.prog 67 #[.int .i64 (a : Int)] F [] fun v _ => v = .bool false := by
  refine Spec.of (n := 6) (vs := [.int .i64 (a : Int)]) Try.func67 rfl Try.ntmps67 rfl ?_
  refine Vc.seq ?_
  refine Vc.text (List.range 1) (sd [(0, .pure)]) rfl ?_
  refine Rg.pure rfl rfl rfl (Pv.assign rfl) ?_
  refine Rg.nil ?_
  refine Vc.seq ?_
  refine Vc.text (List.range 4) (sd [(0, .pure), (1, .pure), (2, .pure), (3, .pure)]) rfl ?_
  refine Rg.pure rfl rfl rfl (Pv.move rfl) ?_
  refine Rg.pure rfl rfl rfl (Pv.move rfl) ?_
  refine Rg.pure rfl rfl rfl (Pv.neq rfl rfl) ?_
  refine Rg.pure rfl rfl rfl (Pv.assign rfl) ?_
  refine Rg.nil ?_
  refine Vc.ret (Vc.rets rfl (.cons (.tmp rfl) (.nil)) ?_)
  exact congrArg Value.bool (by simp)
theorem compareI_spec {F : Fm} (a b : Pl) : Spec Try.prog 50 #[.int .i64 (a.k : Int), .int .i64 (b.k : Int)] F [] fun v _ => v = .int .i64 (cmpK a b) := by
  refine Spec.of (n := 20) (vs := [.int .i64 (a.k : Int), .int .i64 (b.k : Int)]) Try.func50 rfl Try.ntmps50 rfl ?_
  refine Vc.seq ?_
  refine Vc.text (List.range 1) (sd [(0, .pure)]) rfl ?_
  refine Rg.pure rfl rfl rfl (Pv.assign rfl) ?_
  refine Rg.nil ?_
  refine Vc.seq ?_
  refine Vc.text (List.range 3) (sd [(0, .pure), (1, .eff), (2, .pure)]) rfl ?_
  refine Rg.pure rfl rfl rfl (Pv.move rfl) ?_
  refine Rg.callP rfl rfl rfl (run_callF rfl) (isNaNI_spec a.k) ?_
  rintro _ rfl
  refine Rg.pure rfl rfl rfl (Pv.assign rfl) ?_
  refine Rg.nil ?_
  refine Vc.seq ?_
  refine Vc.text (List.range 3) (sd [(0, .pure), (1, .eff), (2, .pure)]) rfl ?_
  refine Rg.pure rfl rfl rfl (Pv.move rfl) ?_
  refine Rg.callP rfl rfl rfl (run_callF rfl) (isNaNI_spec b.k) ?_
  rintro _ rfl
  refine Rg.pure rfl rfl rfl (Pv.assign rfl) ?_
  refine Rg.nil ?_
  refine Vc.seq ?_
  refine Vc.seq ?_
  refine Vc.text (List.range 1) (sd [(0, .pure)]) rfl ?_
  refine Rg.pure rfl rfl rfl (Pv.move rfl) ?_
  refine Rg.nil ?_
  refine Vc.cond rfl (fun h11 => absurd h11 (by simp)) (fun h11 => ?_)
  refine Vc.skip ?_
  refine Vc.seq ?_
  refine Vc.seq ?_
  refine Vc.text (List.range 1) (sd [(0, .pure)]) rfl ?_
  refine Rg.pure rfl rfl rfl (Pv.move rfl) ?_
  refine Rg.nil ?_
  refine Vc.cond rfl (fun h13 => absurd h13 (by simp)) (fun h13 => ?_)
  refine Vc.skip ?_
  refine Vc.seq ?_
  refine Vc.seq ?_
  refine Vc.text (List.range 3) (sd [(0, .pure), (1, .pure), (2, .pure)]) rfl ?_
  refine Rg.pure rfl rfl rfl (Pv.move rfl) ?_
  refine Rg.pure rfl rfl rfl (Pv.move rfl) ?_
  refine Rg.pure rfl rfl rfl (Pv.lss rfl rfl) ?_
  refine Rg.nil ?_
  refine Vc.cond rfl (fun h16 => ?_) (fun h16 => ?_)
  ·
    simp only [decide_eq_true_eq] at h16
    refine Vc.seq ?_
    refine Vc.text (List.range 1) (sd [(0, .pure)]) rfl ?_
    refine Rg.pure rfl rfl rfl (Pv.assign rfl) ?_
    refine Rg.nil ?_
    refine Vc.ret (Vc.rets rfl (.cons (.tmp rfl) (.nil)) ?_)
    exact congrArg (Value.int .i64) (by rw [cmpK, if_pos (by omega)])
  ·
    simp only [decide_eq_false_iff_not] at h16
    refine Vc.skip ?_
    refine Vc.seq ?_
    refine Vc.seq ?_
    refine Vc.text (List.range 3) (sd [(0, .pure), (1, .pure), (2, .pure)]) rfl ?_
    refine Rg.pure rfl rfl rfl (Pv.move rfl) ?_
    refine Rg.pure rfl rfl rfl (Pv.move rfl) ?_
    refine Rg.pure rfl rfl rfl (Pv.gtr rfl rfl) ?_
    refine Rg.nil ?_
    refine Vc.cond rfl (fun h19 => ?_) (fun h19 => ?_)
    ·
      simp only [decide_eq_true_eq] at h19
      refine Vc.seq ?_
      refine Vc.text (List.range 1) (sd [(0, .pure)]) rfl ?_
      refine Rg.pure rfl rfl rfl (Pv.assign rfl) ?_
      refine Rg.nil ?_
      refine Vc.ret (Vc.rets rfl (.cons (.tmp rfl) (.nil)) ?_)
      exact congrArg (Value.int .i64) (by rw [cmpK, if_neg (by omega), if_pos (by omega)])
    ·
      simp only [decide_eq_false_iff_not] at h19
      refine Vc.skip ?_
      refine Vc.seq ?_
      refine Vc.text (List.range 1) (sd [(0, .pure)]) rfl ?_
      refine Rg.pure rfl rfl rfl (Pv.assign rfl) ?_
      refine Rg.nil ?_
      refine Vc.ret (Vc.rets rfl (.cons (.tmp rfl) (.nil)) ?_)
      exact congrArg (Value.int .i64) (by rw [cmpK, if_neg (by omega), if_neg (by omega)])
theorem ofc_spec {F : Fm} (a b : Pl) : Spec Try.prog 49 #[plV a, plV b] F [] fun v _ => v = .int .i64 (cmpK a b) := by
  refine Spec.of (n := 10) (vs := [plV a, plV b]) Try.func49 rfl Try.ntmps49 rfl ?_
  refine Vc.seq ?_
  refine Vc.text (List.range 3) (sd [(0, .eff), (1, .eff), (2, .pure)]) rfl ?_
  refine Rg.box rfl rfl rfl rfl rfl (fun b2 => ?_)
  refine Rg.box rfl rfl rfl rfl rfl (fun b3 => ?_)
  refine Rg.pure rfl rfl rfl (Pv.assign rfl) ?_
  refine Rg.nil ?_
  refine Vc.seq ?_
  refine Vc.text (List.range 6) (sd [(0, .pure), (1, .read), (2, .pure), (3, .read), (4, .eff), (5, .pure)]) rfl ?_
  refine Rg.pure rfl rfl rfl (Pv.fa rfl) ?_
  refine Rg.read rfl rfl rfl (Ev.ld rfl rfl) ?_
  refine Rg.pure rfl rfl rfl (Pv.fa rfl) ?_
  refine Rg.read rfl rfl rfl (Ev.ld rfl rfl) ?_
  refine Rg.callP rfl rfl rfl (run_callF rfl) (compareI_spec a b) ?_
  rintro _ rfl
  refine Rg.pure rfl rfl rfl (Pv.assign rfl) ?_
  refine Rg.nil ?_
  refine Vc.ret (Vc.rets rfl (.cons (.tmp rfl) (.nil)) ?_)
  rfl
theorem bytes_dec (a b : List UInt8) : decide ((⟨a.toArray⟩ : ByteArray) = ⟨b.toArray⟩) = decide (a = b) := by
  rw [Bool.eq_iff_iff, decide_eq_true_eq, decide_eq_true_eq]
  constructor
  · intro h
    have := congrArg ByteArray.data h
    simpa using this
  · rintro rfl; rfl

section
variable {F : Fm} {pb db fr ck n : Nat} {O : List UInt8 → Option (List UInt8)} {L : List Pl} {P : List (Pl × Pg)} {D : Dk} {s1 s2 : Hl}
theorem of_spec (hP : PoolAt pb db fr ck L P s1) (hF : ∀ b o, (b, o) ∈ s1 → F.at_ b o) (hN : P.length < 1073741824) (nm : List UInt8) :
    Spec Try.prog 31 #[.pointer (some ⟨pb, 0, none⟩), kS nm] F [] fun v s => ∃ ys, Own placeE v ys s ∧ ys.Perm ((P.map (·.1)).filter fun q => decide (q.nm = nm)) := by
  obtain ⟨cb, mb, mc, ms, sc, hp, hC, hpg, hnd, hbn, hold, hperm⟩ := hP
  replace hF := fun b o h => hF b o (hperm.mem_iff.2 h)
  have f1 : Fat F pb (cellsO [.pointer (some ⟨db, 0, none⟩), .pointer (some ⟨cb, 0, none⟩), .map (some mb)] 57) := ⟨hF _ _ List.mem_cons_self⟩
  have f2 : Fat F mb (mapO plV ms mc) := ⟨hF _ _ (List.mem_cons_of_mem _ List.mem_cons_self)⟩
  have hlen : ms.length = P.length := by have := congrArg List.length hpg.keys; simpa using this
  have hnd2 := me_nodup hbn
  refine Spec.of (n := 27) (vs := [.pointer (some ⟨pb, 0, none⟩), kS nm]) Try.func31 rfl Try.ntmps31 rfl ?_
  refine Vc.seq ?_
  refine Vc.text (List.range 1) (sd [(0, .pure)]) rfl ?_
  refine Rg.pure rfl rfl rfl (Pv.assign rfl) ?_
  refine Rg.nil ?_
  refine Vc.seq ?_
  refine Vc.text (List.range 1) (sd [(0, .pure)]) rfl ?_
  refine Rg.pure rfl rfl rfl (Pv.assign rfl) ?_
  refine Rg.nil ?_
  refine Vc.seq ?_
  refine Vc.seq ?_
  refine Vc.text (List.range 5) (sd [(0, .pure), (1, .pure), (2, .pure), (3, .read), (4, .eff)]) rfl ?_
  refine Rg.pure rfl rfl rfl (Pv.move rfl) ?_
  refine Rg.pure rfl rfl rfl (Pv.nilp rfl) ?_
  refine Rg.pure rfl rfl rfl (Pv.fa rfl) ?_
  refine Rg.read rfl rfl rfl (Ev.ld rfl rfl) ?_
  refine Rg.range rfl rfl rfl rfl (fun b11 => ?_)
  refine Rg.nil ?_
  refine Vc.block ?_
  refine Vc.loop5 (fun (dn rs : List (Me Pl)) (seen : Array Nat) (v : Value) (s : Hl) => ms.Perm (dn ++ rs) ∧ (∀ e ∈ ms, seen.contains e.born = true ↔ e ∈ dn) ∧ Own placeE v ((dn.map (·.k)).filter fun q => decide (q.nm = nm)) s) (fun dn rs seen v s => [(1, kS nm), (5, v), (11, .pointer (some ⟨b11, 0, none⟩))]) (fun dn rs seen v s => (b11, .mapIter (some mb) mc seen mc) :: s) (fun dn rs seen v s => rs.length) [] ms #[] (.slice none 0 0) [] ⟨.refl _, fun e he => by simp, Own.nil⟩ (.cons rfl (.cons rfl (.cons rfl .nil))) pulled ?_
  rintro dn rs seen v s ⟨hp2, hseen, oo⟩
  have hpl := hp2.length_eq
  simp only [List.length_append] at hpl
  have hfl := List.length_filter_le (fun q : Pl => decide (q.nm = nm)) (dn.map (·.k))
  rw [List.length_map] at hfl
  refine Vc.seq ?_
  refine Vc.text (List.range 2) (sd [(0, .eff), (1, .pure)]) rfl ?_
  refine Rg.next rfl rfl rfl rfl (hold) (Nat.le_refl _) rfl (fun all12 => ?_) (fun m12 mem12 new12 => ?_)
  ·
    have hrs : rs = [] := List.eq_nil_iff_forall_not_mem.2 fun e he => by
      have hees : e ∈ ms := hp2.mem_iff.2 (List.mem_append_right _ he)
      have hd := (hseen e hees).1 (all12 e hees)
      exact (List.nodup_append.1 (hp2.nodup_iff.1 hnd2)).2.2 e hd e he rfl
    subst hrs
    rw [List.append_nil] at hp2
    refine Rg.pure rfl rfl rfl (Pv.extract rfl rfl) ?_
    refine Rg.nil ?_
    refine Vc.seq ?_
    refine Vc.condF rfl ?_
    refine Vc.exit rfl ?_
    refine Vc.seq ?_
    refine Vc.text (List.range 2) (sd [(0, .pure), (1, .eff)]) rfl ?_
    refine Rg.pure rfl rfl rfl (Pv.move rfl) ?_
    refine Rg.callH rfl rfl rfl (run_callF rfl) (fun F' hF' => sortP_spec (F := F') cmpK cmpK_swo 49 #[] oo (by omega) (fun F2 hF2 x hx y hy => ofc_spec x y)) rfl ?_
    rintro v25 s25 ⟨ys, own25, hperm25, _⟩
    refine Rg.nil ?_
    refine Vc.seq ?_
    refine Vc.text (List.range 2) (sd [(0, .pure), (1, .pure)]) rfl ?_
    refine Rg.pure rfl rfl rfl (Pv.move rfl) ?_
    refine Rg.pure rfl rfl rfl (Pv.assign rfl) ?_
    refine Rg.nil ?_
    exact Vc.ret (Vc.retsH rfl (.cons (.tmp rfl) (.nil)) (⟨ys, own25, hperm25.trans (by rw [← hpg.keys]; exact ((hp2.map _).filter _).symm)⟩) pulled)
  ·
    have hers : m12 ∈ rs := by
      rcases List.mem_append.1 (hp2.mem_iff.1 mem12) with h | h
      · rw [(hseen m12 mem12).2 h] at new12; cases new12
      · exact h
    obtain ⟨A, B, rfl⟩ := List.append_of_mem hers
    simp only [List.length_append, List.length_cons] at hpl
    have hpa : ms.Perm ((dn ++ [m12]) ++ (A ++ B)) := hp2.trans (by rw [List.append_assoc]; exact (List.perm_middle (l₁ := A) (l₂ := B)).append_left dn)
    refine Rg.pure rfl rfl rfl (Pv.extract rfl rfl) ?_
    refine Rg.nil ?_
    refine Vc.seq ?_
    refine Vc.condT rfl ?_
    refine Vc.skip ?_
    refine Vc.block ?_
    refine Vc.seq ?_
    refine Vc.text (List.range 4) (sd [(0, .read), (1, .pure), (2, .eff), (3, .eff)]) rfl ?_
    refine Rg.read rfl rfl rfl (Ev.entry (m12) rfl (mem12) (hbn)) ?_
    refine Rg.pure rfl rfl rfl (Pv.extract rfl rfl) ?_
    refine Rg.alloc rfl rfl rfl rfl (fun b6 => ?_)
    refine Rg.storeA rfl rfl rfl rfl rfl rfl rfl rfl ?_
    refine Rg.nil ?_
    refine Vc.seq ?_
    refine Vc.text (List.range 4) (sd [(0, .pure), (1, .read), (2, .pure), (3, .pure)]) rfl ?_
    refine Rg.pure rfl rfl rfl (Pv.fa rfl) ?_
    refine Rg.read rfl rfl rfl (Ev.ld rfl rfl) ?_
    refine Rg.pure rfl rfl rfl (Pv.move rfl) ?_
    refine Rg.pure rfl rfl rfl (Pv.as (.bool (decide (m12.k.nm = nm))) (Pv.eqlS (p := ⟨m12.k.nm.toArray⟩) (q := ⟨nm.toArray⟩) rfl rfl) (congrArg Value.bool (bytes_dec _ _))) ?_
    refine Rg.nil ?_
    refine Vc.cond rfl (fun h19 => ?_) (fun h19 => ?_)
    ·
      refine Vc.text (List.range 5) (sd [(0, .pure), (1, .read), (2, .eff), (3, .eff), (4, .pure)]) rfl ?_
      refine Rg.pure rfl rfl rfl (Pv.move rfl) ?_
      refine Rg.read rfl rfl rfl (Ev.ldA rfl rfl) ?_
      refine Rg.bslice1 rfl rfl rfl rfl rfl rfl rfl (fun b22 => ?_)
      refine Rg.append rfl rfl rfl rfl rfl oo (Src.one (y := m12.k) rfl) (by simp <;> omega) (by simp [maxLen] <;> omega) rfl (fun v23 s23 own23 => ?_)
      refine Rg.pure rfl rfl rfl (Pv.assign rfl) ?_
      refine Rg.nil ?_
      refine Vc.blk ?_
      exact Vc.inv5 (dn ++ [m12]) (A ++ B) (seen.push m12.born) v23 s23 ⟨⟨hpa, me_seen hbn mem12 hseen, by rw [List.map_append, List.filter_append]; simpa [h19] using own23⟩, by simp⟩ (.cons rfl (.cons rfl (.cons rfl .nil))) pulled
    ·
      refine Vc.skip ?_
      refine Vc.blk ?_
      exact Vc.inv5 (dn ++ [m12]) (A ++ B) (seen.push m12.born) v s ⟨⟨hpa, me_seen hbn mem12 hseen, by rw [List.map_append, List.filter_append]; simpa [h19] using oo⟩, by simp⟩ (.cons rfl (.cons rfl (.cons rfl .nil))) pulled
end
end Go.Proofs.Ytjhegjcjplpmjaa
