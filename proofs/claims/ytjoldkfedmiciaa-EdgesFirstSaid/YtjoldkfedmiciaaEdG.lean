/- Graphs: the order of edges; sorted, Same; the document's too. -/
import Derived.Test.YtjoldkfedmiciaaSeqe
namespace Go.Proofs.Ytjoldkfedmiciaa
open Go.Sort Go.Proofs
set_option linter.unusedVariables false

def cmpN (a b : Nat) : Int := if a < b then -1 else if b < a then 1 else 0
def orL : List Int → Int
  | [] => 0
  | x :: r => if x = 0 then orL r else x
def cfE (a b : Eg) : Int := orL [cmpN a.t b.t, cmpN a.f b.f, cmpN a.w b.w]
theorem cfE_lt (a b : Eg) : cfE a b < 0 ↔ a.t < b.t ∨ a.t = b.t ∧ (a.f < b.f ∨ a.f = b.f ∧ a.w < b.w) := by
  simp only [cfE, orL, cmpN]
  repeat' split
  all_goals omega
theorem cfE_swo : SWO (ltOf cfE) := ⟨fun x => by simp only [ltOf, decide_eq_false_iff_not, cfE_lt]; omega, fun x y z => by simp only [ltOf, decide_eq_true_eq, cfE_lt]; omega, fun x y z => by simp only [ltOf, decide_eq_false_iff_not, cfE_lt]; omega⟩
theorem cfE_anti {x y : Eg} (h1 : ¬ cfE x y < 0) (h2 : ¬ cfE y x < 0) : x = y := by
  rw [cfE_lt] at h1 h2
  cases x; cases y
  simp only [Eg.mk.injEq]
  simp only at h1 h2
  omega
/-- One sorted row of the same things. -/
theorem sorted_unique {α : Type} {R : α → α → Prop} (hR : ∀ x y, R x y → R y x → x = y) : ∀ {l us : List α}, l.Perm us → l.Pairwise R → us.Pairwise R → l = us
  | [], us, hp, _, _ => (List.nil_perm.1 hp).symm
  | x :: l, [], hp, _, _ => by simp at hp
  | x :: l, y :: us, hp, hl, hu => by
    have hxy : x = y := by
      rcases List.mem_cons.1 (hp.mem_iff.1 List.mem_cons_self) with e | hx
      · exact e
      · rcases List.mem_cons.1 (hp.mem_iff.2 List.mem_cons_self) with e | hy
        · exact e.symm
        · exact hR x y ((List.pairwise_cons.1 hl).1 y hy) ((List.pairwise_cons.1 hu).1 x hx)
    subst hxy
    rw [sorted_unique hR hp.cons_inv (List.pairwise_cons.1 hl).2 (List.pairwise_cons.1 hu).2]
abbrev SortedE (zs : List Eg) : Prop := zs.Pairwise fun x y => ¬ cfE y x < 0
theorem sortedE_eq {a1 bs zs ws : List Eg} (h1 : zs.Perm a1) (h2 : ws.Perm bs) (s1 : SortedE zs) (s2 : SortedE ws) : zs = ws ↔ a1.Perm bs := by
  constructor
  · rintro rfl; exact h1.symm.trans h2
  · exact fun h => sorted_unique (fun x y h1 h2 => cfE_anti h2 h1) ((h1.trans h).trans h2.symm) s1 s2

def intE : Enc Int where
  k := 1
  tid := 3
  cells := fun b => [.int .i64 b]
  val := fun b => .int .i64 b
  pos := by decide
  len := fun _ => rfl
  one := fun x v hv => by simp at hv; subst hv; rfl
  vc := fun _ => rfl
instance : RowTy Try.prog intE 3 := ⟨Try.sizeOf3, .inr ⟨Try.isAgg3, rfl, fun _ => rfl⟩⟩

theorem isNaN_spec {F : Fm} (a : Nat) : Spec Try.prog 44 #[.int .u32 (a : Int)] F [] fun v _ => v = .bool false := by
  refine Spec.of (n := 6) (vs := [.int .u32 (a : Int)]) Try.func44 rfl Try.ntmps44 rfl ?_
  refine Vc.seq ?_
  refine Vc.text (List.range 1) (sd [(0, .pure)]) rfl ?_
  refine Rg.pure rfl rfl rfl (Pv.assign rfl) ?_
  refine Rg.nil ?_
  refine Vc.seq ?_
  refine Vc.text (List.range 4) (sd [(0, .pure), (1, .pure), (2, .pure), (3, .pure)]) rfl ?_
  refine Rg.pure rfl rfl rfl (Pv.move rfl) ?_
  refine Rg.pure rfl rfl rfl (Pv.move rfl) ?_
  refine Rg.pure rfl rfl rfl (Pv.neq rfl rfl) ?_
  refine Rg.pure rfl rfl rfl (Pv.assign rfl) ?_
  refine Rg.nil ?_
  refine Vc.ret (Vc.rets rfl (.cons (.tmp rfl) (.nil)) ?_)
  exact congrArg Value.bool (by simp)
theorem compare_spec {F : Fm} (a b : Nat) : Spec Try.prog 38 #[.int .u32 (a : Int), .int .u32 (b : Int)] F [] fun v _ => v = .int .i64 (cmpN a b) := by
  refine Spec.of (n := 20) (vs := [.int .u32 (a : Int), .int .u32 (b : Int)]) Try.func38 rfl Try.ntmps38 rfl ?_
  refine Vc.seq ?_
  refine Vc.text (List.range 1) (sd [(0, .pure)]) rfl ?_
  refine Rg.pure rfl rfl rfl (Pv.assign rfl) ?_
  refine Rg.nil ?_
  refine Vc.seq ?_
  refine Vc.text (List.range 3) (sd [(0, .pure), (1, .eff), (2, .pure)]) rfl ?_
  refine Rg.pure rfl rfl rfl (Pv.move rfl) ?_
  refine Rg.callP rfl rfl rfl (run_callF rfl) (isNaN_spec a) ?_
  rintro _ rfl
  refine Rg.pure rfl rfl rfl (Pv.assign rfl) ?_
  refine Rg.nil ?_
  refine Vc.seq ?_
  refine Vc.text (List.range 3) (sd [(0, .pure), (1, .eff), (2, .pure)]) rfl ?_
  refine Rg.pure rfl rfl rfl (Pv.move rfl) ?_
  refine Rg.callP rfl rfl rfl (run_callF rfl) (isNaN_spec b) ?_
  rintro _ rfl
  refine Rg.pure rfl rfl rfl (Pv.assign rfl) ?_
  refine Rg.nil ?_
  refine Vc.seq ?_
  refine Vc.seq ?_
  refine Vc.text (List.range 1) (sd [(0, .pure)]) rfl ?_
  refine Rg.pure rfl rfl rfl (Pv.move rfl) ?_
  refine Rg.nil ?_
  refine Vc.cond rfl (fun h11 => absurd h11 (by simp)) (fun h11 => ?_)
  refine Vc.skip ?_
  refine Vc.seq ?_
  refine Vc.seq ?_
  refine Vc.text (List.range 1) (sd [(0, .pure)]) rfl ?_
  refine Rg.pure rfl rfl rfl (Pv.move rfl) ?_
  refine Rg.nil ?_
  refine Vc.cond rfl (fun h13 => absurd h13 (by simp)) (fun h13 => ?_)
  refine Vc.skip ?_
  refine Vc.seq ?_
  refine Vc.seq ?_
  refine Vc.text (List.range 3) (sd [(0, .pure), (1, .pure), (2, .pure)]) rfl ?_
  refine Rg.pure rfl rfl rfl (Pv.move rfl) ?_
  refine Rg.pure rfl rfl rfl (Pv.move rfl) ?_
  refine Rg.pure rfl rfl rfl (Pv.lss rfl rfl) ?_
  refine Rg.nil ?_
  refine Vc.cond rfl (fun h16 => ?_) (fun h16 => ?_)
  ·
    simp only [decide_eq_true_eq] at h16
    refine Vc.seq ?_
    refine Vc.text (List.range 1) (sd [(0, .pure)]) rfl ?_
    refine Rg.pure rfl rfl rfl (Pv.assign rfl) ?_
    refine Rg.nil ?_
    refine Vc.ret (Vc.rets rfl (.cons (.tmp rfl) (.nil)) ?_)
    exact congrArg (Value.int .i64) (by rw [cmpN, if_pos (by omega)])
  ·
    simp only [decide_eq_false_iff_not] at h16
    refine Vc.skip ?_
    refine Vc.seq ?_
    refine Vc.seq ?_
    refine Vc.text (List.range 3) (sd [(0, .pure), (1, .pure), (2, .pure)]) rfl ?_
    refine Rg.pure rfl rfl rfl (Pv.move rfl) ?_
    refine Rg.pure rfl rfl rfl (Pv.move rfl) ?_
    refine Rg.pure rfl rfl rfl (Pv.gtr rfl rfl) ?_
    refine Rg.nil ?_
    refine Vc.cond rfl (fun h19 => ?_) (fun h19 => ?_)
    ·
      simp only [decide_eq_true_eq] at h19
      refine Vc.seq ?_
      refine Vc.text (List.range 1) (sd [(0, .pure)]) rfl ?_
      refine Rg.pure rfl rfl rfl (Pv.assign rfl) ?_
      refine Rg.nil ?_
      refine Vc.ret (Vc.rets rfl (.cons (.tmp rfl) (.nil)) ?_)
      exact congrArg (Value.int .i64) (by rw [cmpN, if_neg (by omega), if_pos (by omega)])
    ·
      simp only [decide_eq_false_iff_not] at h19
      refine Vc.skip ?_
      refine Vc.seq ?_
      refine Vc.text (List.range 1) (sd [(0, .pure)]) rfl ?_
      refine Rg.pure rfl rfl rfl (Pv.assign rfl) ?_
      refine Rg.nil ?_
      refine Vc.ret (Vc.rets rfl (.cons (.tmp rfl) (.nil)) ?_)
      exact congrArg (Value.int .i64) (by rw [cmpN, if_neg (by omega), if_neg (by omega)])
theorem or_spec {F : Fm} {va : Value} {xs : List Int} (ha : Arg intE F va xs) (hN : xs.length < 1073741824) : Spec Try.prog 37 #[va] F [] fun v _ => v = .int .i64 (orL xs) := by
  obtain ⟨q, c, rfl⟩ := ha.shape
  refine Spec.of (n := 18) (vs := [.slice q xs.length c]) Try.func37 rfl Try.ntmps37 rfl ?_
  refine Vc.seq ?_
  refine Vc.text (List.range 1) (sd [(0, .pure)]) rfl ?_
  refine Rg.pure rfl rfl rfl (Pv.assign rfl) ?_
  refine Rg.nil ?_
  refine Vc.seq ?_
  refine Vc.text (List.range 1) (sd [(0, .pure)]) rfl ?_
  refine Rg.pure rfl rfl rfl (Pv.assign rfl) ?_
  refine Rg.nil ?_
  refine Vc.seq ?_
  refine Vc.seq ?_
  refine Vc.text (List.range 3) (sd [(0, .pure), (1, .pure), (2, .pure)]) rfl ?_
  refine Rg.pure rfl rfl rfl (Pv.move rfl) ?_
  refine Rg.pure rfl rfl rfl (Pv.lenS rfl) ?_
  refine Rg.pure rfl rfl rfl (Pv.move rfl) ?_
  refine Rg.nil ?_
  refine Vc.block ?_
  refine Vc.loop1 (fun (i : Nat) => i ≤ xs.length ∧ orL xs = orL (xs.drop i)) (fun i => [(3, .int .i64 0), (6, .slice q xs.length c), (7, .int .i64 (xs.length : Int)), (8, .int .i64 (i : Int))]) (fun i => []) (fun i => xs.length - i) 0 ⟨Nat.zero_le _, rfl⟩ (.cons rfl (.cons rfl (.cons rfl (.cons rfl .nil)))) pulled ?_
  rintro i ⟨h1, h2⟩
  refine Vc.seq ?_
  refine Vc.text (List.range 1) (sd [(0, .pure)]) rfl ?_
  refine Rg.pure rfl rfl rfl (Pv.lss rfl rfl) ?_
  refine Rg.nil ?_
  refine Vc.seq ?_
  refine Vc.cond rfl (fun h9 => ?_) (fun h9 => ?_)
  ·
    simp only [decide_eq_true_eq] at h9
    obtain ⟨b, off, c', e, _⟩ := ha.block (by omega)
    cases e
    have hd : xs.drop i = xs[i]! :: xs.drop (i + 1) := by rw [getElem!_pos xs i (by omega)]; exact List.drop_eq_getElem_cons (by omega)
    rw [hd, orL] at h2
    refine Vc.skip ?_
    refine Vc.seq ?_
    refine Vc.block ?_
    refine Vc.seq ?_
    refine Vc.text (List.range 3) (sd [(0, .pure), (1, .read), (2, .pure)]) rfl ?_
    refine Rg.pure rfl rfl rfl (Pv.ixA (i) rfl rfl (by omega) (by omega)) ?_
    refine Rg.read rfl rfl rfl (Ev.ldS (i) (ha.src) rfl rfl rfl (by omega)) ?_
    refine Rg.pure rfl rfl rfl (Pv.assign rfl) ?_
    refine Rg.nil ?_
    refine Vc.seq ?_
    refine Vc.text (List.range 3) (sd [(0, .pure), (1, .pure), (2, .pure)]) rfl ?_
    refine Rg.pure rfl rfl rfl (Pv.move rfl) ?_
    refine Rg.pure rfl rfl rfl (Pv.move rfl) ?_
    refine Rg.pure rfl rfl rfl (Pv.neq rfl rfl) ?_
    refine Rg.nil ?_
    refine Vc.cond rfl (fun h14 => ?_) (fun h14 => ?_)
    ·
      simp only [bne_iff_ne, ne_eq] at h14
      rw [if_neg h14] at h2
      refine Vc.seq ?_
      refine Vc.text (List.range 2) (sd [(0, .pure), (1, .pure)]) rfl ?_
      refine Rg.pure rfl rfl rfl (Pv.move rfl) ?_
      refine Rg.pure rfl rfl rfl (Pv.assign rfl) ?_
      refine Rg.nil ?_
      refine Vc.ret (Vc.rets rfl (.cons (.tmp rfl) (.nil)) ?_)
      exact congrArg (Value.int .i64) h2.symm
    ·
      simp only [bne_eq_false_iff_eq] at h14
      rw [if_pos h14] at h2
      refine Vc.skip ?_
      refine Vc.blk ?_
      refine Vc.text (List.range 2) (sd [(0, .pure), (1, .pure)]) rfl ?_
      refine Rg.pure rfl rfl rfl (Pv.asI (i + 1) (Pv.add rfl rfl (by omega)) (by omega)) ?_
      refine Rg.pure rfl rfl rfl (Pv.move rfl) ?_
      refine Rg.nil ?_
      exact Vc.inv1 (i + 1) ⟨⟨by omega, h2⟩, by omega⟩ (.cons rfl (.cons rfl (.cons rfl (.cons rfl .nil)))) pulled
  ·
    simp only [decide_eq_false_iff_not] at h9
    rw [List.drop_eq_nil_of_le (by omega), orL] at h2
    refine Vc.exit rfl ?_
    refine Vc.seq ?_
    refine Vc.text (List.range 2) (sd [(0, .pure), (1, .pure)]) rfl ?_
    refine Rg.pure rfl rfl rfl (Pv.move rfl) ?_
    refine Rg.pure rfl rfl rfl (Pv.assign rfl) ?_
    refine Rg.nil ?_
    refine Vc.ret (Vc.rets rfl (.cons (.tmp rfl) (.nil)) ?_)
    exact congrArg (Value.int .i64) h2.symm
theorem cmpE_spec {F : Fm} (a b : Eg) : Spec Try.prog 36 #[egV a, egV b] F [] fun v _ => v = .int .i64 (cfE a b) := by
  refine Spec.of (n := 22) (vs := [egV a, egV b]) Try.func36 rfl Try.ntmps36 rfl ?_
  refine Vc.seq ?_
  refine Vc.text (List.range 3) (sd [(0, .eff), (1, .eff), (2, .pure)]) rfl ?_
  refine Rg.box rfl rfl rfl rfl rfl (fun b2 => ?_)
  refine Rg.box rfl rfl rfl rfl rfl (fun b3 => ?_)
  refine Rg.pure rfl rfl rfl (Pv.assign rfl) ?_
  refine Rg.nil ?_
  refine Vc.seq ?_
  refine Vc.draw [] (sd [(0, .pure), (1, .read), (2, .pure), (3, .read), (5, .pure), (6, .read), (7, .pure), (8, .read), (10, .pure), (11, .read), (12, .pure), (13, .read), (4, .eff), (9, .eff), (14, .eff), (15, .eff), (16, .eff), (17, .pure)]) mixed (by kernel_rfl) ?_
  refine Rg.pure rfl rfl rfl (Pv.fa rfl) ?_
  refine Rg.read rfl rfl rfl (Ev.ld rfl rfl) ?_
  refine Rg.pure rfl rfl rfl (Pv.fa rfl) ?_
  refine Rg.read rfl rfl rfl (Ev.ld rfl rfl) ?_
  refine Rg.pure rfl rfl rfl (Pv.fa rfl) ?_
  refine Rg.read rfl rfl rfl (Ev.ld rfl rfl) ?_
  refine Rg.pure rfl rfl rfl (Pv.fa rfl) ?_
  refine Rg.read rfl rfl rfl (Ev.ld rfl rfl) ?_
  refine Rg.pure rfl rfl rfl (Pv.fa rfl) ?_
  refine Rg.read rfl rfl rfl (Ev.ld rfl rfl) ?_
  refine Rg.pure rfl rfl rfl (Pv.fa rfl) ?_
  refine Rg.read rfl rfl rfl (Ev.ld rfl rfl) ?_
  refine Rg.callP rfl rfl rfl (run_callF rfl) (compare_spec a.t b.t) ?_
  rintro _ rfl
  refine Rg.callP rfl rfl rfl (run_callF rfl) (compare_spec a.f b.f) ?_
  rintro _ rfl
  refine Rg.callP rfl rfl rfl (run_callF rfl) (compare_spec a.w b.w) ?_
  rintro _ rfl
  refine Rg.bsliceN (cs := [.int .i64 (cmpN a.t b.t), .int .i64 (cmpN a.f b.f), .int .i64 (cmpN a.w b.w)]) rfl rfl rfl rfl rfl rfl rfl (fun b20 => ?_)
  refine Rg.callP rfl rfl rfl (run_callF rfl) (or_spec (Arg.own (Own.blk' (E := intE) b20 3 3 [cmpN a.t b.t, cmpN a.f b.f, cmpN a.w b.w] [] rfl rfl (by decide)) (fun b' o hb => frz_sb (s := [(b20, cellsO [.int .i64 (cmpN a.t b.t), .int .i64 (cmpN a.f b.f), .int .i64 (cmpN a.w b.w)] 3)]) b' o hb)) (by simp)) ?_
  rintro _ rfl
  refine Rg.pure rfl rfl rfl (Pv.assign rfl) ?_
  refine Rg.nil ?_
  refine Vc.ret (Vc.rets rfl (.cons (.tmp rfl) (.nil)) ?_)
  rfl

theorem sorted_spec {F : Fm} {va : Value} {es : List Eg} (ha : Arg edgeE F va es) (hN : es.length < 1073741824) :
    Spec Try.prog 29 #[va] F [] fun v s => ∃ zs, Own edgeE v zs s ∧ zs.Perm es ∧ SortedE zs := by
  obtain ⟨p, c, rfl⟩ := ha.shape
  refine Spec.of (n := 6) (vs := [.slice p es.length c]) Try.func29 rfl Try.ntmps29 rfl ?_
  refine Vc.seq ?_
  refine Vc.text (List.range 1) (sd [(0, .pure)]) rfl ?_
  refine Rg.pure rfl rfl rfl (Pv.assign rfl) ?_
  refine Rg.nil ?_
  refine Vc.seq ?_
  refine Vc.text (List.range 4) (sd [(0, .pure), (1, .eff), (2, .eff), (3, .pure)]) rfl ?_
  refine Rg.pure rfl rfl rfl (Pv.move rfl) ?_
  refine Rg.callA rfl rfl rfl (run_callF rfl) values_spece ?_
  rintro _ _ ⟨bs, rfl, rfl⟩
  refine Rg.callH rfl rfl rfl (run_callF rfl) (fun F' hF' => sortedFunc_spece (F := F') (Sp := fun p => p <+: es) (S := fun p => p = es) cfE cfE_swo 36 (lb := [.pointer (some ⟨bs, 0, none⟩)]) (hi := [(bs, cellsO [.slice p es.length c] 22)]) (fun F'' h => values_itere (ha.mono fun b o hb => h b o (hF' b o (.inr hb))) hN bs) (fun pre x hp => by have := (prefix_take hp).1; omega) (fun ys e => by rw [e]; exact hN) (fun F'' h ys _ x _ y _ => cmpE_spec x y)) rfl ?_
  rintro v5 s5 ⟨ys, zs, rfl, own, hp, hs⟩
  refine Rg.pure rfl rfl rfl (Pv.assign rfl) ?_
  refine Rg.nil ?_
  exact Vc.ret (Vc.retsH rfl (.cons (.tmp rfl) (.nil)) (⟨zs, own, hp, hs⟩) pulled)
end Go.Proofs.Ytjoldkfedmiciaa
