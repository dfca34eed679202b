/- Runs: Sorted, few; the document's Sorted. -/
import Derived.Test.YtkkbeljmloikkaaRuS
namespace Go.Proofs.Ytkkbeljmloikkaa
set_option linter.unusedVariables false

def NR (l : List Rc) : Prop := ∀ r ∈ l, 0 ≤ r.val ∧ r.val < 18446744073709551616
theorem NR.nn {l : List Rc} (h : NR l) : NN l := fun r hr => (h r hr).1
theorem NR.take {l : List Rc} (h : NR l) (k : Nat) : NR (l.take k) := fun r hr => h r (List.mem_of_mem_take hr)
theorem NR.perm {l m : List Rc} (hp : l.Perm m) (h : NR l) : NR m := fun r hr => h r (hp.mem_iff.2 hr)
theorem NR.get {l : List Rc} (h : NR l) {j : Nat} (hj : j < l.length) : 0 ≤ l[j]!.val ∧ l[j]!.val < 18446744073709551616 := h _ (by rw [getElem!_pos l j hj]; exact List.getElem_mem _)
theorem NR.app {l m : List Rc} (hl : NR l) (hm : NR m) : NR (l ++ m) := fun x hx => (List.mem_append.1 hx).elim (hl x) (hm x)
theorem foldC_nr {how : Int} (l : List Rc) : NR l → NR (foldC how l) := by
  induction l using snocRec with
  | nil => intro _ r hr; exact absurd hr List.not_mem_nil
  | snoc l r ih =>
    intro h
    have hl := ih fun x hx => h x (List.mem_append_left _ hx)
    have hr := h r (by simp)
    rw [foldC_snoc]
    rcases eq_nil_or_snoc (foldC how l) with hf | ⟨m, x, hf⟩
    · rw [hf, stepC_nil]; intro y hy; simp at hy; rw [hy]; exact hr
    · rw [hf] at hl ⊢
      have hx := hl x (by simp)
      rw [stepC_snoc]
      split
      · intro y hy
        rcases List.mem_append.1 hy with hy | hy
        · exact hl y (List.mem_append_left _ hy)
        · simp at hy; rw [hy]; exact comb_in hx hr
      · exact hl.app fun y hy => by simp at hy; rw [hy]; exact hr
theorem sortedG_nr {how : Int} {l : List Rc} (h : NR l) : NR (sortedG how l) := foldC_nr _ (h.perm (sortL_perm l).symm)
theorem sortedG_length (how : Int) (l : List Rc) : (sortedG how l).length ≤ l.length := by
  have := foldC_length how (sortL l)
  rw [sortL_length] at this
  exact this
def okHow (how : Int) : Bool := decide (0 ≤ how) && decide (how ≤ 2)
theorem sorted_of {zs xs : List Rc} (hp : zs.Perm xs) (hs : zs.Pairwise fun x y => ¬ cfR y x < 0) : zs = sortL xs :=
  sortL_of hp (hs.imp fun {a b} h => by rw [cfR_lt] at h; simpa using h)

theorem sorted_spec {F : Fm} {va : Value} {xs : List Rc} (ha : Arg recE F va xs) (hN : xs.length < 1000000) (hR : NR xs) (how : Int) :
    Spec Try.prog 13 #[va, .int .i64 how] F [] fun v s => ∃ u er, v = .tuple #[u, .int .i64 er] ∧ ((okHow how = true ∧ er = 0 ∧ Own recE u (sortedG how xs) s) ∨ (okHow how = false ∧ er = 1 ∧ u = .slice none 0 0)) := by
  obtain ⟨p, c, rfl⟩ := ha.shape
  refine Spec.of (n := 27) (vs := [.slice p xs.length c, .int .i64 how]) Try.func13 rfl Try.ntmps13 rfl ?_
  refine Vc.seq ?_
  refine Vc.text (List.range 2) (sd [(0, .pure), (1, .pure)]) rfl ?_
  refine Rg.pure rfl rfl rfl (Pv.assign rfl) ?_
  refine Rg.pure rfl rfl rfl (Pv.assign rfl) ?_
  refine Rg.nil ?_
  refine Vc.seq ?_
  refine Vc.seq ?_
  refine Vc.text (List.range 3) (sd [(0, .pure), (1, .eff), (2, .pure)]) rfl ?_
  refine Rg.pure rfl rfl rfl (Pv.move rfl) ?_
  refine Rg.callP rfl rfl rfl (run_callF rfl) (right_spec _ _) ?_
  rintro _ rfl
  refine Rg.pure rfl rfl rfl (Pv.not rfl) ?_
  refine Rg.nil ?_
  refine Vc.cond rfl (fun h11 => ?_) (fun h11 => ?_)
  ·
    have hno : okHow how = false := by simpa only [okHow, Bool.not_eq_true'] using h11
    refine Vc.seq ?_
    refine Vc.text (List.range 2) (sd [(0, .pure), (1, .pure)]) rfl ?_
    refine Rg.pure rfl rfl rfl (Pv.assign rfl) ?_
    refine Rg.pure rfl rfl rfl (Pv.assign rfl) ?_
    refine Rg.nil ?_
    exact Vc.ret (Vc.retsH (hl' := []) rfl (.cons (.tmp rfl) (.cons (.tmp rfl) .nil)) ⟨_, _, rfl, .inr ⟨hno, rfl, rfl⟩⟩ pulled)
  ·
    have hok : okHow how = true := by simpa [okHow] using h11
    refine Vc.skip ?_
    refine Vc.seq ?_
    refine Vc.text (List.range 4) (sd [(0, .pure), (1, .pure), (2, .eff), (3, .eff)]) rfl ?_
    refine Rg.pure rfl rfl rfl (Pv.move rfl) ?_
    refine Rg.pure rfl rfl rfl (Pv.build (c := #[.int .i64 how, .slice none 0 0]) rfl rfl) ?_
    refine Rg.alloc rfl rfl rfl rfl (fun b6 => ?_)
    refine Rg.storeA rfl rfl rfl rfl rfl rfl rfl rfl ?_
    refine Rg.nil ?_
    refine Vc.seq ?_
    refine Vc.seq ?_
    refine Vc.text (List.range 5) (sd [(0, .pure), (1, .eff), (2, .eff), (3, .pure), (4, .pure)]) rfl ?_
    refine Rg.pure rfl rfl rfl (Pv.move rfl) ?_
    refine Rg.callA rfl rfl rfl (run_callF rfl) values_specr ?_
    rintro _ _ ⟨bs, rfl, rfl⟩
    refine Rg.callH rfl rfl rfl (run_callF rfl) (fun F' hF' => sortedFunc_specr (F := F') (Sp := fun p => p <+: xs) (S := fun p => p = xs) cfR cfR_swo 27 (lb := [.pointer (some ⟨bs, 0, none⟩)]) (hi := [(bs, cellsO [.slice p xs.length c] 22)]) (fun F'' h => values_iterr (ha.mono fun b o hb => h b o (hF' b o (.inr hb))) (by omega) bs) (fun pre x hp => by have := hp.length_le; simp at this; omega) (fun ys e => by rw [e]; omega) (fun F'' h ys _ x _ y _ => compare_spec _ x y)) rfl ?_
    rintro v16 s16 ⟨ys, zs, rfl, own, hp, hs⟩
    obtain rfl := sorted_of hp hs
    have hlen := sortL_length ys
    have hzr : NR (sortL ys) := hR.perm (sortL_perm ys).symm
    rw [show sortedG how ys = foldC how (sortL ys) from rfl]
    generalize sortL ys = zs at own hlen hzr
    obtain ⟨q, cq, rfl⟩ := own.shape
    refine Rg.pure rfl rfl rfl (Pv.lenS rfl) ?_
    refine Rg.pure rfl rfl rfl (Pv.move rfl) ?_
    refine Rg.nil ?_
    refine Vc.block ?_
    refine Vc.loop2 (fun (k : Nat) (sg : Hl) => k ≤ zs.length ∧ FoldAt b6 how (foldC how (zs.take k)) sg) (fun k sg => [(6, .pointer (some ⟨b6, 0, none⟩)), (16, .slice q zs.length cq), (17, .int .i64 (zs.length : Int)), (18, .int .i64 (k : Int))]) (fun k sg => s16 ++ sg) (fun k sg => zs.length - k) 0 [(b6, cellsO [.int .i64 how, .slice none 0 0] 50)] ⟨Nat.zero_le _, _, _, .nil, rfl⟩ (.cons rfl (.cons rfl (.cons rfl (.cons rfl .nil)))) pulled ?_
    rintro k sg ⟨hk, hfo⟩
    refine Vc.seq ?_
    refine Vc.text (List.range 1) (sd [(0, .pure)]) rfl ?_
    refine Rg.pure rfl rfl rfl (Pv.lss rfl rfl) ?_
    refine Rg.nil ?_
    refine Vc.seq ?_
    refine Vc.cond rfl (fun h19 => ?_) (fun h19 => ?_)
    ·
      simp only [decide_eq_true_eq] at h19
      obtain ⟨bz, cz, sp, e, rfl, hcz, hmz⟩ := own.block (by omega)
      cases e
      have hfl := foldC_length how (zs.take k)
      have hfn := (foldC_nr (how := how) _ (hzr.take k)).nn
      have hx := hzr.get (j := k) (by omega)
      have htk := take_get zs (i := k) (by omega)
      generalize hxx : zs[k]! = x at hx htk
      refine Vc.skip ?_
      refine Vc.seq ?_
      refine Vc.block ?_
      refine Vc.seq ?_
      refine Vc.text (List.range 4) (sd [(0, .pure), (1, .read), (2, .eff), (3, .eff)]) rfl ?_
      refine Rg.pure rfl rfl rfl (Pv.ixA (k) rfl rfl (by omega) (by omega)) ?_
      refine Rg.read rfl rfl rfl (Ev.as (recV x) (Ev.ldR k rfl (Nat.zero_add _) (by omega)) (congrArg recV hxx)) ?_
      refine Rg.alloc rfl rfl rfl rfl (fun b8 => ?_)
      refine Rg.storeA (us := recC x) rfl rfl rfl rfl rfl rfl rfl rfl ?_
      refine Rg.nil ?_
      refine Vc.text (List.range 2) (sd [(0, .read), (1, .eff)]) rfl ?_
      refine Rg.read rfl rfl rfl (Ev.as (recV x) (Ev.ldA rfl rfl) rfl) ?_
      refine Rg.callH rfl rfl rfl (run_callF rfl) (fun F' hF' => putF_spec F' b6 how _ x _ hfo (by simp at hfl; omega) hfn hx.1) rfl ?_
      rintro _ s23 hfo2
      refine Rg.nil ?_
      refine Vc.blk ?_
      refine Vc.text (List.range 2) (sd [(0, .pure), (1, .pure)]) rfl ?_
      refine Rg.pure rfl rfl rfl (Pv.asI (k + 1) (Pv.add rfl rfl (by omega)) (by omega)) ?_
      refine Rg.pure rfl rfl rfl (Pv.move rfl) ?_
      refine Rg.nil ?_
      exact Vc.inv2 (k + 1) s23 ⟨⟨by omega, by rw [htk, foldC_snoc]; exact hfo2⟩, by omega⟩ (.cons rfl (.cons rfl (.cons rfl (.cons rfl .nil)))) pulled
    ·
      simp only [decide_eq_false_iff_not] at h19
      rw [List.take_of_length_le (by omega)] at hfo
      obtain ⟨vf, sf, ownf, rfl⟩ := hfo
      refine Vc.exit rfl ?_
      refine Vc.seq ?_
      refine Vc.text (List.range 4) (sd [(0, .pure), (1, .read), (2, .pure), (3, .pure)]) rfl ?_
      refine Rg.pure rfl rfl rfl (Pv.fa rfl) ?_
      refine Rg.read rfl rfl rfl (Ev.ld rfl rfl) ?_
      refine Rg.pure rfl rfl rfl (Pv.assign rfl) ?_
      refine Rg.pure rfl rfl rfl (Pv.assign rfl) ?_
      refine Rg.nil ?_
      exact Vc.ret (Vc.retsH rfl (.cons (.tmp rfl) (.cons (.tmp rfl) (.nil))) (⟨_, _, rfl, .inl ⟨hok, rfl, ownf⟩⟩) pulled)

theorem rsorted_spec {F : Fm} {va : Value} {xs : List Rc} (ha : Arg recE F va xs) (hN : xs.length < 1000000) (hR : NR xs) (how : Int) :
    Spec Try.prog 17 #[va, .int .i64 how] F [] fun v s => Own recE v (sortedG how xs) s := by
  obtain ⟨p, c, rfl⟩ := ha.shape
  refine Spec.of (n := 65) (vs := [.slice p xs.length c, .int .i64 how]) Try.func17 rfl Try.ntmps17 rfl ?_
  refine Vc.seq ?_
  refine Vc.text (List.range 1) (sd [(0, .pure)]) rfl ?_
  refine Rg.pure rfl rfl rfl (Pv.assign rfl) ?_
  refine Rg.nil ?_
  refine Vc.seq ?_
  refine Vc.text (List.range 3) (sd [(0, .pure), (1, .eff), (2, .pure)]) rfl ?_
  refine Rg.pure rfl rfl rfl (Pv.move rfl) ?_
  refine Rg.callA rfl rfl rfl (run_callF rfl) (sort_spec _ _ _ (ha.mono fun b o h => Or.inr h) (by omega)) ?_
  rintro v10 s10 own
  have hlen := sortL_length xs
  have hzr : NR (sortL xs) := hR.perm (sortL_perm xs).symm
  rw [show sortedG how xs = foldC how (sortL xs) from rfl]
  generalize sortL xs = zs at own hlen hzr
  obtain ⟨q, cq, rfl⟩ := own.shape
  refine Rg.pure rfl rfl rfl (Pv.assign rfl) ?_
  refine Rg.nil ?_
  refine Vc.seq ?_
  refine Vc.seq ?_
  refine Vc.text (List.range 2) (sd [(0, .pure), (1, .pure)]) rfl ?_
  refine Rg.pure rfl rfl rfl (Pv.move rfl) ?_
  refine Rg.pure rfl rfl rfl (Pv.eql rfl rfl) ?_
  refine Rg.nil ?_
  refine Vc.cond rfl (fun h12 => ?_) (fun h12 => ?_)
  ·
    simp only [beq_iff_eq] at h12
    subst h12
    refine Vc.seq ?_
    refine Vc.text (List.range 2) (sd [(0, .pure), (1, .pure)]) rfl ?_
    refine Rg.pure rfl rfl rfl (Pv.move rfl) ?_
    refine Rg.pure rfl rfl rfl (Pv.assign rfl) ?_
    refine Rg.nil ?_
    exact Vc.ret (Vc.retsH rfl (.cons (.tmp rfl) (.nil)) ((show Own recE _ (foldC 0 zs) _ from by rw [foldC_zero]; exact own)) pulled)
  ·
    simp only [beq_eq_false_iff_ne, ne_eq] at h12
    refine Vc.skip ?_
    refine Vc.seq ?_
    refine Vc.text (List.range 2) (sd [(0, .eff), (1, .pure)]) rfl ?_
    refine Rg.bslice0 (E := recE) rfl rfl rfl (fun b14 own14 => ?_)
    refine Rg.pure rfl rfl rfl (Pv.assign rfl) ?_
    refine Rg.nil ?_
    refine Vc.seq ?_
    refine Vc.seq ?_
    refine Vc.text (List.range 1) (sd [(0, .pure)]) rfl ?_
    refine Rg.pure rfl rfl rfl (Pv.assign rfl) ?_
    refine Rg.nil ?_
    refine Vc.block ?_
    refine Vc.loop3 (fun (k : Nat) (v : Value) (sg : Hl) => k ≤ zs.length ∧ Own recE v (foldC how (zs.take k)) sg) (fun k v sg => [(1, .int .i64 how), (5, .slice q zs.length cq), (6, v), (7, .int .i64 (k : Int))]) (fun k v sg => s10 ++ sg) (fun k v sg => zs.length - k) 0 _ _ ⟨Nat.zero_le _, own14⟩ (.cons rfl (.cons rfl (.cons rfl (.cons rfl .nil)))) pulled ?_
    rintro k v sg ⟨hk, owno⟩
    obtain ⟨qo, co, rfl⟩ := owno.shape
    refine Vc.seq ?_
    refine Vc.seq ?_
    refine Vc.text (List.range 4) (sd [(0, .pure), (1, .pure), (2, .pure), (3, .pure)]) rfl ?_
    refine Rg.pure rfl rfl rfl (Pv.move rfl) ?_
    refine Rg.pure rfl rfl rfl (Pv.move rfl) ?_
    refine Rg.pure rfl rfl rfl (Pv.lenS rfl) ?_
    refine Rg.pure rfl rfl rfl (Pv.lss rfl rfl) ?_
    refine Rg.nil ?_
    refine Vc.cond rfl (fun h18 => ?_) (fun h18 => ?_)
    ·
      simp only [decide_eq_true_eq] at h18
      obtain ⟨bz, cz, sp, e, rfl, hcz, hmz⟩ := own.block (by omega)
      cases e
      have hfl := foldC_length how (zs.take k)
      simp only [List.length_take] at hfl
      have hfr := foldC_nr (how := how) _ (hzr.take k)
      have hx := hzr.get (j := k) (by omega)
      have htk := take_get zs (i := k) (by omega)
      have hsn := foldC_snoc how (zs.take k) zs[k]!
      rw [← htk] at hsn
      generalize hxx : zs[k]! = x at hx hsn
      generalize foldC how (zs.take k) = out at owno hfl hfr hsn
      refine Vc.skip ?_
      refine Vc.seq ?_
      refine Vc.block ?_
      refine Vc.seq ?_
      refine Vc.text (List.range 3) (sd [(0, .pure), (1, .pure), (2, .pure)]) rfl ?_
      refine Rg.pure rfl rfl rfl (Pv.move rfl) ?_
      refine Rg.pure rfl rfl rfl (Pv.lenS rfl) ?_
      refine Rg.pure rfl rfl rfl (Pv.assign rfl) ?_
      refine Rg.nil ?_
      refine Vc.seq ?_
      refine Vc.draw [] (sd [(0, .pure), (1, .pure), (2, .pure), (3, .pure), (4, .pure), (5, .pure), (6, .pure), (7, .pure), (8, .read), (9, .pure), (10, .pure), (11, .pure), (12, .pure), (13, .read), (14, .pure), (15, .pure)]) mixed (by kernel_rfl) ?_
      refine Rg.pure rfl rfl rfl (Pv.move rfl) ?_
      refine Rg.pure rfl rfl rfl (Pv.gtr rfl rfl) ?_
      refine Rg.pure rfl rfl rfl (Pv.move rfl) ?_
      refine Rg.split (t := 25) rfl (fun h25 => ?_) (fun h25 => ?_)
      ·
        simp only [decide_eq_true_eq] at h25
        obtain ⟨bo, cpo, spo, e, rfl, hco, hmo⟩ := owno.block (by omega)
        cases e
        generalize hy : out[out.length - 1]! = y
        have hyr : 0 ≤ y.val ∧ y.val < 18446744073709551616 := by rw [← hy]; exact hfr.get (by omega)
        refine Rg.pure rfl rfl rfl (Pv.move rfl) ?_
        refine Rg.pure rfl rfl rfl (Pv.move rfl) ?_
        refine Rg.pure rfl rfl rfl (Pv.asI (out.length - 1) (Pv.sub rfl rfl (by omega)) (by omega)) ?_
        refine Rg.pure rfl rfl rfl (Pv.ixA (out.length - 1) rfl rfl (by omega) (by omega)) ?_
        refine Rg.pure rfl rfl rfl (Pv.fa rfl) ?_
        refine Rg.read rfl rfl rfl (Ev.ldRf (E := recE) (u := .int .u64 y.key) (out.length - 1) 0 rfl (by rw [show recE.k = 2 from rfl]; omega) (by omega) (by rw [hy]; rfl)) ?_
        refine Rg.pure rfl rfl rfl (Pv.move rfl) ?_
        refine Rg.pure rfl rfl rfl (Pv.move rfl) ?_
        refine Rg.pure rfl rfl rfl (Pv.ixA (k) rfl rfl (by omega) (by omega)) ?_
        refine Rg.pure rfl rfl rfl (Pv.fa rfl) ?_
        refine Rg.read rfl rfl rfl (Ev.ldRf (E := recE) (u := .int .u64 x.key) k 0 rfl (by rw [show recE.k = 2 from rfl]; omega) (by omega) (by rw [hxx]; rfl)) ?_
        refine Rg.pure rfl rfl rfl (Pv.eql rfl rfl) ?_
        refine Rg.pure rfl rfl rfl (Pv.pickT rfl rfl) ?_
        refine Rg.nil ?_
        refine Vc.cond rfl (fun h38 => ?_) (fun h38 => ?_)
        ·
          simp only [beq_iff_eq] at h38
          refine Vc.draw [18] (sd [(0, .pure), (1, .pure), (2, .pure), (3, .pure), (4, .pure), (5, .pure), (6, .pure), (7, .pure), (8, .pure), (9, .read), (10, .pure), (11, .pure), (12, .pure), (13, .pure), (14, .read), (15, .eff), (16, .pure), (17, .pure), (18, .eff)]) mixed (by kernel_rfl) ?_
          refine Rg.pure rfl rfl rfl (Pv.move rfl) ?_
          refine Rg.pure rfl rfl rfl (Pv.move rfl) ?_
          refine Rg.pure rfl rfl rfl (Pv.asI (out.length - 1) (Pv.sub rfl rfl (by omega)) (by omega)) ?_
          refine Rg.pure rfl rfl rfl (Pv.move rfl) ?_
          refine Rg.pure rfl rfl rfl (Pv.move rfl) ?_
          refine Rg.pure rfl rfl rfl (Pv.move rfl) ?_
          refine Rg.pure rfl rfl rfl (Pv.asI (out.length - 1) (Pv.sub rfl rfl (by omega)) (by omega)) ?_
          refine Rg.pure rfl rfl rfl (Pv.ixA (out.length - 1) rfl rfl (by omega) (by omega)) ?_
          refine Rg.pure rfl rfl rfl (Pv.fa rfl) ?_
          refine Rg.read rfl rfl rfl (Ev.ldRf (E := recE) (u := .int .u64 y.val) (out.length - 1) 1 rfl (by rw [show recE.k = 2 from rfl]; omega) (by omega) (by rw [hy]; rfl)) ?_
          refine Rg.pure rfl rfl rfl (Pv.move rfl) ?_
          refine Rg.pure rfl rfl rfl (Pv.move rfl) ?_
          refine Rg.pure rfl rfl rfl (Pv.ixA (k) rfl rfl (by omega) (by omega)) ?_
          refine Rg.pure rfl rfl rfl (Pv.fa rfl) ?_
          refine Rg.read rfl rfl rfl (Ev.ldRf (E := recE) (u := .int .u64 x.val) k 1 rfl (by rw [show recE.k = 2 from rfl]; omega) (by omega) (by rw [hxx]; rfl)) ?_
          refine Rg.callP rfl rfl rfl (run_callF rfl) (rcombine_spec _ _ _ _ hyr hx) ?_
          rintro _ rfl
          refine Rg.pure rfl rfl rfl (Pv.ixA (out.length - 1) rfl rfl (by omega) (by omega)) ?_
          refine Rg.pure rfl rfl rfl (Pv.fa rfl) ?_
          refine Rg.storeRf (E := recE) (z := ⟨x.key, comb how y.val x.val⟩) (out.length - 1) 1 rfl rfl rfl rfl rfl rfl (by rw [hy]; exact last_cells y _ _ h38) (by decide) (by rw [show recE.k = 2 from rfl]; omega) (by omega) rfl ?_
          refine Rg.nil ?_
          refine Vc.blk ?_
          refine Vc.text (List.range 3) (sd [(0, .pure), (1, .pure), (2, .pure)]) rfl ?_
          refine Rg.pure rfl rfl rfl (Pv.move rfl) ?_
          refine Rg.pure rfl rfl rfl (Pv.asI (k + 1) (Pv.add rfl rfl (by omega)) (by omega)) ?_
          refine Rg.pure rfl rfl rfl (Pv.assign rfl) ?_
          refine Rg.nil ?_
          exact Vc.inv3 (k + 1) _ _ ⟨⟨by omega, (show Own recE _ (foldC how (zs.take (k + 1))) _ from by rw [hsn, stepC, if_pos ⟨h12, by omega, by rw [hy]; exact h38⟩, hy]; exact Own.blk' bo co out.length (out.set (out.length - 1) ⟨x.key, comb how y.val x.val⟩) spo (by simp) hco hmo)⟩, by omega⟩ (.cons rfl (.cons rfl (.cons rfl (.cons rfl .nil)))) pulled
        ·
          simp only [beq_eq_false_iff_ne, ne_eq] at h38
          refine Vc.text (List.range 8) (sd [(0, .pure), (1, .pure), (2, .pure), (3, .pure), (4, .read), (5, .eff), (6, .eff), (7, .pure)]) rfl ?_
          refine Rg.pure rfl rfl rfl (Pv.move rfl) ?_
          refine Rg.pure rfl rfl rfl (Pv.move rfl) ?_
          refine Rg.pure rfl rfl rfl (Pv.move rfl) ?_
          refine Rg.pure rfl rfl rfl (Pv.ixA (k) rfl rfl (by omega) (by omega)) ?_
          refine Rg.read rfl rfl rfl (Ev.as (recV x) (Ev.ldR k rfl (Nat.zero_add _) (by omega)) (congrArg recV hxx)) ?_
          refine Rg.bslice1 rfl rfl rfl rfl rfl rfl rfl (fun b62 => ?_)
          refine Rg.append rfl rfl rfl rfl rfl owno (Src.one (y := x) rfl) (by simp <;> omega) (by simp [maxLen] <;> omega) rfl (fun v63 s63 own63 => ?_)
          refine Rg.pure rfl rfl rfl (Pv.assign rfl) ?_
          refine Rg.nil ?_
          refine Vc.blk ?_
          refine Vc.text (List.range 3) (sd [(0, .pure), (1, .pure), (2, .pure)]) rfl ?_
          refine Rg.pure rfl rfl rfl (Pv.move rfl) ?_
          refine Rg.pure rfl rfl rfl (Pv.asI (k + 1) (Pv.add rfl rfl (by omega)) (by omega)) ?_
          refine Rg.pure rfl rfl rfl (Pv.assign rfl) ?_
          refine Rg.nil ?_
          exact Vc.inv3 (k + 1) _ _ ⟨⟨by omega, (show Own recE _ (foldC how (zs.take (k + 1))) _ from by rw [hsn, stepC, if_neg (by rintro ⟨h1, h2, h3⟩; first | omega | (rw [hy] at h3; exact h38 h3))]; exact own63)⟩, by omega⟩ (.cons rfl (.cons rfl (.cons rfl (.cons rfl .nil)))) pulled
      ·
        simp only [decide_eq_false_iff_not] at h25
        iterate 12 (first | refine Rg.skipP rfl rfl rfl ?_ | refine Rg.skipR rfl rfl rfl ?_ | refine Rg.skipE rfl rfl rfl ?_)
        refine Rg.pure rfl rfl rfl (Pv.pickF rfl rfl) ?_
        refine Rg.nil ?_
        refine Vc.condF rfl ?_
        refine Vc.text (List.range 8) (sd [(0, .pure), (1, .pure), (2, .pure), (3, .pure), (4, .read), (5, .eff), (6, .eff), (7, .pure)]) rfl ?_
        refine Rg.pure rfl rfl rfl (Pv.move rfl) ?_
        refine Rg.pure rfl rfl rfl (Pv.move rfl) ?_
        refine Rg.pure rfl rfl rfl (Pv.move rfl) ?_
        refine Rg.pure rfl rfl rfl (Pv.ixA (k) rfl rfl (by omega) (by omega)) ?_
        refine Rg.read rfl rfl rfl (Ev.as (recV x) (Ev.ldR k rfl (Nat.zero_add _) (by omega)) (congrArg recV hxx)) ?_
        refine Rg.bslice1 rfl rfl rfl rfl rfl rfl rfl (fun b62 => ?_)
        refine Rg.append rfl rfl rfl rfl rfl owno (Src.one (y := x) rfl) (by simp <;> omega) (by simp [maxLen] <;> omega) rfl (fun v63 s63 own63 => ?_)
        refine Rg.pure rfl rfl rfl (Pv.assign rfl) ?_
        refine Rg.nil ?_
        refine Vc.blk ?_
        refine Vc.text (List.range 3) (sd [(0, .pure), (1, .pure), (2, .pure)]) rfl ?_
        refine Rg.pure rfl rfl rfl (Pv.move rfl) ?_
        refine Rg.pure rfl rfl rfl (Pv.asI (k + 1) (Pv.add rfl rfl (by omega)) (by omega)) ?_
        refine Rg.pure rfl rfl rfl (Pv.assign rfl) ?_
        refine Rg.nil ?_
        exact Vc.inv3 (k + 1) _ _ ⟨⟨by omega, (show Own recE _ (foldC how (zs.take (k + 1))) _ from by rw [hsn, stepC, if_neg (by rintro ⟨h1, h2, h3⟩; first | omega | (rw [hy] at h3; exact h38 h3))]; exact own63)⟩, by omega⟩ (.cons rfl (.cons rfl (.cons rfl (.cons rfl .nil)))) pulled
    ·
      simp only [decide_eq_false_iff_not] at h18
      have hke : zs.take k = zs := List.take_of_length_le (by omega)
      refine Vc.exit rfl ?_
      refine Vc.seq ?_
      refine Vc.text (List.range 2) (sd [(0, .pure), (1, .pure)]) rfl ?_
      refine Rg.pure rfl rfl rfl (Pv.move rfl) ?_
      refine Rg.pure rfl rfl rfl (Pv.assign rfl) ?_
      refine Rg.nil ?_
      exact Vc.ret (Vc.retsH rfl (.cons (.tmp rfl) (.nil)) ((show Own recE _ (foldC how zs) _ from by rw [hke] at owno ⊢; exact owno)) pulled)

theorem few_spec {F : Fm} {va : Value} {xs : List Rc} (ha : Arg recE F va xs) :
    Spec Try.prog 12 #[va] F [] fun v s => Own recE v (xs.take 100) s := by
  obtain ⟨p, c, rfl⟩ := ha.shape
  have hcap := ha.cap.2
  have ht := ha.take (k := min xs.length 100) (Nat.min_le_left _ _)
  rw [show xs.take (min xs.length 100) = xs.take 100 by rw [List.take_eq_take_iff]; omega] at ht
  have hl : (xs.take 100).length ≤ 100 := by simp; omega
  refine Spec.of (n := 10) (vs := [.slice p xs.length c]) Try.func12 rfl Try.ntmps12 rfl ?_
  refine Vc.seq ?_
  refine Vc.text (List.range 1) (sd [(0, .pure)]) rfl ?_
  refine Rg.pure rfl rfl rfl (Pv.assign rfl) ?_
  refine Rg.nil ?_
  refine Vc.seq ?_
  refine Vc.text (List.range 8) (sd [(0, .eff), (1, .pure), (2, .pure), (3, .pure), (4, .pure), (5, .pure), (6, .eff), (7, .pure)]) rfl ?_
  refine Rg.bslice0 (E := recE) rfl rfl rfl (fun b3 own3 => ?_)
  refine Rg.pure rfl rfl rfl (Pv.move rfl) ?_
  refine Rg.pure rfl rfl rfl (Pv.move rfl) ?_
  refine Rg.pure rfl rfl rfl (Pv.lenS rfl) ?_
  refine Rg.pure rfl rfl rfl (Pv.asI (min xs.length 100) (Pv.min rfl rfl) (by omega)) ?_
  refine Rg.pure rfl rfl rfl (Pv.slTo (min xs.length 100) rfl rfl (by omega)) ?_
  refine Rg.append rfl rfl rfl rfl rfl own3 ht.src (by simp <;> omega) (by simp [maxLen] <;> omega) rfl (fun v9 s9 own9 => ?_)
  refine Rg.pure rfl rfl rfl (Pv.assign rfl) ?_
  refine Rg.nil ?_
  exact Vc.ret (Vc.retsH rfl (.cons (.tmp rfl) (.nil)) (own9) pulled)
end Go.Proofs.Ytkkbeljmloikkaa
