/- The document's disk: Crash. -/
import Derived.Test.YtmocncadncgaaaaRfB
namespace Go.Proofs.Ytmocncadncgaaaa
set_option linter.unusedVariables false

theorem inOrder_eq {D : List (List UInt8 × Fl)} {fs : List Fv} (hn : (D.map (·.1)).Nodup) (hp : D.Perm (fs.map (·.vw))) (hs : Srt fs) : inOrder D = fs.map (·.vw) := by
  have h1 : (D.map (·.1)).Perm (fs.map (·.nm)) := by
    have := hp.map (·.1)
    rwa [List.map_map] at this
  have h2 : Go.Proofs.Ytmocncadncgaaaa.sortN (D.map (·.1)) = fs.map (·.nm) := by
    rw [sortN_perm h1]
    exact List.mergeSort_of_pairwise (hs.imp fun h => decide_eq_true (List.le_of_lt h))
  unfold inOrder
  rw [h2, List.map_map]
  exact List.map_congr_left fun f hf => by
    simp only [Function.comp]
    rw [findF_mem hn (f := ⟨f.now, f.syn⟩) (hp.mem_iff.2 (List.mem_map.2 ⟨f, hf, rfl⟩))]
    rfl
theorem crL_snoc (x : List UInt8 × Fl) : ∀ (a : List (List UInt8 × Fl)) (ks : List Bool), crL (a ++ [x]) ks = ((crL a ks).1 ++ [(x.1, ⟨(tornG x.2.now x.2.synced (crL a ks).2 (secs x.2.now.length)).1, (tornG x.2.now x.2.synced (crL a ks).2 (secs x.2.now.length)).1⟩)], (tornG x.2.now x.2.synced (crL a ks).2 (secs x.2.now.length)).2)
  | [], ks => by obtain ⟨k, f⟩ := x; rfl
  | (k, f) :: r, ks => by
    rw [List.cons_append]
    simp only [crL]
    rw [crL_snoc x r]
    rfl
theorem tornStep_drop {now syn o : List UInt8} {ks : List Bool} {κ j : Nat} (hs : sameSec now syn j = false) : tornStep now syn (o, ks.drop κ) j = (if (if κ < ks.length then ks[κ]! else false) = true then putAt (padTo o (secTo now j)) (16 * j) (piece now (16 * j) (secTo now j)) else o, ks.drop (κ + 1)) := by
  rw [tornStep, if_neg (by rw [hs]; decide)]
  show (if hdB (ks.drop κ) = true then _ else _) = _
  rw [show hdB (ks.drop κ) = (if κ < ks.length then ks[κ]! else false) from headD_drop, List.drop_drop]
  generalize (if κ < ks.length then ks[κ]! else false) = bb
  cases bb <;> rfl
theorem getMid {α : Type} [Inhabited α] {dn fs : List α} {i : Nat} (h : dn.length = i) (hi : i < fs.length) : (dn ++ fs.drop i)[i]! = fs[i]! := by
  rw [getElem!_pos (dn ++ fs.drop i) i (by simp; omega), getElem!_pos fs i hi, List.getElem_append_right (by omega), List.getElem_drop]
  congr 1
  omega
theorem setMid {α : Type} [Inhabited α] {dn fs : List α} {i : Nat} (y : α) (h : dn.length = i) (hi : i < fs.length) : (dn ++ fs.drop i).set i y = (dn ++ [y]) ++ fs.drop (i + 1) := by
  rw [List.set_append_right _ _ (by omega), h, Nat.sub_self, List.drop_eq_getElem_cons hi, List.set_cons_zero, List.append_assoc]
  rfl
set_option maxHeartbeats 8000000 in
theorem rcrash_spec {F : Fm} {rb n B : Nat} {D : Dk} {vK : Value} {s : Hl} (h : Rf0 rb D vK s) (hw : Dw n B D) (hn : n ≤ 1000) (hB : B ≤ 1000000) {kv : Value} {ks : List Bool} (hk : Arg boolE F kv ks) :
    Spec Try.prog 42 #[.pointer (some ⟨rb, 0, none⟩), kv] F s fun _ s' => Rf0 rb (crashD ks D) vK s' := by
  obtain ⟨fs, vL, sL, bg, hsrt, hpm, own, hbg, hp⟩ := h
  refine Spec.perm ?_ hp
  obtain ⟨pk, ck, rfl⟩ := hk.shape
  obtain ⟨pL, cL, rfl⟩ := own.shape
  have hfl : fs.length ≤ 1000 := by have := hpm.length_eq; rw [List.length_map] at this; have := hw.sz hn; omega
  have hfew : ∀ f ∈ fs, f.now.length ≤ 1000000 ∧ f.syn.length ≤ 1000000 := fun f hf => hw.fewB hB f.vw (hpm.mem_iff.2 (List.mem_map.2 ⟨f, hf, rfl⟩))
  have hio := inOrder_eq hw.nodup hpm hsrt
  refine Spec.of (n := 125) (vs := [.pointer (some ⟨rb, 0, none⟩), .slice pk ks.length ck]) Try.func42 rfl Try.ntmps42 rfl ?_
  refine Vc.seq ?_
  refine Vc.seq ?_
  refine Vc.text (List.range 4) (sd [(0, .pure), (1, .pure), (2, .pure), (3, .read)]) rfl ?_
  refine Rg.pure rfl rfl rfl (Pv.move rfl) ?_
  refine Rg.pure rfl rfl rfl (Pv.nilp rfl) ?_
  refine Rg.pure rfl rfl rfl (Pv.fa rfl) ?_
  refine Rg.read rfl rfl rfl (Ev.ld rfl rfl) ?_
  refine Rg.nil ?_
  refine Vc.cond rfl (fun h14 => ?_) (fun h14 => ?_)
  ·
    have hcr : crashD ks D = D := by rw [crashD, if_pos h14]
    exact Vc.ret (Vc.retsH rfl (.nil) ((show Rf0 rb (crashD ks D) vK ((rb, rfO D.room (.slice pL fs.length cL) D.ops D.armed vK D.down) :: (sL ++ bg)) from by rw [hcr]; exact ⟨fs, _, sL, bg, hsrt, hpm, own, hbg, .refl _⟩)) pulled)
  ·
    have hcr : crashD ks D = { D with files := (crFold D.files ks (Go.Proofs.Ytmocncadncgaaaa.sortN (D.files.map (·.1)))).files, used := (crFold D.files ks (Go.Proofs.Ytmocncadncgaaaa.sortN (D.files.map (·.1)))).used, armed := 0, down := true } := by rw [crashD, if_neg (by simpa using h14)]
    refine Vc.skip ?_
    refine Vc.seq ?_
    refine Vc.text (List.range 4) (sd [(0, .pure), (1, .pure), (2, .pure), (3, .eff)]) rfl ?_
    refine Rg.pure rfl rfl rfl (Pv.move rfl) ?_
    refine Rg.pure rfl rfl rfl (Pv.nilp rfl) ?_
    refine Rg.pure rfl rfl rfl (Pv.fa rfl) ?_
    refine Rg.store rfl rfl rfl rfl rfl rfl rfl rfl ?_
    refine Rg.nil ?_
    refine Vc.seq ?_
    refine Vc.text (List.range 4) (sd [(0, .pure), (1, .pure), (2, .pure), (3, .eff)]) rfl ?_
    refine Rg.pure rfl rfl rfl (Pv.move rfl) ?_
    refine Rg.pure rfl rfl rfl (Pv.nilp rfl) ?_
    refine Rg.pure rfl rfl rfl (Pv.fa rfl) ?_
    refine Rg.store rfl rfl rfl rfl rfl rfl rfl rfl ?_
    refine Rg.nil ?_
    refine Vc.seq ?_
    refine Vc.text (List.range 1) (sd [(0, .pure)]) rfl ?_
    refine Rg.pure rfl rfl rfl (Pv.assign rfl) ?_
    refine Rg.nil ?_
    refine Vc.seq ?_
    refine Vc.text (List.range 1) (sd [(0, .pure)]) rfl ?_
    refine Rg.pure rfl rfl rfl (Pv.assign rfl) ?_
    refine Rg.nil ?_
    refine Vc.block ?_
    refine Vc.loop5 (fun (i κ : Nat) (dn : List Fv) (sR bq : Hl) => i ≤ fs.length ∧ dn.length = i ∧ dn.map (·.nm) = (fs.take i).map (·.nm) ∧ crL ((fs.take i).map (·.vw)) ks = (dn.map (·.vw), ks.drop κ) ∧ κ ≤ i * 62501 ∧ Own fileE (.slice pL fs.length cL) (dn ++ fs.drop i) sR ∧ (∀ f ∈ dn ++ fs.drop i, ArgIn bq f.vn f.now ∧ ArgIn bq f.vs f.syn)) (fun i κ dn sR bq => [(0, .pointer (some ⟨rb, 0, none⟩)), (1, .slice pk ks.length ck), (4, .int .i64 (κ : Int)), (5, .int .i64 (i : Int))]) (fun i κ dn sR bq => (rb, rfO D.room (.slice pL fs.length cL) D.ops 0 vK true) :: (sR ++ bq)) (fun i κ dn sR bq => fs.length - i) 0 0 [] sL bg ⟨Nat.zero_le _, rfl, rfl, rfl, Nat.zero_le _, own, hbg⟩ (.cons rfl (.cons rfl (.cons rfl (.cons rfl .nil)))) pulled ?_
    rintro i κ dn sR bq ⟨hi, hdl, hdn, hcl, hκ, oL, hbq⟩
    refine Vc.seq ?_
    refine Vc.seq ?_
    refine Vc.text (List.range 7) (sd [(0, .pure), (1, .pure), (2, .pure), (3, .pure), (4, .read), (5, .pure), (6, .pure)]) rfl ?_
    refine Rg.pure rfl rfl rfl (Pv.move rfl) ?_
    refine Rg.pure rfl rfl rfl (Pv.move rfl) ?_
    refine Rg.pure rfl rfl rfl (Pv.nilp rfl) ?_
    refine Rg.pure rfl rfl rfl (Pv.fa rfl) ?_
    refine Rg.read rfl rfl rfl (Ev.ld rfl rfl) ?_
    refine Rg.pure rfl rfl rfl (Pv.lenS rfl) ?_
    refine Rg.pure rfl rfl rfl (Pv.lss rfl rfl) ?_
    refine Rg.nil ?_
    refine Vc.cond rfl (fun h27 => ?_) (fun h27 => ?_)
    ·
      simp only [decide_eq_true_eq] at h27
      have hi1 : i < fs.length := by omega
      obtain ⟨⟨nm, now, syn, pn, cn, qn, en⟩, hx⟩ : ∃ x, fs[i]! = x := ⟨_, rfl⟩
      have hxm : (⟨nm, now, syn, pn, cn, qn, en⟩ : Fv) ∈ fs := by rw [← hx, getElem!_pos fs i hi1]; exact List.getElem_mem _
      have hlL : (dn ++ fs.drop i).length = fs.length := by simp; omega
      have hgx : (dn ++ fs.drop i)[i]! = (⟨nm, now, syn, pn, cn, qn, en⟩ : Fv) := by rw [getMid hdl hi1, hx]
      have hxq := hbq (⟨nm, now, syn, pn, cn, qn, en⟩ : Fv) (by rw [← hgx, getElem!_pos _ i (by omega)]; exact List.getElem_mem _)
      obtain ⟨hxn, hxs⟩ := hfew _ hxm
      simp only at hxn hxs hxq
      have htk : fs.take (i + 1) = fs.take i ++ [(⟨nm, now, syn, pn, cn, qn, en⟩ : Fv)] := by rw [List.take_succ_eq_append_getElem hi1, ← getElem!_pos fs i hi1, hx]
      have hsn := crL_snoc (nm, (⟨now, syn⟩ : Fl)) ((fs.take i).map (·.vw)) ks
      rw [hcl] at hsn
      simp only at hsn
      obtain ⟨bL, cL', spL, e, rfl, hcap, hcm⟩ := oL.block (by omega)
      simp only [Value.slice.injEq] at e
      obtain ⟨rfl, _, rfl⟩ := e
      have hcn : now.length ≤ cn := (hxq.1 (frz F bq) (fun b o h => Or.inl h)).cap.2
      have hcs : syn.length ≤ en := (hxq.2 (frz F bq) (fun b o h => Or.inl h)).cap.2
      refine Vc.skip ?_
      refine Vc.seq ?_
      refine Vc.block ?_
      refine Vc.seq ?_
      refine Vc.text (List.range 9) (sd [(0, .pure), (1, .pure), (2, .pure), (3, .read), (4, .pure), (5, .pure), (6, .read), (7, .eff), (8, .eff)]) rfl ?_
      refine Rg.pure rfl rfl rfl (Pv.move rfl) ?_
      refine Rg.pure rfl rfl rfl (Pv.nilp rfl) ?_
      refine Rg.pure rfl rfl rfl (Pv.fa rfl) ?_
      refine Rg.read rfl rfl rfl (Ev.ld rfl rfl) ?_
      refine Rg.pure rfl rfl rfl (Pv.move rfl) ?_
      refine Rg.pure rfl rfl rfl (Pv.ixA (i) rfl rfl (by omega) (by omega)) ?_
      refine Rg.read rfl rfl rfl (Ev.as (fvV (⟨nm, now, syn, pn, cn, qn, en⟩ : Fv)) (Ev.ldR (E := fileE) i rfl (Nat.zero_add _) (by omega)) (congrArg fvV hgx)) ?_
      refine Rg.alloc rfl rfl rfl rfl (fun b6 => ?_)
      refine Rg.storeA rfl rfl rfl rfl rfl rfl rfl rfl ?_
      refine Rg.nil ?_
      refine Vc.seq ?_
      refine Vc.text (List.range 5) (sd [(0, .eff), (1, .pure), (2, .read), (3, .eff), (4, .pure)]) rfl ?_
      refine Rg.bslice0 (E := byteE) rfl rfl rfl (fun b37 own37 => ?_)
      refine Rg.pure rfl rfl rfl (Pv.fa rfl) ?_
      refine Rg.read rfl rfl rfl (Ev.ld rfl rfl) ?_
      refine Rg.append rfl rfl rfl rfl rfl own37 (Arg.srcF (s := bq) (hxq.2 _ (fun b o h => Or.inl h))) (by simp <;> omega) (by simp [maxLen] <;> omega) rfl (fun v40 s40 own40 => ?_)
      refine Rg.pure rfl rfl rfl (Pv.assign rfl) ?_
      refine Rg.nil ?_
      refine Vc.seq ?_
      refine Vc.seq ?_
      refine Vc.text (List.range 1) (sd [(0, .pure)]) rfl ?_
      refine Rg.pure rfl rfl rfl (Pv.assign rfl) ?_
      refine Rg.nil ?_
      refine Vc.block ?_
      refine Vc.loop5 (fun (j κ' : Nat) (o : List UInt8) (v : Value) (sg : Hl) => (j = 0 ∨ 16 * (j - 1) < now.length) ∧ tornG now syn (ks.drop κ) j = (o, ks.drop κ') ∧ κ' ≤ κ + j ∧ Own byteE v o sg ∧ o.length ≤ 1000000) (fun j κ' o v sg => [(0, .pointer (some ⟨rb, 0, none⟩)), (1, .slice pk ks.length ck), (5, .int .i64 (i : Int)), (6, .pointer (some ⟨b6, 0, none⟩)), (4, .int .i64 (κ' : Int)), (7, v), (8, .int .i64 ((16 * j : Nat) : Int))]) (fun j κ' o v sg => sg ++ ((b6, cellsO [kS nm, .slice pn now.length cn, .slice qn syn.length en] 99) :: (rb, rfO D.room (.slice (some ⟨bL, 0, none⟩) fs.length cL) D.ops 0 vK true) :: (bL, rowS fileE (dn ++ fs.drop i) spL) :: bq)) (fun j κ' o v sg => now.length + 16 - 16 * j) 0 κ syn v40 s40 ⟨.inl rfl, rfl, by omega, own40, hxs⟩ (.cons rfl (.cons rfl (.cons rfl (.cons rfl (.cons rfl (.cons rfl (.cons rfl .nil))))))) pulled ?_
      rintro j κ' o v sg ⟨hj0, hto, hκ', oo, hol⟩
      obtain ⟨pv, cv, rfl⟩ := oo.shape
      refine Vc.seq ?_
      refine Vc.seq ?_
      refine Vc.text (List.range 5) (sd [(0, .pure), (1, .pure), (2, .read), (3, .pure), (4, .pure)]) rfl ?_
      refine Rg.pure rfl rfl rfl (Pv.move rfl) ?_
      refine Rg.pure rfl rfl rfl (Pv.fa rfl) ?_
      refine Rg.read rfl rfl rfl (Ev.ld rfl rfl) ?_
      refine Rg.pure rfl rfl rfl (Pv.lenS rfl) ?_
      refine Rg.pure rfl rfl rfl (Pv.lss rfl rfl) ?_
      refine Rg.nil ?_
      refine Vc.cond rfl (fun h45 => ?_) (fun h45 => ?_)
      ·
        simp only [decide_eq_true_eq] at h45
        have hj : 16 * j < now.length := by omega
        have hse : secTo now j ≤ now.length ∧ 16 * j ≤ secTo now j := by unfold secTo; omega
        have hsuc := tornG_succ now syn (ks.drop κ) j
        rw [hto] at hsuc
        refine Vc.skip ?_
        refine Vc.seq ?_
        refine Vc.block ?_
        refine Vc.seq ?_
        refine Vc.text (List.range 7) (sd [(0, .pure), (1, .pure), (2, .pure), (3, .read), (4, .pure), (5, .pure), (6, .pure)]) rfl ?_
        refine Rg.pure rfl rfl rfl (Pv.move rfl) ?_
        refine Rg.pure rfl rfl rfl (Pv.asI (16 * j + 16) (Pv.add rfl rfl (by omega)) (by omega)) ?_
        refine Rg.pure rfl rfl rfl (Pv.fa rfl) ?_
        refine Rg.read rfl rfl rfl (Ev.ld rfl rfl) ?_
        refine Rg.pure rfl rfl rfl (Pv.lenS rfl) ?_
        refine Rg.pure rfl rfl rfl (Pv.asI (secTo now j) (Pv.min rfl rfl) (by unfold secTo; omega)) ?_
        refine Rg.pure rfl rfl rfl (Pv.assign rfl) ?_
        refine Rg.nil ?_
        refine Vc.seq ?_
        refine Vc.seq ?_
        refine Vc.cut1 (fun (sb : Bool) => sb = sameSec now syn j) (fun sb => [(73, .bool sb), (0, .pointer (some ⟨rb, 0, none⟩)), (1, .slice pk ks.length ck), (5, .int .i64 (i : Int)), (6, .pointer (some ⟨b6, 0, none⟩)), (4, .int .i64 (κ' : Int)), (7, .slice pv o.length cv), (8, .int .i64 ((16 * j : Nat) : Int)), (9, .int .i64 ((secTo now j : Nat) : Int))]) (fun sb => sg ++ ((b6, cellsO [kS nm, .slice pn now.length cn, .slice qn syn.length en] 99) :: (rb, rfO D.room (.slice (some ⟨bL, 0, none⟩) fs.length cL) D.ops 0 vK true) :: (bL, rowS fileE (dn ++ fs.drop i) spL) :: bq)) ?_ ?_
        ·
          refine Vc.draw [] (sd [(0, .pure), (1, .pure), (2, .read), (3, .pure), (4, .pure), (5, .pure), (6, .pure), (7, .read), (8, .pure), (9, .pure), (10, .pure), (11, .read), (12, .pure), (13, .read), (14, .pure), (15, .pure), (16, .pure), (17, .read), (18, .pure), (19, .pure)]) mixed (by kernel_rfl) ?_
          refine Rg.pure rfl rfl rfl (Pv.move rfl) ?_
          refine Rg.pure rfl rfl rfl (Pv.fa rfl) ?_
          refine Rg.read rfl rfl rfl (Ev.ld rfl rfl) ?_
          refine Rg.pure rfl rfl rfl (Pv.lenS rfl) ?_
          refine Rg.pure rfl rfl rfl (Pv.leq rfl rfl) ?_
          refine Rg.pure rfl rfl rfl (Pv.move rfl) ?_
          refine Rg.split (t := 59) rfl (fun h59 => ?_) (fun h59 => ?_)
          ·
            simp only [decide_eq_true_eq] at h59
            refine Rg.pure rfl rfl rfl (Pv.fa rfl) ?_
            refine Rg.read rfl rfl rfl (Ev.ld rfl rfl) ?_
            refine Rg.pure rfl rfl rfl (Pv.move rfl) ?_
            refine Rg.pure rfl rfl rfl (Pv.move rfl) ?_
            refine Rg.pure rfl rfl rfl (Pv.sl (lv := some (.int .i64 ((16 * j : Nat) : Int))) (hv := some (.int .i64 ((secTo now j : Nat) : Int))) (16 * j) (secTo now j) rfl rfl rfl (by omega) (by omega) (by simp)) ?_
            refine Rg.read rfl rfl rfl (Ev.str (Arg.srcF (s := bq) (((hxq.1 _ (fun b o h => Or.inl h)).from (i := 16 * j) (by omega)).take (k := secTo now j - 16 * j) (by rw [List.length_drop]; omega))) rfl) ?_
            refine Rg.pure rfl rfl rfl (Pv.fa rfl) ?_
            refine Rg.read rfl rfl rfl (Ev.ld rfl rfl) ?_
            refine Rg.pure rfl rfl rfl (Pv.move rfl) ?_
            refine Rg.pure rfl rfl rfl (Pv.move rfl) ?_
            refine Rg.pure rfl rfl rfl (Pv.sl (lv := some (.int .i64 ((16 * j : Nat) : Int))) (hv := some (.int .i64 ((secTo now j : Nat) : Int))) (16 * j) (secTo now j) rfl rfl rfl (by omega) (by omega) (by simp)) ?_
            refine Rg.read rfl rfl rfl (Ev.str (Arg.srcF (s := bq) (((hxq.2 _ (fun b o h => Or.inl h)).from (i := 16 * j) (by omega)).take (k := secTo now j - 16 * j) (by rw [List.length_drop]; omega))) rfl) ?_
            refine Rg.pure rfl rfl rfl (Pv.eqlS rfl rfl) ?_
            refine Rg.pure rfl rfl rfl (Pv.pickT rfl rfl) ?_
            refine Rg.nil ?_
            exact Vc.inv1 _ (by rw [bytes_dec, sameSec, decide_eq_true (show secTo now j ≤ syn.length by omega), Bool.true_and]; rfl) (.cons rfl (.cons rfl (.cons rfl (.cons rfl (.cons rfl (.cons rfl (.cons rfl (.cons rfl (.cons rfl .nil))))))))) pulled
          ·
            simp only [decide_eq_false_iff_not] at h59
            iterate 13 (first | refine Rg.skipP rfl rfl rfl ?_ | refine Rg.skipR rfl rfl rfl ?_ | refine Rg.skipE rfl rfl rfl ?_)
            refine Rg.pure rfl rfl rfl (Pv.pickF rfl rfl) ?_
            refine Rg.nil ?_
            exact Vc.inv1 _ (by rw [sameSec, decide_eq_false (show ¬ secTo now j ≤ syn.length by omega)]; rfl) (.cons rfl (.cons rfl (.cons rfl (.cons rfl (.cons rfl (.cons rfl (.cons rfl (.cons rfl (.cons rfl .nil))))))))) pulled
        ·
          rintro sb hsb
          refine Vc.cond rfl (fun h73 => ?_) (fun h73 => ?_)
          ·
            rw [hsb] at h73
            rw [tornStep, if_pos h73] at hsuc
            refine Vc.exit rfl ?_
            refine Vc.text (List.range 3) (sd [(0, .pure), (1, .pure), (2, .pure)]) rfl ?_
            refine Rg.pure rfl rfl rfl (Pv.move rfl) ?_
            refine Rg.pure rfl rfl rfl (Pv.add rfl rfl (by omega)) ?_
            refine Rg.pure rfl rfl rfl (Pv.assign rfl) ?_
            refine Rg.nil ?_
            exact Vc.inv5 (j + 1) κ' o (.slice pv o.length cv) sg ⟨⟨.inr (by simp; omega), hsuc, by omega, oo, hol⟩, by omega⟩ (.cons rfl (.cons rfl (.cons rfl (.cons rfl (.cons rfl (.cons rfl (.cons rfl .nil))))))) pulled
          ·
            rw [hsb] at h73
            rw [tornStep_drop h73] at hsuc
            have hpl : (piece now (16 * j) (secTo now j)).length = secTo now j - 16 * j := by simp [piece]; omega
            have hpo : (padTo o (secTo now j)).length = max o.length (secTo now j) := by simp [padTo]; omega
            refine Vc.skip ?_
            refine Vc.seq ?_
            refine Vc.seq ?_
            refine Vc.cut1 (fun (kb : Bool) => kb = (if κ' < ks.length then ks[κ']! else false)) (fun kb => [(83, .bool kb), (0, .pointer (some ⟨rb, 0, none⟩)), (1, .slice pk ks.length ck), (5, .int .i64 (i : Int)), (6, .pointer (some ⟨b6, 0, none⟩)), (4, .int .i64 (κ' : Int)), (7, .slice pv o.length cv), (8, .int .i64 ((16 * j : Nat) : Int)), (9, .int .i64 ((secTo now j : Nat) : Int))]) (fun kb => sg ++ ((b6, cellsO [kS nm, .slice pn now.length cn, .slice qn syn.length en] 99) :: (rb, rfO D.room (.slice (some ⟨bL, 0, none⟩) fs.length cL) D.ops 0 vK true) :: (bL, rowS fileE (dn ++ fs.drop i) spL) :: bq)) ?_ ?_
            ·
              refine Vc.text (List.range 10) (sd [(0, .pure), (1, .pure), (2, .pure), (3, .pure), (4, .pure), (5, .pure), (6, .pure), (7, .pure), (8, .read), (9, .pure)]) rfl ?_
              refine Rg.pure rfl rfl rfl (Pv.move rfl) ?_
              refine Rg.pure rfl rfl rfl (Pv.move rfl) ?_
              refine Rg.pure rfl rfl rfl (Pv.lenS rfl) ?_
              refine Rg.pure rfl rfl rfl (Pv.lss rfl rfl) ?_
              refine Rg.pure rfl rfl rfl (Pv.move rfl) ?_
              refine Rg.split (t := 78) rfl (fun h78 => ?_) (fun h78 => ?_)
              ·
                simp only [decide_eq_true_eq] at h78
                obtain ⟨b1, off1, c1', e, _⟩ := hk.block (by omega)
                cases e
                refine Rg.pure rfl rfl rfl (Pv.move rfl) ?_
                refine Rg.pure rfl rfl rfl (Pv.move rfl) ?_
                refine Rg.pure rfl rfl rfl (Pv.ixA (κ') rfl rfl (by omega) (by omega)) ?_
                refine Rg.read rfl rfl rfl (Ev.ldS (κ') (hk.src) rfl rfl rfl (by omega)) ?_
                refine Rg.pure rfl rfl rfl (Pv.pickT rfl rfl) ?_
                refine Rg.nil ?_
                exact Vc.inv1 _ (by rw [if_pos (show κ' < ks.length by omega)]) (.cons rfl (.cons rfl (.cons rfl (.cons rfl (.cons rfl (.cons rfl (.cons rfl (.cons rfl (.cons rfl .nil))))))))) pulled
              ·
                simp only [decide_eq_false_iff_not] at h78
                iterate 4 (first | refine Rg.skipP rfl rfl rfl ?_ | refine Rg.skipR rfl rfl rfl ?_ | refine Rg.skipE rfl rfl rfl ?_)
                refine Rg.pure rfl rfl rfl (Pv.pickF rfl rfl) ?_
                refine Rg.nil ?_
                exact Vc.inv1 _ (by rw [if_neg (show ¬ κ' < ks.length by omega)]) (.cons rfl (.cons rfl (.cons rfl (.cons rfl (.cons rfl (.cons rfl (.cons rfl (.cons rfl (.cons rfl .nil))))))))) pulled
            ·
              rintro kb hkb
              rw [← hkb] at hsuc
              refine Vc.cut3 (fun (o2 : List UInt8) (v2 : Value) (sg2 : Hl) => o2 = (if kb = true then putAt (padTo o (secTo now j)) (16 * j) (piece now (16 * j) (secTo now j)) else o) ∧ Own byteE v2 o2 sg2) (fun o2 v2 sg2 => [(0, .pointer (some ⟨rb, 0, none⟩)), (1, .slice pk ks.length ck), (5, .int .i64 (i : Int)), (6, .pointer (some ⟨b6, 0, none⟩)), (4, .int .i64 (κ' : Int)), (7, v2), (8, .int .i64 ((16 * j : Nat) : Int))]) (fun o2 v2 sg2 => sg2 ++ ((b6, cellsO [kS nm, .slice pn now.length cn, .slice qn syn.length en] 99) :: (rb, rfO D.room (.slice (some ⟨bL, 0, none⟩) fs.length cL) D.ops 0 vK true) :: (bL, rowS fileE (dn ++ fs.drop i) spL) :: bq)) ?_ ?_
              ·
                refine Vc.cond rfl (fun h83 => ?_) (fun h83 => ?_)
                ·
                  refine Vc.seq ?_
                  refine Vc.block ?_
                  refine Vc.loop3 (fun (m : Nat) (v3 : Value) (sg3 : Hl) => m ≤ secTo now j - o.length ∧ Own byteE v3 (o ++ List.replicate m 0) sg3) (fun m v3 sg3 => [(0, .pointer (some ⟨rb, 0, none⟩)), (1, .slice pk ks.length ck), (5, .int .i64 (i : Int)), (6, .pointer (some ⟨b6, 0, none⟩)), (4, .int .i64 (κ' : Int)), (7, v3), (8, .int .i64 ((16 * j : Nat) : Int)), (9, .int .i64 ((secTo now j : Nat) : Int))]) (fun m v3 sg3 => sg3 ++ ((b6, cellsO [kS nm, .slice pn now.length cn, .slice qn syn.length en] 99) :: (rb, rfO D.room (.slice (some ⟨bL, 0, none⟩) fs.length cL) D.ops 0 vK true) :: (bL, rowS fileE (dn ++ fs.drop i) spL) :: bq)) (fun m v3 sg3 => secTo now j - o.length - m) 0 _ sg ⟨Nat.zero_le _, by simpa using oo⟩ (.cons rfl (.cons rfl (.cons rfl (.cons rfl (.cons rfl (.cons rfl (.cons rfl (.cons rfl .nil)))))))) pulled ?_
                  rintro m v3 sg3 ⟨hm, o3⟩
                  have hl3 : (o ++ List.replicate m (0 : UInt8)).length = o.length + m := by simp
                  obtain ⟨p3, c3, rfl⟩ := o3.shape
                  refine Vc.seq ?_
                  refine Vc.seq ?_
                  refine Vc.text (List.range 4) (sd [(0, .pure), (1, .pure), (2, .pure), (3, .pure)]) rfl ?_
                  refine Rg.pure rfl rfl rfl (Pv.move rfl) ?_
                  refine Rg.pure rfl rfl rfl (Pv.lenS rfl) ?_
                  refine Rg.pure rfl rfl rfl (Pv.move rfl) ?_
                  refine Rg.pure rfl rfl rfl (Pv.lss rfl rfl) ?_
                  refine Rg.nil ?_
                  refine Vc.cond rfl (fun h87 => ?_) (fun h87 => ?_)
                  ·
                    simp only [decide_eq_true_eq] at h87
                    refine Vc.skip ?_
                    refine Vc.block ?_
                    refine Vc.text (List.range 4) (sd [(0, .pure), (1, .eff), (2, .eff), (3, .pure)]) rfl ?_
                    refine Rg.pure rfl rfl rfl (Pv.move rfl) ?_
                    refine Rg.bslice1 rfl rfl rfl rfl rfl rfl rfl (fun b89 => ?_)
                    refine Rg.append rfl rfl rfl rfl rfl o3 (Src.one (y := (0 : UInt8)) rfl) (by simp <;> omega) (by simp [maxLen] <;> omega) rfl (fun v90 s90 own90 => ?_)
                    rw [pad_snoc] at own90
                    refine Rg.pure rfl rfl rfl (Pv.assign rfl) ?_
                    refine Rg.nil ?_
                    refine Vc.blk ?_
                    exact Vc.inv3 (m + 1) v90 s90 ⟨⟨by omega, own90⟩, by omega⟩ (.cons rfl (.cons rfl (.cons rfl (.cons rfl (.cons rfl (.cons rfl (.cons rfl (.cons rfl .nil)))))))) pulled
                  ·
                    simp only [decide_eq_false_iff_not] at h87
                    have hpd : o ++ List.replicate m (0 : UInt8) = padTo o (secTo now j) := by rw [padTo, show m = secTo now j - o.length by omega]
                    rw [hpd] at o3 hl3 ⊢
                    refine Vc.exit rfl ?_
                    refine Vc.seq ?_
                    refine Vc.text (List.range 2) (sd [(0, .pure), (1, .pure)]) rfl ?_
                    refine Rg.pure rfl rfl rfl (Pv.move rfl) ?_
                    refine Rg.pure rfl rfl rfl (Pv.assign rfl) ?_
                    refine Rg.nil ?_
                    refine Vc.block ?_
                    refine Vc.loop2 (fun (m : Nat) (sg4 : Hl) => m ≤ secTo now j - 16 * j ∧ Own byteE (.slice p3 (padTo o (secTo now j)).length c3) (putAt (padTo o (secTo now j)) (16 * j) ((piece now (16 * j) (secTo now j)).take m)) sg4) (fun m sg4 => [(0, .pointer (some ⟨rb, 0, none⟩)), (1, .slice pk ks.length ck), (5, .int .i64 (i : Int)), (6, .pointer (some ⟨b6, 0, none⟩)), (4, .int .i64 (κ' : Int)), (7, .slice p3 (padTo o (secTo now j)).length c3), (8, .int .i64 ((16 * j : Nat) : Int)), (9, .int .i64 ((secTo now j : Nat) : Int)), (10, .int .i64 ((16 * j + m : Nat) : Int))]) (fun m sg4 => sg4 ++ ((b6, cellsO [kS nm, .slice pn now.length cn, .slice qn syn.length en] 99) :: (rb, rfO D.room (.slice (some ⟨bL, 0, none⟩) fs.length cL) D.ops 0 vK true) :: (bL, rowS fileE (dn ++ fs.drop i) spL) :: bq)) (fun m sg4 => secTo now j - 16 * j - m) 0 sg3 ⟨Nat.zero_le _, by rw [List.take_zero, putAt_nil]; exact o3⟩ (.cons rfl (.cons rfl (.cons rfl (.cons rfl (.cons rfl (.cons rfl (.cons rfl (.cons rfl (.cons rfl .nil))))))))) pulled ?_
                    rintro m4 sg4 ⟨hm4, o4⟩
                    have hl4 : (putAt (padTo o (secTo now j)) (16 * j) ((piece now (16 * j) (secTo now j)).take m4)).length = (padTo o (secTo now j)).length := by rw [putAt_length (by omega), List.length_take]; omega
                    refine Vc.seq ?_
                    refine Vc.seq ?_
                    refine Vc.text (List.range 3) (sd [(0, .pure), (1, .pure), (2, .pure)]) rfl ?_
                    refine Rg.pure rfl rfl rfl (Pv.move rfl) ?_
                    refine Rg.pure rfl rfl rfl (Pv.move rfl) ?_
                    refine Rg.pure rfl rfl rfl (Pv.lss rfl rfl) ?_
                    refine Rg.nil ?_
                    refine Vc.cond rfl (fun h94 => ?_) (fun h94 => ?_)
                    ·
                      simp only [decide_eq_true_eq] at h94
                      obtain ⟨b4, c4, sp4, e, rfl, hc4, hm4'⟩ := o4.block (by omega)
                      simp only [Value.slice.injEq] at e
                      obtain ⟨rfl, _, rfl⟩ := e
                      obtain ⟨bn, offn, cn', e2, _⟩ := (hxq.1 (frz F bq) (fun b o h => Or.inl h)).block (by omega)
                      cases e2
                      have hpe : (piece now (16 * j) (secTo now j))[m4]! = now[16 * j + m4]! := by
                        rw [getElem!_pos _ m4 (by omega), getElem!_pos now _ (by omega)]
                        simp [piece]
                      have hps := putAt_set (l := padTo o (secTo now j)) (p := piece now (16 * j) (secTo now j)) (k := 16 * j) (n := m4) (by omega) (by omega) (by omega)
                      rw [hpe] at hps
                      refine Vc.skip ?_
                      refine Vc.seq ?_
                      refine Vc.block ?_
                      refine Vc.text (List.range 9) (sd [(0, .pure), (1, .pure), (2, .pure), (3, .read), (4, .pure), (5, .pure), (6, .read), (7, .pure), (8, .eff)]) rfl ?_
                      refine Rg.pure rfl rfl rfl (Pv.move rfl) ?_
                      refine Rg.pure rfl rfl rfl (Pv.move rfl) ?_
                      refine Rg.pure rfl rfl rfl (Pv.fa rfl) ?_
                      refine Rg.read rfl rfl rfl (Ev.ld rfl rfl) ?_
                      refine Rg.pure rfl rfl rfl (Pv.move rfl) ?_
                      refine Rg.pure rfl rfl rfl (Pv.ixA (16 * j + m4) rfl rfl (by omega) (by omega)) ?_
                      refine Rg.read rfl rfl rfl (Ev.ldS (16 * j + m4) ((Arg.srcF (s := bq) (hxq.1 _ (fun b o h => Or.inl h)))) rfl rfl rfl (by omega)) ?_
                      refine Rg.pure rfl rfl rfl (Pv.ixA (16 * j + m4) rfl rfl (by omega) (by omega)) ?_
                      refine Rg.storeR (16 * j + m4) rfl rfl rfl rfl rfl rfl (Nat.zero_add _) (by omega) rfl ?_
                      refine Rg.nil ?_
                      refine Vc.blk ?_
                      refine Vc.text (List.range 3) (sd [(0, .pure), (1, .pure), (2, .pure)]) rfl ?_
                      refine Rg.pure rfl rfl rfl (Pv.move rfl) ?_
                      refine Rg.pure rfl rfl rfl (Pv.asI (16 * j + (m4 + 1)) (Pv.add rfl rfl (by omega)) (by omega)) ?_
                      refine Rg.pure rfl rfl rfl (Pv.assign rfl) ?_
                      refine Rg.nil ?_
                      exact Vc.inv2 (m4 + 1) [(b4, rowS byteE ((putAt (padTo o (secTo now j)) (16 * j) ((piece now (16 * j) (secTo now j)).take m4)).set (16 * j + m4) now[16 * j + m4]!) sp4)] ⟨⟨by omega, by rw [← hps]; exact Own.blk' b4 c3 _ _ sp4 (by rw [List.length_set, hl4]) (by rw [← hl4]; exact hc4) hm4'⟩, by omega⟩ (.cons rfl (.cons rfl (.cons rfl (.cons rfl (.cons rfl (.cons rfl (.cons rfl (.cons rfl (.cons rfl .nil))))))))) pulled
                    ·
                      simp only [decide_eq_false_iff_not] at h94
                      rw [List.take_of_length_le (by omega)] at o4
                      refine Vc.exit rfl ?_
                      exact Vc.inv3 _ _ sg4 ⟨(if_pos (by assumption)).symm, o4⟩ (.cons rfl (.cons rfl (.cons rfl (.cons rfl (.cons rfl (.cons rfl (.cons rfl .nil))))))) pulled
                ·
                  refine Vc.skip ?_
                  exact Vc.inv3 o (.slice pv o.length cv) sg ⟨(if_neg (by rw [h83]; decide)).symm, oo⟩ (.cons rfl (.cons rfl (.cons rfl (.cons rfl (.cons rfl (.cons rfl (.cons rfl .nil))))))) pulled
              ·
                rintro o2 v2 sg2 ⟨ho2, oo2⟩
                rw [← ho2] at hsuc
                have hol2 : o2.length ≤ 1000000 := by rw [ho2]; split <;> first | (rw [putAt_length (by omega)]; omega) | exact hol
                refine Vc.text (List.range 3) (sd [(0, .pure), (1, .pure), (2, .pure)]) rfl ?_
                refine Rg.pure rfl rfl rfl (Pv.move rfl) ?_
                refine Rg.pure rfl rfl rfl (Pv.asI (κ' + 1) (Pv.add rfl rfl (by omega)) (by omega)) ?_
                refine Rg.pure rfl rfl rfl (Pv.assign rfl) ?_
                refine Rg.nil ?_
                refine Vc.blk ?_
                refine Vc.text (List.range 3) (sd [(0, .pure), (1, .pure), (2, .pure)]) rfl ?_
                refine Rg.pure rfl rfl rfl (Pv.move rfl) ?_
                refine Rg.pure rfl rfl rfl (Pv.add rfl rfl (by omega)) ?_
                refine Rg.pure rfl rfl rfl (Pv.assign rfl) ?_
                refine Rg.nil ?_
                exact Vc.inv5 (j + 1) (κ' + 1) o2 v2 sg2 ⟨⟨.inr (by simp; omega), hsuc, by omega, oo2, hol2⟩, by omega⟩ (.cons rfl (.cons rfl (.cons rfl (.cons rfl (.cons rfl (.cons rfl (.cons rfl .nil))))))) pulled
      ·
        simp only [decide_eq_false_iff_not] at h45
        have hjs : j = secs now.length := by unfold secs; omega
        refine Vc.exit rfl ?_
        refine Vc.seq ?_
        refine Vc.text (List.range 9) (sd [(0, .pure), (1, .pure), (2, .pure), (3, .read), (4, .pure), (5, .pure), (6, .pure), (7, .pure), (8, .eff)]) rfl ?_
        refine Rg.pure rfl rfl rfl (Pv.move rfl) ?_
        refine Rg.pure rfl rfl rfl (Pv.nilp rfl) ?_
        refine Rg.pure rfl rfl rfl (Pv.fa rfl) ?_
        refine Rg.read rfl rfl rfl (Ev.ld rfl rfl) ?_
        refine Rg.pure rfl rfl rfl (Pv.move rfl) ?_
        refine Rg.pure rfl rfl rfl (Pv.move rfl) ?_
        refine Rg.pure rfl rfl rfl (Pv.ixA (i) rfl rfl (by omega) (by omega)) ?_
        refine Rg.pure rfl rfl rfl (Pv.fa rfl) ?_
        refine Rg.storeRf (E := fileE) (z := ⟨nm, o, syn, pv, cv, qn, en⟩) i 1 rfl rfl rfl rfl rfl rfl (by rw [hgx]; rfl) (by decide) (by rw [show fileE.k = 3 from rfl]; omega) (by omega) rfl ?_
        refine Rg.nil ?_
        refine Vc.drawS [10] (sd [(0, .pure), (1, .pure), (2, .pure), (3, .read), (4, .pure), (6, .pure), (5, .eff), (7, .eff), (8, .pure), (9, .pure), (10, .eff)]) [(rb, rfO D.room (.slice (some ⟨bL, 0, none⟩) fs.length cL) D.ops 0 vK true)] pulled mixed (by kernel_rfl) ?_
        refine Rg.pure rfl rfl rfl (Pv.move rfl) ?_
        refine Rg.pure rfl rfl rfl (Pv.nilp rfl) ?_
        refine Rg.pure rfl rfl rfl (Pv.fa rfl) ?_
        refine Rg.read rfl rfl rfl (Ev.ld rfl rfl) ?_
        refine Rg.pure rfl rfl rfl (Pv.move rfl) ?_
        refine Rg.pure rfl rfl rfl (Pv.move rfl) ?_
        refine Rg.bslice0N (E := byteE) rfl rfl rfl (fun b120 own120 => ?_)
        refine Rg.appendN rfl rfl rfl rfl rfl own120 (Src.own (rest := []) oo Sb.sub) (by simp <;> omega) (by simp [maxLen] <;> omega) (fun v122 s122 own122 => ?_)
        obtain ⟨p122, c122, rfl⟩ := own122.shape
        have hls : ((dn ++ fs.drop i).set i ⟨nm, o, syn, pv, cv, qn, en⟩).length = fs.length := by rw [List.length_set, hlL]
        have hgz : ((dn ++ fs.drop i).set i (⟨nm, o, syn, pv, cv, qn, en⟩ : Fv))[i]! = ⟨nm, o, syn, pv, cv, qn, en⟩ := by rw [getElem!_pos _ i (by omega), List.getElem_set_self]
        refine Rg.pure rfl rfl rfl (Pv.ixA (i) rfl rfl (by omega) (by omega)) ?_
        refine Rg.pure rfl rfl rfl (Pv.fa rfl) ?_
        refine Rg.storeRf (E := fileE) (z := ⟨nm, o, o, pv, cv, p122, c122⟩) i 2 rfl rfl rfl rfl rfl rfl (by rw [hgz]; rfl) (by decide) (by rw [show fileE.k = 3 from rfl]; omega) (by omega) rfl ?_
        refine Rg.nil ?_
        refine Vc.blk ?_
        refine Vc.text (List.range 3) (sd [(0, .pure), (1, .pure), (2, .pure)]) rfl ?_
        refine Rg.pure rfl rfl rfl (Pv.move rfl) ?_
        refine Rg.pure rfl rfl rfl (Pv.asI (i + 1) (Pv.add rfl rfl (by omega)) (by omega)) ?_
        refine Rg.pure rfl rfl rfl (Pv.assign rfl) ?_
        refine Rg.nil ?_
        rw [List.set_set, setMid _ hdl hi1]
        rw [hjs] at hto
        rw [hto] at hsn
        exact Vc.inv5 (i + 1) κ' (dn ++ [⟨nm, o, o, pv, cv, p122, c122⟩]) [(bL, rowS fileE (dn ++ [⟨nm, o, o, pv, cv, p122, c122⟩] ++ fs.drop (i + 1)) spL)] (sg ++ (s122 ++ bq)) ⟨⟨by omega, by simp; omega, by rw [htk, List.map_append, List.map_append, hdn]; rfl, by rw [htk, List.map_append, List.map_append]; exact hsn, by have : secs now.length ≤ 62500 := (by unfold secs; omega); omega, Own.blk' bL cL _ _ spL (by simp; omega) (by rw [← hlL]; exact hcap) hcm, fun f hf => by
          have hmn : ∀ y ∈ bq, y ∈ sg ++ (s122 ++ bq) := fun y hy => by simp [hy]
          rcases List.mem_append.1 hf with hf | hf
          · rcases List.mem_append.1 hf with hf | hf
            · have := hbq f (List.mem_append_left _ hf)
              exact ⟨this.1.mono hmn, this.2.mono hmn⟩
            · rw [List.mem_singleton] at hf
              subst hf
              exact ⟨(ArgIn.own oo).mono fun y hy => by simp [hy], (ArgIn.own own122).mono fun y hy => by simp [hy]⟩
          · have := hbq f (List.mem_append_right _ (by rw [List.drop_eq_getElem_cons hi1]; exact List.mem_cons_of_mem _ hf))
            exact ⟨this.1.mono hmn, this.2.mono hmn⟩⟩, by omega⟩ (.cons rfl (.cons rfl (.cons rfl (.cons rfl .nil)))) pulled
    ·
      simp only [decide_eq_false_iff_not] at h27
      obtain rfl : i = fs.length := by omega
      rw [List.drop_eq_nil_of_le (Nat.le_refl _), List.append_nil] at oL hbq
      rw [List.take_length] at hdn hcl
      refine Vc.exit rfl ?_
      exact Vc.fin (Vc.retsH rfl .nil ((show Rf0 rb (crashD ks D) vK ((rb, rfO D.room (.slice pL fs.length cL) D.ops 0 vK true) :: (sR ++ bq)) from by
        rw [hcr]
        have hc := crash_crL hw.nodup ks
        rw [hio, hcl] at hc
        exact ⟨dn, _, sR, bq, by unfold Srt; rw [hdn]; exact hsrt, hc.1, oL, hbq, .refl _⟩)) pulled)
end Go.Proofs.Ytmocncadncgaaaa
