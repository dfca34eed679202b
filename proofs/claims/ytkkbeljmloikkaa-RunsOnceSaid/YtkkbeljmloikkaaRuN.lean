/- Runs: Merge. -/
import Derived.Test.YtkkbeljmloikkaaRuM
namespace Go.Proofs.Ytkkbeljmloikkaa
set_option linter.unusedVariables false
open HH (Hd)

theorem flat_mem_len {xss : List (List Rc)} {i : Nat} (h : i < xss.length) : xss[i]!.length ≤ xss.flatten.length := by
  rw [getElem!_pos xss i h]
  exact (List.sublist_flatten_of_mem (List.getElem_mem h)).length_le
theorem allOf_len (hs : List Hd) (rss : List (List Rc)) : (allOf hs rss).length = hs.length + rss.flatten.length := by simp [allOf]

set_option maxHeartbeats 1000000 in
theorem merge_spec {F : Fm} {va : Value} {ls : List Sv} {xss : List (List Rc)} (ha : ArgRR F va ls xss) (hn : xss.length < 100000) (hT : xss.flatten.length < 1000000) (hR : NR xss.flatten) (how : Int) :
    Spec Try.prog 16 #[va, .int .i64 how] F [] fun v s => ∃ u er, v = .tuple #[u, .int .i64 er] ∧ ((okHow how = true ∧ er = 0 ∧ Own recE u (sortedG how xss.flatten) s) ∨ (okHow how = false ∧ er = 1 ∧ u = .slice none 0 0)) := by
  obtain ⟨p, c, rfl⟩ := ha.top.shape
  have hll := ha.len
  obtain ⟨n, hnn⟩ : ∃ n, n = xss.length := ⟨_, rfl⟩
  rw [← hnn] at hll hn
  rw [hll]
  have hra := ha.rows
  rw [← hnn] at hra
  have hatop := ha.top
  rw [hll] at hatop
  refine Spec.of (n := 59) (vs := [.slice p n c, .int .i64 how]) Try.func16 rfl Try.ntmps16 rfl ?_
  refine Vc.seq ?_
  refine Vc.text (List.range 2) (sd [(0, .pure), (1, .pure)]) rfl ?_
  refine Rg.pure rfl rfl rfl (Pv.assign rfl) ?_
  refine Rg.pure rfl rfl rfl (Pv.assign rfl) ?_
  refine Rg.nil ?_
  refine Vc.seq ?_
  refine Vc.seq ?_
  refine Vc.text (List.range 3) (sd [(0, .pure), (1, .eff), (2, .pure)]) rfl ?_
  refine Rg.pure rfl rfl rfl (Pv.move rfl) ?_
  refine Rg.callP rfl rfl rfl (run_callF rfl) (right_spec _ _) ?_
  rintro _ rfl
  refine Rg.pure rfl rfl rfl (Pv.not rfl) ?_
  refine Rg.nil ?_
  refine Vc.cond rfl (fun h16 => ?_) (fun h16 => ?_)
  ·
    have hno : okHow how = false := by simpa only [okHow, Bool.not_eq_true'] using h16
    refine Vc.seq ?_
    refine Vc.text (List.range 2) (sd [(0, .pure), (1, .pure)]) rfl ?_
    refine Rg.pure rfl rfl rfl (Pv.assign rfl) ?_
    refine Rg.pure rfl rfl rfl (Pv.assign rfl) ?_
    refine Rg.nil ?_
    exact Vc.ret (Vc.retsH (hl' := []) rfl (.cons (.tmp rfl) (.cons (.tmp rfl) .nil)) ⟨_, _, rfl, .inr ⟨hno, rfl, rfl⟩⟩ pulled)
  ·
    have hok : okHow how = true := by simpa [okHow] using h16
    refine Vc.skip ?_
    refine Vc.seq ?_
    refine Vc.text (List.range 5) (sd [(0, .pure), (1, .pure), (2, .eff), (3, .eff), (4, .eff)]) rfl ?_
    refine Rg.pure rfl rfl rfl (Pv.move rfl) ?_
    refine Rg.pure rfl rfl rfl (Pv.lenS rfl) ?_
    refine Rg.makeN slE ⟨none, 0, 0⟩ rfl rfl rfl rfl rfl (by simp [maxLen]; omega) (fun b19 own19 => ?_)
    refine Rg.alloc rfl rfl rfl rfl (fun b6 => ?_)
    refine Rg.store rfl rfl rfl rfl rfl rfl rfl rfl ?_
    refine Rg.nil ?_
    refine Vc.seq ?_
    refine Vc.text (List.range 1) (sd [(0, .eff)]) rfl ?_
    refine Rg.alloc rfl rfl rfl rfl (fun b7 => ?_)
    refine Rg.nil ?_
    refine Vc.seq ?_
    refine Vc.text (List.range 2) (sd [(0, .pure), (1, .pure)]) rfl ?_
    refine Rg.pure rfl rfl rfl (Pv.mkF rfl rfl) ?_
    refine Rg.pure rfl rfl rfl (Pv.assign rfl) ?_
    refine Rg.nil ?_
    refine Vc.seq ?_
    refine Vc.seq ?_
    refine Vc.text (List.range 3) (sd [(0, .pure), (1, .pure), (2, .pure)]) rfl ?_
    refine Rg.pure rfl rfl rfl (Pv.move rfl) ?_
    refine Rg.pure rfl rfl rfl (Pv.lenS rfl) ?_
    refine Rg.pure rfl rfl rfl (Pv.move rfl) ?_
    refine Rg.nil ?_
    refine Vc.block ?_
    refine Vc.loop6 (fun (k : Nat) (vs : List Sv) (rss : List (List Rc)) (hs : List Hd) (sb sH : Hl) => k ≤ n ∧ MStart n k xss hs rss ∧ (vs.length = n ∧ ∀ F' : Fm, (∀ b o, (b, o) ∈ sb → F'.at_ b o) → ∀ j, j < n → Arg recE F' vs[j]!.v rss[j]!) ∧ HH.HeapAt b7 hs sH) (fun k vs rss hs sb sH => [(1, .int .i64 how), (6, .pointer (some ⟨b6, 0, none⟩)), (7, .pointer (some ⟨b7, 0, none⟩)), (8, .func (.func 30) #[] #[.pointer (some ⟨b6, 0, none⟩), .pointer (some ⟨b7, 0, none⟩)]), (21, .slice p n c), (22, .int .i64 (n : Int)), (23, .int .i64 (k : Int))]) (fun k vs rss hs sb sH => (b6, cellsO [.slice (some ⟨b19, 0, none⟩) n n] 28) :: (b19, rowS slE vs []) :: (sH ++ sb)) (fun k vs rss hs sb sH => n - k) 0 (List.replicate n ⟨none, 0, 0⟩) (List.replicate n []) [] [] _ ⟨Nat.zero_le _, hnn ▸ MStart.nil xss, ⟨by simp, fun F' _ j hj => by rw [getElem!_pos _ j (by simpa using hj), getElem!_pos _ j (by simpa using hj), List.getElem_replicate, List.getElem_replicate]; exact Arg.nil⟩, HH.heap_nil b7⟩ (.cons rfl (.cons rfl (.cons rfl (.cons rfl (.cons rfl (.cons rfl (.cons rfl .nil))))))) pulled ?_
    rintro k vs rss hs sb sH ⟨hk, hms, ⟨hvl, hrows⟩, hheap⟩
    refine Vc.seq ?_
    refine Vc.text (List.range 1) (sd [(0, .pure)]) rfl ?_
    refine Rg.pure rfl rfl rfl (Pv.lss rfl rfl) ?_
    refine Rg.nil ?_
    refine Vc.seq ?_
    refine Vc.cond rfl (fun h24 => ?_) (fun h24 => ?_)
    ·
      simp only [decide_eq_true_eq] at h24
      have hk1 : k < n := by omega
      obtain ⟨bl, off, c', e, _⟩ := hatop.block (by omega)
      rw [hll] at e
      cases e
      have hxk := hra k hk1
      have hxl := flat_mem_len (xss := xss) (i := k) (by omega)
      have hxr : NR xss[k]! := fun r hr => hR r (List.mem_flatten.2 ⟨_, by rw [getElem!_pos xss k (by omega)]; exact List.getElem_mem _, hr⟩)
      have hms1 := hms.step hk1 hnn
      have hal := hms.perm.length_eq
      have hfl : (xss.take k).flatten.length ≤ xss.flatten.length := by
        conv => rhs; rw [← List.take_append_drop k xss]
        rw [List.flatten_append, List.length_append]; omega
      rw [allOf_len] at hal
      obtain ⟨sk, hsk⟩ : ∃ s, ls[k]! = s := ⟨_, rfl⟩
      obtain ⟨pk, mk, ck⟩ := sk
      rw [hsk] at hxk
      obtain rfl : mk = xss[k]!.length := hxk.cap.1
      generalize xss[k]! = ys at hxk hxl hxr hms1 hsk
      refine Vc.skip ?_
      refine Vc.seq ?_
      refine Vc.block ?_
      refine Vc.seq ?_
      refine Vc.text (List.range 5) (sd [(0, .pure), (1, .pure), (2, .read), (3, .pure), (4, .pure)]) rfl ?_
      refine Rg.pure rfl rfl rfl (Pv.move rfl) ?_
      refine Rg.pure rfl rfl rfl (Pv.ixA (k) rfl rfl (by omega) (by omega)) ?_
      refine Rg.read rfl rfl rfl (Ev.as (.slice pk ys.length ck) (Ev.ldS (E := slE) k hatop.src rfl rfl rfl (by omega)) (congrArg slE.val hsk)) ?_
      refine Rg.pure rfl rfl rfl (Pv.assign rfl) ?_
      refine Rg.pure rfl rfl rfl (Pv.assign rfl) ?_
      refine Rg.nil ?_
      refine Vc.seq ?_
      refine Vc.drawS [6] (sd [(0, .read), (1, .pure), (2, .pure), (3, .eff), (4, .eff), (5, .pure), (6, .eff)]) [(b6, cellsO [.slice (some ⟨b19, 0, none⟩) n n] 28)] pulled mixed (by kernel_rfl) ?_
      refine Rg.read rfl rfl rfl (Ev.ld rfl rfl) ?_
      refine Rg.pure rfl rfl rfl (Pv.move rfl) ?_
      refine Rg.pure rfl rfl rfl (Pv.move rfl) ?_
      refine Rg.callHN (pre := []) rfl rfl rfl (run_callF rfl) (fun F' hF' => values_specr) ?_
      rintro _ _ ⟨bs, rfl, rfl⟩
      refine Rg.callHN (pre := [(bs, cellsO [.slice pk ys.length ck] 22)]) rfl rfl rfl (run_callF rfl) (fun F' hF' => sortedFunc_specr (F := F') (Sp := fun p => p <+: ys) (S := fun p => p = ys) cfR cfR_swo 27 (lb := [.pointer (some ⟨bs, 0, none⟩)]) (hi := [(bs, cellsO [.slice pk ys.length ck] 22)]) (fun F'' h => values_iterr (hxk.mono fun b o hb => h b o (hF' b o (.inr hb))) (by omega) bs) (fun pre x hp => by have := hp.length_le; simp at this; omega) (fun ys e => by rw [e]; omega) (fun F'' h ys _ x _ y _ => compare_spec _ x y)) ?_
      rintro v32 s32 ⟨ys', zs, rfl, own32, hp, hs32⟩
      obtain rfl := sorted_of hp hs32
      obtain ⟨q32, c32, rfl⟩ := own32.shape
      refine Rg.pure rfl rfl rfl (Pv.ixA (k) rfl rfl (by omega) (by omega)) ?_
      refine Rg.storeR (E := slE) (z := ⟨q32, (sortL ys').length, c32⟩) k rfl rfl rfl rfl rfl rfl (Nat.zero_add _) (by omega) rfl ?_
      have hrows1 : ∀ F' : Fm, (∀ b o, (b, o) ∈ s32 ++ sb → F'.at_ b o) → ∀ j, j < n → Arg recE F' ((vs.set k ⟨q32, (sortL ys').length, c32⟩)[j]!).v (rss.set k (sortL ys'))[j]! := fun F' hF' j hj => by
        rw [set_get' _ _ _ _ (by omega), set_get' _ _ _ _ (by rw [hms.inv.len]; exact hj)]
        by_cases e : k = j
        · rw [if_pos e, if_pos e]; exact Arg.own own32 fun b o hb => hF' b o (List.mem_append_left _ hb)
        · rw [if_neg e, if_neg e]; exact hrows F' (fun b o hb => hF' b o (List.mem_append_right _ hb)) j hj
      have hsl : (sortL ys').length = ys'.length := sortL_length _
      refine Rg.nil ?_
      refine Vc.text (List.range 3) (sd [(0, .pure), (1, .pure), (2, .eff)]) rfl ?_
      refine Rg.pure rfl rfl rfl (Pv.move rfl) ?_
      refine Rg.pure rfl rfl rfl (Pv.move rfl) ?_
      refine Rg.callH rfl rfl rfl (run_callV rfl rfl) (fun F' hF' => next_spec (F := F') (fun F'' => ∀ b o, (b, o) ∈ s32 ++ sb → F''.at_ b o) (fun F'' h b o hb => h b o (hF' b o (.inl (by simp at hb ⊢; rcases hb with h | h <;> simp [h])))) b6 b7 b19 n (vs.set k ⟨q32, (sortL ys').length, c32⟩) (rss.set k (sortL ys')) hs sH k hk1 (by simpa using hvl) (by simpa using hms.inv.len) hrows1 hheap (by omega) (by omega) (by rw [set_get' _ _ _ _ (by rw [hms.inv.len]; exact hk1), if_pos rfl, hsl]; omega)) rfl ?_
      rintro v36 _ ⟨vs1, sH1, rfl, hvl1, hheap1, hrows2⟩
      refine Rg.nil ?_
      refine Vc.blk ?_
      refine Vc.text (List.range 2) (sd [(0, .pure), (1, .pure)]) rfl ?_
      refine Rg.pure rfl rfl rfl (Pv.asI (k + 1) (Pv.add rfl rfl (by omega)) (by omega)) ?_
      refine Rg.pure rfl rfl rfl (Pv.move rfl) ?_
      refine Rg.nil ?_
      exact Vc.inv6 (k + 1) vs1 _ _ (s32 ++ sb) sH1 ⟨⟨hk1, hms1, ⟨hvl1, hrows2⟩, hheap1⟩, by omega⟩ (.cons rfl (.cons rfl (.cons rfl (.cons rfl (.cons rfl (.cons rfl (.cons rfl .nil))))))) pulled
    ·
      simp only [decide_eq_false_iff_not] at h24
      obtain rfl : n = k := by omega
      have hmd := hms.done hnn
      refine Vc.exit rfl ?_
      refine Vc.seq ?_
      refine Vc.text (List.range 4) (sd [(0, .pure), (1, .pure), (2, .eff), (3, .eff)]) rfl ?_
      refine Rg.pure rfl rfl rfl (Pv.move rfl) ?_
      refine Rg.pure rfl rfl rfl (Pv.build (c := #[.int .i64 how, .slice none 0 0]) rfl rfl) ?_
      refine Rg.alloc rfl rfl rfl rfl (fun b11 => ?_)
      refine Rg.storeA rfl rfl rfl rfl rfl rfl rfl rfl ?_
      refine Rg.nil ?_
      refine Vc.seq ?_
      refine Vc.seq ?_
      refine Vc.text (List.range 7) (sd [(0, .eff), (1, .pure), (2, .pure), (3, .pure), (4, .eff), (5, .eff), (6, .pure)]) rfl ?_
      refine Rg.callH rfl rfl rfl (run_callF rfl) (fun F' hF' => HH.pop_hd F' b7 _ _ hheap (by have := hms.perm.length_eq; rw [allOf_len, List.take_of_length_le (by omega)] at this; omega)) rfl ?_
      rintro _ sH1 ⟨rfl, hheap1⟩
      refine Rg.pure rfl rfl rfl (Pv.move rfl) ?_
      refine Rg.pure rfl rfl rfl (Pv.extract rfl rfl) ?_
      refine Rg.pure rfl rfl rfl (Pv.extract rfl rfl) ?_
      refine Rg.alloc rfl rfl rfl rfl (fun b12 => ?_)
      refine Rg.storeA (us := HH.headC (HH.hd hs)) rfl rfl rfl rfl rfl rfl rfl rfl ?_
      refine Rg.pure rfl rfl rfl (Pv.assign rfl) ?_
      refine Rg.nil ?_
      refine Vc.block ?_
      refine Vc.loop7 (fun (b12 : Nat) (vs : List Sv) (rss : List (List Rc)) (hs : List Hd) (done : List Rc) (sH sf : Hl) => MDone n xss.flatten done hs rss ∧ (vs.length = n ∧ ∀ F' : Fm, (∀ b o, (b, o) ∈ sb → F'.at_ b o) → ∀ j, j < n → Arg recE F' vs[j]!.v rss[j]!) ∧ HH.HeapAt b7 (HH.popL hs) sH ∧ FoldAt b11 how (foldC how done) sf) (fun b12 vs rss hs done sH sf => [(7, .pointer (some ⟨b7, 0, none⟩)), (8, .func (.func 30) #[] #[.pointer (some ⟨b6, 0, none⟩), .pointer (some ⟨b7, 0, none⟩)]), (11, .pointer (some ⟨b11, 0, none⟩)), (12, .pointer (some ⟨b12, 0, none⟩)), (13, .bool (decide (0 < hs.length)))]) (fun b12 vs rss hs done sH sf => (b6, cellsO [.slice (some ⟨b19, 0, none⟩) n n] 28) :: (b19, rowS slE vs []) :: (b12, cellsO (HH.headC (HH.hd hs)) 65) :: (sH ++ (sf ++ sb))) (fun b12 vs rss hs done sH sf => (allOf hs rss).length) b12 vs rss hs [] sH1 [(b11, cellsO [.int .i64 how, .slice none 0 0] 50)] ⟨hmd, ⟨hvl, hrows⟩, hheap1, ⟨_, _, .nil, rfl⟩⟩ (.cons rfl (.cons rfl (.cons rfl (.cons rfl (.cons rfl .nil))))) pulled ?_
      clear hmd hms hvl hrows hheap hheap1
      rintro b12 vs rss hs done sH sf ⟨hmd, ⟨hvl, hrows⟩, hheap, hfo⟩
      refine Vc.seq ?_
      refine Vc.seq ?_
      refine Vc.text (List.range 1) (sd [(0, .pure)]) rfl ?_
      refine Rg.pure rfl rfl rfl (Pv.move rfl) ?_
      refine Rg.nil ?_
      refine Vc.cond rfl (fun h44 => ?_) (fun h44 => ?_)
      ·
        simp only [decide_eq_true_eq] at h44
        obtain ⟨r, hr, hrun, hmd1, hxm, hal⟩ := hmd.step h44
        have hal2 := hmd.perm.length_eq
        have hfl := foldC_length how done
        rw [List.length_append, allOf_len] at hal2
        rw [allOf_len] at hal
        have hpl := HH.popL_length hs
        rw [← HH.hd_get h44] at hrun hmd1 hxm
        generalize hx : HH.hd hs = x at hrun hmd1 hxm ⊢
        have hxv := hR _ hxm
        have hdn : NN (foldC how done) := (foldC_nr done fun r hr => hR r (hmd.perm.mem_iff.1 (List.mem_append_left _ hr))).nn
        have hrl : rss[r]!.length < 1000000 := by have := flat_mem_len (xss := rss) (i := r) (by rw [hmd.inv.len]; exact hr); omega
        refine Vc.skip ?_
        refine Vc.seq ?_
        refine Vc.block ?_
        refine Vc.seq ?_
        refine Vc.text (List.range 3) (sd [(0, .pure), (1, .read), (2, .eff)]) rfl ?_
        refine Rg.pure rfl rfl rfl (Pv.fa rfl) ?_
        refine Rg.read rfl rfl rfl (Ev.as (recV (rcOf x)) (Ev.ldA rfl rfl) rfl) ?_
        refine Rg.callH rfl rfl rfl (run_callF rfl) (fun F' hF' => putF_spec F' b11 how _ (rcOf x) _ hfo (by omega) hdn hxv.1) rfl ?_
        rintro v51 sf1 hfo1
        refine Rg.nil ?_
        refine Vc.text (List.range 4) (sd [(0, .pure), (1, .pure), (2, .read), (3, .eff)]) rfl ?_
        refine Rg.pure rfl rfl rfl (Pv.move rfl) ?_
        refine Rg.pure rfl rfl rfl (Pv.fa rfl) ?_
        refine Rg.read rfl rfl rfl (Ev.as (.int .i64 (r : Int)) (Ev.ld rfl rfl) (congrArg (Value.int .i64) hrun)) ?_
        refine Rg.callH rfl rfl rfl (run_callV rfl rfl) (fun F' hF' => next_spec (F := F') (fun F'' => ∀ b o, (b, o) ∈ sb → F''.at_ b o) (fun F'' h b o hb => h b o (hF' b o (.inl (by simp [hb])))) b6 b7 b19 n vs rss (HH.popL hs) sH r hr hvl hmd.inv.len hrows hheap (by omega) (by omega) hrl) rfl ?_
        rintro v55 _ ⟨vs1, sH1, rfl, hvl1, hheap1, hrows1⟩
        refine Rg.nil ?_
        refine Vc.blk ?_
        refine Vc.seq ?_
        refine Vc.seq ?_
        refine Vc.text (List.range 1) (sd [(0, .read)]) rfl ?_
        refine Rg.read rfl rfl rfl (Ev.ldA rfl rfl) ?_
        refine Rg.nil ?_
        refine Vc.text (List.range 2) (sd [(0, .eff), (1, .eff)]) rfl ?_
        refine Rg.alloc rfl rfl rfl rfl (fun b12 => ?_)
        refine Rg.storeA (us := HH.headC x) rfl rfl rfl rfl rfl rfl rfl rfl ?_
        refine Rg.nil ?_
        refine Vc.text (List.range 6) (sd [(0, .eff), (1, .pure), (2, .pure), (3, .pure), (4, .eff), (5, .pure)]) rfl ?_
        refine Rg.callH rfl rfl rfl (run_callF rfl) (fun F' hF' => HH.pop_hd F' b7 _ _ hheap1 (by rw [allOf_len] at hal; omega)) rfl ?_
        rintro _ sH2 ⟨rfl, hheap2⟩
        refine Rg.pure rfl rfl rfl (Pv.move rfl) ?_
        refine Rg.pure rfl rfl rfl (Pv.extract rfl rfl) ?_
        refine Rg.pure rfl rfl rfl (Pv.extract rfl rfl) ?_
        refine Rg.storeA (us := HH.headC (HH.hd (nextH (HH.popL hs) rss r))) rfl rfl rfl rfl rfl rfl rfl rfl ?_
        refine Rg.pure rfl rfl rfl (Pv.assign rfl) ?_
        refine Rg.nil ?_
        exact Vc.inv7 b12 vs1 _ _ (done ++ [rcOf x]) sH2 sf1 ⟨⟨hmd1, ⟨hvl1, hrows1⟩, hheap2, by rw [foldC_snoc]; exact hfo1⟩, by rw [allOf_len hs] at hal ⊢; rw [allOf_len]; omega⟩ (.cons rfl (.cons rfl (.cons rfl (.cons rfl (.cons rfl .nil))))) pulled
      ·
        simp only [decide_eq_true_eq, decide_eq_false_iff_not] at h44
        obtain rfl : hs = [] := List.length_eq_zero_iff.1 (by omega)
        have hdone := hmd.fin
        subst hdone
        obtain ⟨vf, sg, ownf, rfl⟩ := hfo
        refine Vc.exit rfl ?_
        refine Vc.seq ?_
        refine Vc.text (List.range 4) (sd [(0, .pure), (1, .read), (2, .pure), (3, .pure)]) rfl ?_
        refine Rg.pure rfl rfl rfl (Pv.fa rfl) ?_
        refine Rg.read rfl rfl rfl (Ev.ld rfl rfl) ?_
        refine Rg.pure rfl rfl rfl (Pv.assign rfl) ?_
        refine Rg.pure rfl rfl rfl (Pv.assign rfl) ?_
        refine Rg.nil ?_
        exact Vc.ret (Vc.retsH rfl (.cons (.tmp rfl) (.cons (.tmp rfl) (.nil))) (⟨_, _, rfl, .inl ⟨hok, rfl, ownf⟩⟩) pulled)
end Go.Proofs.Ytkkbeljmloikkaa
