/- The statements' functions: HeapSorts. -/
import Derived.Test.YtbhgbhhdpcehbaaHpD
namespace Go.Proofs.Ytbhgbhhdpcehbaa
set_option linter.unusedVariables false

theorem heads_same {X Y : List Rc} (h1 : HeapOK X) (h2 : HeapOK Y) (hp : X.Perm Y) : hd X = hd Y := by
  by_cases h0 : 0 < X.length
  · have h0' : 0 < Y.length := by rw [← hp.length_eq]; exact h0
    rw [hd_get h0, hd_get h0']
    have m1 : X[0]! ∈ X := by rw [getElem!_pos X 0 h0]; exact List.getElem_mem _
    have m2 : Y[0]! ∈ Y := by rw [getElem!_pos Y 0 h0']; exact List.getElem_mem _
    exact geR_antisymm (heap_le h2 (hp.mem_iff.1 m1)) (heap_le h1 (hp.mem_iff.2 m2))
  · rw [hd_nil h0, hd_nil (by rw [← hp.length_eq]; exact h0)]
theorem pops_perm {X Y : List Rc} (h1 : HeapOK X) (h2 : HeapOK Y) (hp : X.Perm Y) : (popL X).Perm (popL Y) := by
  by_cases h0 : 0 < X.length
  · have h0' : 0 < Y.length := by rw [← hp.length_eq]; exact h0
    have e := heads_same h1 h2 hp
    rw [hd_get h0, hd_get h0'] at e
    have := (pop_perm X h0).symm.trans (hp.trans (pop_perm Y h0'))
    rw [e] at this
    exact this.cons_inv
  · have : X = [] := List.eq_nil_of_length_eq_zero (by omega)
    subst this
    rw [List.nil_perm.1 hp]
theorem hd_least {X : List Rc} (h : HeapOK X) {a : Rc} (ha : a ∈ X) : ltR a (hd X) = false := by
  rw [hd_get (List.length_pos_of_mem ha)]; exact heap_le h ha
theorem mem_pop {X : List Rc} {a : Rc} (ha : a ∈ popL X) : a ∈ X := by
  by_cases h0 : 0 < X.length
  · exact (pop_perm X h0).mem_iff.2 (List.mem_cons_of_mem _ ha)
  · have : X = [] := List.eq_nil_of_length_eq_zero (by omega)
    subst this
    rw [popL_nil] at ha; exact ha
theorem push_take {X xs : List Rc} {i : Nat} (h : X.Perm (xs.take i)) (hi : i < xs.length) : (pushL X xs[i]!).Perm (xs.take (i + 1)) := by
  rw [List.take_succ_eq_append_getElem hi, ← getElem!_pos xs i hi]
  exact (push_perm X _).trans ((h.cons _).trans (List.perm_append_singleton _ _).symm)
theorem push_drop {X xs : List Rc} {i n : Nat} (h : X.Perm ((xs.take n).drop (n - i))) (hi : i < n) (hn : n ≤ xs.length) : (pushL X xs[n - 1 - i]!).Perm ((xs.take n).drop (n - (i + 1))) := by
  have e : n - (i + 1) + 1 = n - i := by omega
  have hl : n - (i + 1) < (xs.take n).length := by simp; omega
  rw [List.drop_eq_getElem_cons hl, e, List.getElem_take, show n - 1 - i = n - (i + 1) by omega, getElem!_pos xs _ (by omega)]
  exact (push_perm X _).trans (h.cons _)
theorem HeapOK.nil : HeapOK [] := fun j _ h => by simp at h

theorem HeapSorts_spec (F : Fm) (v0 : Value) (xs : List Rc) (ha : Arg recE F v0 xs) :
    Spec Try.prog 4 #[v0] F [] fun v _ => v = .bool true := by
  obtain ⟨p0, c0, rfl⟩ := ha.shape
  refine Spec.of (n := 91) (vs := [.slice p0 xs.length c0]) Try.func4 rfl Try.ntmps4 rfl ?_
  obtain ⟨m, hm⟩ : ∃ m, m = min xs.length 100 := ⟨_, rfl⟩
  refine Vc.seq ?_
  refine Vc.text (List.range 1) (sd [(0, .pure)]) rfl ?_
  refine Rg.pure rfl rfl rfl (Pv.assign rfl) ?_
  refine Rg.nil ?_
  refine Vc.seq ?_
  refine Vc.text (List.range 2) (sd [(0, .eff), (1, .pure)]) rfl ?_
  refine Rg.callP rfl rfl rfl (run_callF rfl) (shown_spec _) ?_
  rintro _ rfl
  refine Rg.pure rfl rfl rfl (Pv.assign rfl) ?_
  refine Rg.nil ?_
  refine Vc.seq ?_
  refine Vc.text (List.range 3) (sd [(0, .pure), (1, .eff), (2, .pure)]) rfl ?_
  refine Rg.pure rfl rfl rfl (Pv.build rfl rfl) ?_
  refine Rg.box rfl rfl rfl rfl rfl (fun b18 => ?_)
  refine Rg.pure rfl rfl rfl (Pv.assign rfl) ?_
  refine Rg.nil ?_
  refine Vc.seq ?_
  refine Vc.text (List.range 3) (sd [(0, .pure), (1, .eff), (2, .pure)]) rfl ?_
  refine Rg.pure rfl rfl rfl (Pv.build rfl rfl) ?_
  refine Rg.box rfl rfl rfl rfl rfl (fun b20 => ?_)
  refine Rg.pure rfl rfl rfl (Pv.assign rfl) ?_
  refine Rg.nil ?_
  refine Vc.seq ?_
  refine Vc.text (List.range 4) (sd [(0, .pure), (1, .pure), (2, .pure), (3, .pure)]) rfl ?_
  refine Rg.pure rfl rfl rfl (Pv.move rfl) ?_
  refine Rg.pure rfl rfl rfl (Pv.lenS rfl) ?_
  refine Rg.pure rfl rfl rfl (Pv.asI (m) (Pv.min rfl rfl) (by omega)) ?_
  refine Rg.pure rfl rfl rfl (Pv.assign rfl) ?_
  refine Rg.nil ?_
  refine Vc.seq ?_
  refine Vc.seq ?_
  refine Vc.text (List.range 1) (sd [(0, .pure)]) rfl ?_
  refine Rg.pure rfl rfl rfl (Pv.assign rfl) ?_
  refine Rg.nil ?_
  refine Vc.block ?_
  refine Vc.loop5 (fun (i : Nat) (X Y : List Rc) (sx sy : Hl) => i ≤ m ∧ X.Perm (xs.take i) ∧ Y.Perm ((xs.take m).drop (m - i)) ∧ HeapOK X ∧ HeapOK Y ∧ HeapAt b18 X sx ∧ HeapAt b20 Y sy) (fun i X Y sx sy => [(0, .slice p0 xs.length c0), (3, .bool true), (4, .pointer (some ⟨b18, 0, none⟩)), (5, .pointer (some ⟨b20, 0, none⟩)), (6, .int .i64 (m : Int)), (7, .int .i64 (i : Int))]) (fun i X Y sx sy => sx ++ sy) (fun i X Y sx sy => m - i) 0 [] [] _ _ ⟨by omega, .refl _, by rw [List.drop_eq_nil_of_le (by simp; omega)], .nil, .nil, heap_nil b18, heap_nil b20⟩ (.cons rfl (.cons rfl (.cons rfl (.cons rfl (.cons rfl (.cons rfl .nil)))))) pulled ?_
  rintro i X Y sx sy ⟨h1, h2, h3, hX, hY, hx, hy⟩
  have hlx : X.length = i := by have := h2.length_eq; simp at this; omega
  have hly : Y.length = i := by have := h3.length_eq; simp at this; omega
  refine Vc.seq ?_
  refine Vc.seq ?_
  refine Vc.text (List.range 3) (sd [(0, .pure), (1, .pure), (2, .pure)]) rfl ?_
  refine Rg.pure rfl rfl rfl (Pv.move rfl) ?_
  refine Rg.pure rfl rfl rfl (Pv.move rfl) ?_
  refine Rg.pure rfl rfl rfl (Pv.lss rfl rfl) ?_
  refine Rg.nil ?_
  refine Vc.cond rfl (fun h26 => ?_) (fun h26 => ?_)
  ·
    simp only [decide_eq_true_eq] at h26
    obtain ⟨b0, o0, cc0, e0, _⟩ := ha.block (by omega)
    cases e0
    refine Vc.skip ?_
    refine Vc.seq ?_
    refine Vc.block ?_
    refine Vc.seq ?_
    refine Vc.text (List.range 6) (sd [(0, .pure), (1, .pure), (2, .pure), (3, .pure), (4, .read), (5, .eff)]) rfl ?_
    refine Rg.pure rfl rfl rfl (Pv.move rfl) ?_
    refine Rg.pure rfl rfl rfl (Pv.move rfl) ?_
    refine Rg.pure rfl rfl rfl (Pv.move rfl) ?_
    refine Rg.pure rfl rfl rfl (Pv.ixA (i) rfl rfl (by omega) (by omega)) ?_
    refine Rg.read rfl rfl rfl (Ev.ldS (i) (ha.src) rfl rfl rfl (by omega)) ?_
    refine Rg.callH rfl rfl rfl (run_callF rfl) (fun F' hF' => push_at F' b18 X xs[i]! _ hx (by omega)) rfl ?_
    rintro v34 sx' hx'
    refine Rg.nil ?_
    refine Vc.text (List.range 9) (sd [(0, .pure), (1, .pure), (2, .pure), (3, .pure), (4, .pure), (5, .pure), (6, .pure), (7, .read), (8, .eff)]) rfl ?_
    refine Rg.pure rfl rfl rfl (Pv.move rfl) ?_
    refine Rg.pure rfl rfl rfl (Pv.move rfl) ?_
    refine Rg.pure rfl rfl rfl (Pv.move rfl) ?_
    refine Rg.pure rfl rfl rfl (Pv.asI (m - 1) (Pv.sub rfl rfl (by omega)) (by omega)) ?_
    refine Rg.pure rfl rfl rfl (Pv.move rfl) ?_
    refine Rg.pure rfl rfl rfl (Pv.asI (m - 1 - i) (Pv.sub rfl rfl (by omega)) (by omega)) ?_
    refine Rg.pure rfl rfl rfl (Pv.ixA (m - 1 - i) rfl rfl (by omega) (by omega)) ?_
    refine Rg.read rfl rfl rfl (Ev.ldS (m - 1 - i) (ha.src) rfl rfl rfl (by omega)) ?_
    refine Rg.callH rfl rfl rfl (run_callF rfl) (fun F' hF' => push_at F' b20 Y xs[m - 1 - i]! _ hy (by omega)) rfl ?_
    rintro v43 sy' hy'
    refine Rg.nil ?_
    refine Vc.blk ?_
    refine Vc.text (List.range 3) (sd [(0, .pure), (1, .pure), (2, .pure)]) rfl ?_
    refine Rg.pure rfl rfl rfl (Pv.move rfl) ?_
    refine Rg.pure rfl rfl rfl (Pv.asI (i + 1) (Pv.add rfl rfl (by omega)) (by omega)) ?_
    refine Rg.pure rfl rfl rfl (Pv.assign rfl) ?_
    refine Rg.nil ?_
    exact Vc.inv5 (i + 1) (pushL X xs[i]!) (pushL Y xs[m - 1 - i]!) sx' sy' ⟨⟨by omega, push_take h2 (by omega), push_drop h3 (by omega) (by omega), push_ok hX _, push_ok hY _, hx', hy'⟩, by omega⟩ (.cons rfl (.cons rfl (.cons rfl (.cons rfl (.cons rfl (.cons rfl .nil)))))) pulled
  ·
    simp only [decide_eq_false_iff_not] at h26
    refine Vc.exit rfl ?_
    refine Vc.seq ?_
    refine Vc.text (List.range 3) (sd [(0, .pure), (1, .eff), (2, .eff)]) rfl ?_
    refine Rg.pure rfl rfl rfl (Pv.build rfl rfl) ?_
    refine Rg.alloc rfl rfl rfl rfl (fun b8 => ?_)
    refine Rg.storeA rfl rfl rfl rfl rfl rfl rfl rfl ?_
    refine Rg.nil ?_
    refine Vc.seq ?_
    refine Vc.seq ?_
    refine Vc.text (List.range 1) (sd [(0, .pure)]) rfl ?_
    refine Rg.pure rfl rfl rfl (Pv.assign rfl) ?_
    refine Rg.nil ?_
    refine Vc.block ?_
    refine Vc.loop6 (fun (i : Nat) (X Y : List Rc) (p : Rc) (sx sy : Hl) => i ≤ m ∧ X.length = m - i ∧ X.Perm Y ∧ (0 < i → ∀ a ∈ X, ltR a p = false) ∧ HeapOK X ∧ HeapOK Y ∧ HeapAt b18 X sx ∧ HeapAt b20 Y sy) (fun i X Y p sx sy => [(3, .bool true), (4, .pointer (some ⟨b18, 0, none⟩)), (5, .pointer (some ⟨b20, 0, none⟩)), (6, .int .i64 (m : Int)), (8, .pointer (some ⟨b8, 0, none⟩)), (9, .int .i64 (i : Int))]) (fun i X Y p sx sy => (b8, cellsO (recC p) 30) :: (sx ++ sy)) (fun i X Y p sx sy => m - i) 0 X Y ⟨0, 0⟩ sx sy ⟨by omega, by omega, by have e : i = m := (by omega); rw [e] at h2 h3; exact h2.trans (by simpa using h3.symm), fun h => absurd h (by omega), hX, hY, hx, hy⟩ (.cons rfl (.cons rfl (.cons rfl (.cons rfl (.cons rfl (.cons rfl .nil)))))) pulled ?_
    rintro i X Y p sx sy ⟨h1, h2, h3, h4, hX, hY, hx, hy⟩
    have hly := h3.length_eq
    refine Vc.seq ?_
    refine Vc.seq ?_
    refine Vc.text (List.range 3) (sd [(0, .pure), (1, .pure), (2, .pure)]) rfl ?_
    refine Rg.pure rfl rfl rfl (Pv.move rfl) ?_
    refine Rg.pure rfl rfl rfl (Pv.move rfl) ?_
    refine Rg.pure rfl rfl rfl (Pv.lss rfl rfl) ?_
    refine Rg.nil ?_
    refine Vc.cond rfl (fun h47 => ?_) (fun h47 => ?_)
    ·
      simp only [decide_eq_true_eq] at h47
      refine Vc.skip ?_
      refine Vc.seq ?_
      refine Vc.block ?_
      refine Vc.seq ?_
      refine Vc.text (List.range 8) (sd [(0, .pure), (1, .eff), (2, .pure), (3, .pure), (4, .pure), (5, .eff), (6, .eff), (7, .pure)]) rfl ?_
      refine Rg.pure rfl rfl rfl (Pv.move rfl) ?_
      refine Rg.callH rfl rfl rfl (run_callF rfl) (fun F' hF' => pop_hd F' b18 X _ hx (by omega)) rfl ?_
      rintro _ sx' ⟨rfl, hx'⟩
      refine Rg.pure rfl rfl rfl (Pv.move rfl) ?_
      refine Rg.pure rfl rfl rfl (Pv.extract rfl rfl) ?_
      refine Rg.pure rfl rfl rfl (Pv.extract rfl rfl) ?_
      refine Rg.alloc rfl rfl rfl rfl (fun b10 => ?_)
      refine Rg.storeA rfl rfl rfl rfl rfl rfl rfl rfl ?_
      refine Rg.pure rfl rfl rfl (Pv.assign rfl) ?_
      refine Rg.nil ?_
      refine Vc.seq ?_
      refine Vc.text (List.range 8) (sd [(0, .pure), (1, .eff), (2, .pure), (3, .pure), (4, .pure), (5, .eff), (6, .eff), (7, .pure)]) rfl ?_
      refine Rg.pure rfl rfl rfl (Pv.move rfl) ?_
      refine Rg.callH rfl rfl rfl (run_callF rfl) (fun F' hF' => pop_hd F' b20 Y _ hy (by omega)) rfl ?_
      rintro _ sy' ⟨rfl, hy'⟩
      refine Rg.pure rfl rfl rfl (Pv.move rfl) ?_
      refine Rg.pure rfl rfl rfl (Pv.extract rfl rfl) ?_
      refine Rg.pure rfl rfl rfl (Pv.extract rfl rfl) ?_
      refine Rg.alloc rfl rfl rfl rfl (fun b12 => ?_)
      refine Rg.storeA rfl rfl rfl rfl rfl rfl rfl rfl ?_
      refine Rg.pure rfl rfl rfl (Pv.assign rfl) ?_
      refine Rg.nil ?_
      refine Vc.seq ?_
      refine Vc.seq ?_
      refine Vc.text (List.range 20) (sd [(0, .pure), (1, .pure), (2, .pure), (3, .pure), (4, .pure), (5, .pure), (6, .pure), (7, .read), (8, .read), (9, .pure), (10, .pure), (11, .pure), (12, .pure), (13, .pure), (14, .pure), (15, .read), (16, .read), (17, .eff), (18, .pure), (19, .pure)]) rfl ?_
      refine Rg.pure rfl rfl rfl (Pv.move rfl) ?_
      refine Rg.pure rfl rfl rfl (Pv.not rfl) ?_
      refine Rg.pure rfl rfl rfl (Pv.move rfl) ?_
      refine Rg.split (t := 62) rfl (fun h62 => absurd h62 (by rw [decide_eq_true (show 0 < X.length by omega)]; simp)) (fun h62 => ?_)
      refine Rg.pure rfl rfl rfl (Pv.move rfl) ?_
      refine Rg.pure rfl rfl rfl (Pv.not rfl) ?_
      refine Rg.pure rfl rfl rfl (Pv.pickF rfl rfl) ?_
      refine Rg.pure rfl rfl rfl (Pv.move rfl) ?_
      refine Rg.split (t := 66) rfl (fun h66 => absurd h66 (by rw [decide_eq_true (show 0 < Y.length by omega)]; simp)) (fun h66 => ?_)
      refine Rg.read rfl rfl rfl (Ev.ldA rfl rfl) ?_
      refine Rg.read rfl rfl rfl (Ev.ldA rfl rfl) ?_
      refine Rg.pure rfl rfl rfl (Pv.neqE recE _ _ rfl rfl) ?_
      refine Rg.pure rfl rfl rfl (Pv.pickF rfl rfl) ?_
      refine Rg.pure rfl rfl rfl (Pv.move rfl) ?_
      refine Rg.split (t := 71) rfl (fun h71 => absurd h71 (by simp [heads_same hX hY h3])) (fun h71 => ?_)
      refine Rg.pure rfl rfl rfl (Pv.move rfl) ?_
      refine Rg.pure rfl rfl rfl (Pv.gtr rfl rfl) ?_
      refine Rg.pure rfl rfl rfl (Pv.move rfl) ?_
      refine Rg.split (t := 74) rfl (fun h74 => ?_) (fun h74 => ?_)
      ·
        simp only [decide_eq_true_eq] at h74
        refine Rg.read rfl rfl rfl (Ev.ldA rfl rfl) ?_
        refine Rg.read rfl rfl rfl (Ev.ldA rfl rfl) ?_
        refine Rg.callP rfl rfl rfl (run_callF rfl) (less_spec (hd X) p _) ?_
        rintro _ rfl
        refine Rg.pure rfl rfl rfl (Pv.pickT rfl rfl) ?_
        refine Rg.pure rfl rfl rfl (Pv.pickF rfl rfl) ?_
        refine Rg.nil ?_
        refine Vc.cond rfl (fun h79 => absurd h79 (by rw [hd_get (by omega), h4 (by omega) _ (by rw [getElem!_pos X 0 (by omega)]; exact List.getElem_mem _)]; simp)) (fun h79 => ?_)
        refine Vc.skip ?_
        refine Vc.text (List.range 2) (sd [(0, .read), (1, .eff)]) rfl ?_
        refine Rg.read rfl rfl rfl (Ev.ldA rfl rfl) ?_
        refine Rg.storeA rfl rfl rfl rfl rfl rfl rfl rfl ?_
        refine Rg.nil ?_
        refine Vc.blk ?_
        refine Vc.text (List.range 3) (sd [(0, .pure), (1, .pure), (2, .pure)]) rfl ?_
        refine Rg.pure rfl rfl rfl (Pv.move rfl) ?_
        refine Rg.pure rfl rfl rfl (Pv.asI (i + 1) (Pv.add rfl rfl (by omega)) (by omega)) ?_
        refine Rg.pure rfl rfl rfl (Pv.assign rfl) ?_
        refine Rg.nil ?_
        exact Vc.inv6 (i + 1) (popL X) (popL Y) (hd X) sx' sy' ⟨⟨by omega, by rw [popL_length]; omega, pops_perm hX hY h3, fun _ a ha => hd_least hX (mem_pop ha), pop_ok hX, pop_ok hY, hx', hy'⟩, by omega⟩ (.cons rfl (.cons rfl (.cons rfl (.cons rfl (.cons rfl (.cons rfl .nil)))))) pulled
      ·
        iterate 3 (first | refine Rg.skipP rfl rfl rfl ?_ | refine Rg.skipR rfl rfl rfl ?_ | refine Rg.skipE rfl rfl rfl ?_)
        refine Rg.pure rfl rfl rfl (Pv.pickF rfl rfl) ?_
        refine Rg.pure rfl rfl rfl (Pv.pickF rfl rfl) ?_
        refine Rg.nil ?_
        refine Vc.condF rfl ?_
        refine Vc.skip ?_
        refine Vc.text (List.range 2) (sd [(0, .read), (1, .eff)]) rfl ?_
        refine Rg.read rfl rfl rfl (Ev.ldA rfl rfl) ?_
        refine Rg.storeA rfl rfl rfl rfl rfl rfl rfl rfl ?_
        refine Rg.nil ?_
        refine Vc.blk ?_
        refine Vc.text (List.range 3) (sd [(0, .pure), (1, .pure), (2, .pure)]) rfl ?_
        refine Rg.pure rfl rfl rfl (Pv.move rfl) ?_
        refine Rg.pure rfl rfl rfl (Pv.asI (i + 1) (Pv.add rfl rfl (by omega)) (by omega)) ?_
        refine Rg.pure rfl rfl rfl (Pv.assign rfl) ?_
        refine Rg.nil ?_
        exact Vc.inv6 (i + 1) (popL X) (popL Y) (hd X) sx' sy' ⟨⟨by omega, by rw [popL_length]; omega, pops_perm hX hY h3, fun _ a ha => hd_least hX (mem_pop ha), pop_ok hX, pop_ok hY, hx', hy'⟩, by omega⟩ (.cons rfl (.cons rfl (.cons rfl (.cons rfl (.cons rfl (.cons rfl .nil)))))) pulled
    ·
      simp only [decide_eq_false_iff_not] at h47
      refine Vc.exit rfl ?_
      refine Vc.seq ?_
      refine Vc.text (List.range 8) (sd [(0, .pure), (1, .eff), (2, .pure), (3, .pure), (4, .pure), (5, .eff), (6, .eff), (7, .pure)]) rfl ?_
      refine Rg.pure rfl rfl rfl (Pv.move rfl) ?_
      refine Rg.callH rfl rfl rfl (run_callF rfl) (fun F' hF' => pop_hd F' b18 X _ hx (by omega)) rfl ?_
      rintro _ sx' ⟨rfl, hx'⟩
      refine Rg.pure rfl rfl rfl (Pv.move rfl) ?_
      refine Rg.pure rfl rfl rfl (Pv.extract rfl rfl) ?_
      refine Rg.pure rfl rfl rfl (Pv.extract rfl rfl) ?_
      refine Rg.alloc rfl rfl rfl rfl (fun b14 => ?_)
      refine Rg.storeA rfl rfl rfl rfl rfl rfl rfl rfl ?_
      refine Rg.pure rfl rfl rfl (Pv.assign rfl) ?_
      refine Rg.nil ?_
      refine Vc.seq ?_
      refine Vc.text (List.range 6) (sd [(0, .pure), (1, .pure), (2, .pure), (3, .pure), (4, .pure), (5, .pure)]) rfl ?_
      refine Rg.pure rfl rfl rfl (Pv.move rfl) ?_
      refine Rg.pure rfl rfl rfl (Pv.move rfl) ?_
      refine Rg.split (t := 87) rfl (fun h87 => ?_) (fun h87 => absurd h87 (by simp))
      refine Rg.pure rfl rfl rfl (Pv.move rfl) ?_
      refine Rg.pure rfl rfl rfl (Pv.not rfl) ?_
      refine Rg.pure rfl rfl rfl (Pv.pickT rfl rfl) ?_
      refine Rg.pure rfl rfl rfl (Pv.assign rfl) ?_
      refine Rg.nil ?_
      refine Vc.ret (Vc.rets rfl (.cons (.tmp rfl) (.nil)) ?_)
      exact congrArg Value.bool (by rw [decide_eq_false (show ¬ 0 < X.length by omega)]; rfl)
end Go.Proofs.Ytbhgbhhdpcehbaa
