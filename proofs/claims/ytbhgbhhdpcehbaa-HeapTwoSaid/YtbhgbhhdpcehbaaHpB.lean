/- Records put in a row that rises, rows sorted so; heaps as they stand among a caller's blocks; what the statements show first. -/
import Derived.Test.YtbhgbhhdpcehbaaHpA
import Derived.Laws.StructEq
namespace Go.Proofs.Ytbhgbhhdpcehbaa
set_option linter.unusedVariables false

theorem eq_rec (x y : Rc) (w : World) : (Op.equal 30 (recV x) (recV y)).run Try.prog w = .ok (decide (x = y)) w := by
  have h1 : ∀ d a b w, (Op.equalIn (d + 1) 28 (.int .u64 a) (.int .u64 b)).run Try.prog w = .ok (a == b) w := fun d a b w => by
    simp [Op.equalIn]
  have key : ∀ d, (Op.equalIn (d + 2) 30 (recV x) (recV y)).run Try.prog w = .ok (decide (x = y)) w := fun d => by
    rw [run_equalIn_struct w (d + 1) 30 _ _ (by kernel_rfl) Try.stoodInHeld30]
    have hf : (Try.prog.fieldsOf 30).toList = [⟨ "Key", 28, 0, false, "", "", 0⟩, ⟨ "Val", 28, 1, false, "", "", 8⟩] := by kernel_rfl
    rw [hf]
    simp [Op.eqFields, part, h1]
    cases x; cases y
    simp only [Rc.mk.injEq]
    split <;> simp_all
    split <;> simp_all
  exact key 9998
instance : TyEqE Try.prog 30 recE := ⟨fun x => ⟨_, rfl⟩, Try.eqGuardType30, eq_rec⟩

theorem put_spec (F : Fm) (v : Value) (xs : List Rc) (r : Rc) (ha : Arg recE F v xs) (hn : xs.length < 4294967296) :
    Spec Try.prog 11 #[v, recV r] F [] fun v' hl' => Own recE v' (putL xs r) hl' := by
  refine Spec.of (n := 42) (vs := [v, recV r]) Try.func11 rfl Try.ntmps11 rfl ?_
  have hlen : (xs ++ [r]).length = xs.length + 1 := by simp
  refine Vc.seq ?_
  refine Vc.text (List.range 2) (sd [(0, .eff), (1, .pure)]) rfl ?_
  refine Rg.box rfl rfl rfl rfl rfl (fun b3 => ?_)
  refine Rg.pure rfl rfl rfl (Pv.assign rfl) ?_
  refine Rg.nil ?_
  refine Vc.seq ?_
  refine Vc.cut2 (fun (v : Value) (s : Hl) => Own recE v (xs ++ [r]) s) (fun v s => [(3, .pointer (some ⟨b3, 0, none⟩)), (5, v)]) (fun v s => (b3, cellsO (recC r) 30) :: s) ?_ ?_
  ·
    refine Vc.drawS [5] (.st 1 .pure (.st 3 .read (.two 0 (.two 2 (sd [(4, .eff), (5, .eff), (6, .pure)]) 4 (sd [(2, .eff), (5, .eff), (6, .pure)])) 4 (sd [(0, .eff), (2, .eff), (5, .eff), (6, .pure)])))) [(b3, cellsO (recC r) 30)] pulled mixed (by kernel_rfl) ?_
    refine Rg.pure rfl rfl rfl (Pv.move rfl) ?_
    refine Rg.read rfl rfl rfl (Ev.ldA rfl rfl) ?_
    refine Rg.two ?_ ?_
    ·
      refine Rg.bslice0N (E := recE) rfl rfl rfl (fun b7 own7 => ?_)
      refine Rg.two ?_ ?_
      ·
        refine Rg.appendN rfl rfl rfl rfl rfl own7 ha.src (by simp; omega) (by simp [maxLen]; omega) (fun v9 s9 own9 => ?_)
        refine Rg.bslice1N rfl rfl rfl rfl rfl rfl rfl (fun b11 => ?_)
        refine Rg.append rfl rfl rfl rfl rfl own9 (Src.one (y := r) rfl) (by simp; omega) (by simp [maxLen]; omega) rfl (fun v12 s12 own12 => ?_)
        refine Rg.pure rfl rfl rfl (Pv.assign rfl) ?_
        refine Rg.nil ?_
        exact Vc.inv2 v12 s12 (by simpa using own12) (.cons rfl (.cons rfl .nil)) pulled
      ·
        refine Rg.bslice1N rfl rfl rfl rfl rfl rfl rfl (fun b11 => ?_)
        refine Rg.appendN rfl rfl rfl rfl rfl own7 ha.src (by simp; omega) (by simp [maxLen]; omega) (fun v9 s9 own9 => ?_)
        refine Rg.append rfl rfl rfl rfl rfl own9 (Src.one (y := r) rfl) (by simp; omega) (by simp [maxLen]; omega) rfl (fun v12 s12 own12 => ?_)
        refine Rg.pure rfl rfl rfl (Pv.assign rfl) ?_
        refine Rg.nil ?_
        exact Vc.inv2 v12 s12 (by simpa using own12) (.cons rfl (.cons rfl .nil)) pulled
    ·
      refine Rg.bslice1N rfl rfl rfl rfl rfl rfl rfl (fun b11 => ?_)
      refine Rg.bslice0N (E := recE) rfl rfl rfl (fun b7 own7 => ?_)
      refine Rg.appendN rfl rfl rfl rfl rfl own7 ha.src (by simp; omega) (by simp [maxLen]; omega) (fun v9 s9 own9 => ?_)
      refine Rg.append rfl rfl rfl rfl rfl own9 (Src.one (y := r) rfl) (by simp; omega) (by simp [maxLen]; omega) rfl (fun v12 s12 own12 => ?_)
      refine Rg.pure rfl rfl rfl (Pv.assign rfl) ?_
      refine Rg.nil ?_
      exact Vc.inv2 v12 s12 (by simpa using own12) (.cons rfl (.cons rfl .nil)) pulled
  ·
    rintro v s own
    obtain ⟨b, cap, sp, rfl, rfl, hc, hm⟩ := own.block (by simp)
    refine Vc.seq ?_
    refine Vc.text (List.range 4) (sd [(0, .pure), (1, .pure), (2, .pure), (3, .pure)]) rfl ?_
    refine Rg.pure rfl rfl rfl (Pv.move rfl) ?_
    refine Rg.pure rfl rfl rfl (Pv.lenS rfl) ?_
    refine Rg.pure rfl rfl rfl (Pv.asI (xs.length) (Pv.sub rfl rfl (by omega)) (by omega)) ?_
    refine Rg.pure rfl rfl rfl (Pv.assign rfl) ?_
    refine Rg.nil ?_
    refine Vc.seq ?_
    refine Vc.block ?_
    refine Vc.loop2 (fun (k : Nat) (ys : List Rc) => k < ys.length ∧ ys.length = (xs ++ [r]).length ∧ putDown r ys k = putL xs r) (fun k ys => [(3, .pointer (some ⟨b3, 0, none⟩)), (5, .slice (some ⟨b, 0, none⟩) (xs ++ [r]).length cap), (6, .int .i64 (k : Int))]) (fun k ys => [(b, rowS recE ys sp), (b3, cellsO (recC r) 30)]) (fun k ys => k) xs.length (xs ++ [r]) ⟨by simp, rfl, rfl⟩ (.cons rfl (.cons rfl (.cons rfl .nil))) pulled ?_
    rintro k ys ⟨h1, h2, h3⟩
    refine Vc.seq ?_
    refine Vc.seq ?_
    refine Vc.draw [] (sd [(0, .pure), (1, .pure), (2, .pure), (3, .read), (4, .pure), (5, .pure), (6, .pure), (7, .pure), (8, .read), (9, .eff), (10, .pure)]) mixed (by kernel_rfl) ?_
    refine Rg.pure rfl rfl rfl (Pv.move rfl) ?_
    refine Rg.pure rfl rfl rfl (Pv.gtr rfl rfl) ?_
    refine Rg.pure rfl rfl rfl (Pv.move rfl) ?_
    refine Rg.split (t := 18) rfl (fun h18 => ?_) (fun h18 => ?_)
    ·
      simp only [decide_eq_true_eq] at h18
      refine Rg.read rfl rfl rfl (Ev.ldA rfl rfl) ?_
      refine Rg.pure rfl rfl rfl (Pv.move rfl) ?_
      refine Rg.pure rfl rfl rfl (Pv.move rfl) ?_
      refine Rg.pure rfl rfl rfl (Pv.asI (k - 1) (Pv.sub rfl rfl (by omega)) (by omega)) ?_
      refine Rg.pure rfl rfl rfl (Pv.ixA (k - 1) rfl rfl (by omega) (by omega)) ?_
      refine Rg.read rfl rfl rfl (Ev.ldR (k - 1) rfl (Nat.zero_add _) (by omega)) ?_
      refine Rg.callP rfl rfl rfl (run_callF rfl) (less_spec _ _ _) ?_
      rintro _ rfl
      refine Rg.pure rfl rfl rfl (Pv.pickT rfl rfl) ?_
      refine Rg.nil ?_
      refine Vc.cond rfl (fun h26 => ?_) (fun h26 => ?_)
      ·
        refine Vc.skip ?_
        refine Vc.block ?_
        refine Vc.seq ?_
        refine Vc.text (List.range 9) (sd [(0, .pure), (1, .pure), (2, .pure), (3, .pure), (4, .pure), (5, .pure), (6, .read), (7, .pure), (8, .eff)]) rfl ?_
        refine Rg.pure rfl rfl rfl (Pv.move rfl) ?_
        refine Rg.pure rfl rfl rfl (Pv.move rfl) ?_
        refine Rg.pure rfl rfl rfl (Pv.move rfl) ?_
        refine Rg.pure rfl rfl rfl (Pv.move rfl) ?_
        refine Rg.pure rfl rfl rfl (Pv.asI (k - 1) (Pv.sub rfl rfl (by omega)) (by omega)) ?_
        refine Rg.pure rfl rfl rfl (Pv.ixA (k - 1) rfl rfl (by omega) (by omega)) ?_
        refine Rg.read rfl rfl rfl (Ev.ldR (k - 1) rfl (Nat.zero_add _) (by omega)) ?_
        refine Rg.pure rfl rfl rfl (Pv.ixA (k) rfl rfl (by omega) (by omega)) ?_
        refine Rg.storeR (k) rfl rfl rfl rfl rfl rfl (Nat.zero_add _) (by omega) rfl ?_
        refine Rg.nil ?_
        refine Vc.text (List.range 3) (sd [(0, .pure), (1, .pure), (2, .pure)]) rfl ?_
        refine Rg.pure rfl rfl rfl (Pv.move rfl) ?_
        refine Rg.pure rfl rfl rfl (Pv.asI (k - 1) (Pv.sub rfl rfl (by omega)) (by omega)) ?_
        refine Rg.pure rfl rfl rfl (Pv.assign rfl) ?_
        refine Rg.nil ?_
        refine Vc.blk ?_
        exact Vc.inv2 (k - 1) (ys.set k ys[k - 1]!) ⟨⟨by simp; omega, by simp only [List.length_set]; exact h2, by rw [← h3, putDown_go (by omega) h26]⟩, by omega⟩ (.cons rfl (.cons rfl (.cons rfl .nil))) pulled
      ·
        refine Vc.exit rfl ?_
        refine Vc.seq ?_
        refine Vc.text (List.range 5) (sd [(0, .pure), (1, .pure), (2, .read), (3, .pure), (4, .eff)]) rfl ?_
        refine Rg.pure rfl rfl rfl (Pv.move rfl) ?_
        refine Rg.pure rfl rfl rfl (Pv.move rfl) ?_
        refine Rg.read rfl rfl rfl (Ev.ldA rfl rfl) ?_
        refine Rg.pure rfl rfl rfl (Pv.ixA (k) rfl rfl (by omega) (by omega)) ?_
        refine Rg.storeR (k) rfl rfl rfl rfl rfl rfl (Nat.zero_add _) (by omega) rfl ?_
        refine Rg.nil ?_
        refine Vc.seq ?_
        refine Vc.text (List.range 2) (sd [(0, .pure), (1, .pure)]) rfl ?_
        refine Rg.pure rfl rfl rfl (Pv.move rfl) ?_
        refine Rg.pure rfl rfl rfl (Pv.assign rfl) ?_
        refine Rg.nil ?_
        exact Vc.ret (Vc.retsH rfl (.cons (.tmp rfl) (.nil)) ((show Own recE _ _ _ from by rw [← h3, putDown_stop (fun hh => by rw [h26] at hh; cases hh.2)]; exact Own.blk' b cap _ _ sp (by rw [List.length_set, h2]) hc hm)) pulled)
    ·
      simp only [decide_eq_false_iff_not] at h18
      iterate 7 (first | refine Rg.skipP rfl rfl rfl ?_ | refine Rg.skipR rfl rfl rfl ?_ | refine Rg.skipE rfl rfl rfl ?_)
      refine Rg.pure rfl rfl rfl (Pv.pickF rfl rfl) ?_
      refine Rg.nil ?_
      refine Vc.condF rfl ?_
      refine Vc.exit rfl ?_
      refine Vc.seq ?_
      refine Vc.text (List.range 5) (sd [(0, .pure), (1, .pure), (2, .read), (3, .pure), (4, .eff)]) rfl ?_
      refine Rg.pure rfl rfl rfl (Pv.move rfl) ?_
      refine Rg.pure rfl rfl rfl (Pv.move rfl) ?_
      refine Rg.read rfl rfl rfl (Ev.ldA rfl rfl) ?_
      refine Rg.pure rfl rfl rfl (Pv.ixA (k) rfl rfl (by omega) (by omega)) ?_
      refine Rg.storeR (k) rfl rfl rfl rfl rfl rfl (Nat.zero_add _) (by omega) rfl ?_
      refine Rg.nil ?_
      refine Vc.seq ?_
      refine Vc.text (List.range 2) (sd [(0, .pure), (1, .pure)]) rfl ?_
      refine Rg.pure rfl rfl rfl (Pv.move rfl) ?_
      refine Rg.pure rfl rfl rfl (Pv.assign rfl) ?_
      refine Rg.nil ?_
      exact Vc.ret (Vc.retsH rfl (.cons (.tmp rfl) (.nil)) ((show Own recE _ _ _ from by rw [← h3, putDown_stop (fun hh => by omega)]; exact Own.blk' b cap _ _ sp (by rw [List.length_set, h2]) hc hm)) pulled)

theorem putL_length (xs : List Rc) (r : Rc) : (putL xs r).length = xs.length + 1 := by rw [putL, putDown_length]; simp
theorem foldl_length : ∀ (l acc : List Rc), (l.foldl putL acc).length = acc.length + l.length
  | [], acc => by simp
  | x :: l, acc => by rw [List.foldl_cons, foldl_length l, putL_length, List.length_cons]; omega
theorem sortL_length (l : List Rc) : (sortL l).length = l.length := by rw [sortL, foldl_length]; simp
theorem sortL_snoc (l : List Rc) (i : Nat) (h : i < l.length) : sortL (l.take (i + 1)) = putL (sortL (l.take i)) l[i]! := by
  rw [List.take_succ_eq_append_getElem h, sortL, List.foldl_append, getElem!_pos l i h]; rfl

theorem sort_spec (F : Fm) (v : Value) (xs : List Rc) (ha : Arg recE F v xs) (hn : xs.length < 4294967296) :
    Spec Try.prog 15 #[v] F [] fun v' hl' => Own recE v' (sortL xs) hl' := by
  obtain ⟨p, c, rfl⟩ := ha.shape
  refine Spec.of (n := 19) (vs := [.slice p xs.length c]) Try.func15 rfl Try.ntmps15 rfl ?_
  refine Vc.seq ?_
  refine Vc.text (List.range 1) (sd [(0, .pure)]) rfl ?_
  refine Rg.pure rfl rfl rfl (Pv.assign rfl) ?_
  refine Rg.nil ?_
  refine Vc.seq ?_
  refine Vc.text (List.range 2) (sd [(0, .eff), (1, .pure)]) rfl ?_
  refine Rg.bslice0 (E := recE) rfl rfl rfl (fun b5 own5 => ?_)
  refine Rg.pure rfl rfl rfl (Pv.assign rfl) ?_
  refine Rg.nil ?_
  refine Vc.seq ?_
  refine Vc.seq ?_
  refine Vc.text (List.range 1) (sd [(0, .pure)]) rfl ?_
  refine Rg.pure rfl rfl rfl (Pv.assign rfl) ?_
  refine Rg.nil ?_
  refine Vc.block ?_
  refine Vc.loop3 (fun (i : Nat) (v : Value) (s : Hl) => i ≤ xs.length ∧ Own recE v (sortL (xs.take i)) s) (fun i v s => [(0, .slice p xs.length c), (3, v), (4, .int .i64 (i : Int))]) (fun i v s => s) (fun i v s => xs.length - i) 0 _ [(b5, rowS recE [] [])] ⟨by omega, by simpa [sortL] using own5⟩ (.cons rfl (.cons rfl (.cons rfl .nil))) pulled ?_
  rintro i v s ⟨h1, own⟩
  refine Vc.seq ?_
  refine Vc.seq ?_
  refine Vc.text (List.range 4) (sd [(0, .pure), (1, .pure), (2, .pure), (3, .pure)]) rfl ?_
  refine Rg.pure rfl rfl rfl (Pv.move rfl) ?_
  refine Rg.pure rfl rfl rfl (Pv.move rfl) ?_
  refine Rg.pure rfl rfl rfl (Pv.lenS rfl) ?_
  refine Rg.pure rfl rfl rfl (Pv.lss rfl rfl) ?_
  refine Rg.nil ?_
  refine Vc.cond rfl (fun h9 => ?_) (fun h9 => ?_)
  ·
    simp only [decide_eq_true_eq] at h9
    obtain ⟨b, off, c', e, hcap⟩ := ha.block (by omega)
    cases e
    refine Vc.skip ?_
    refine Vc.seq ?_
    refine Vc.block ?_
    refine Vc.text (List.range 7) (sd [(0, .pure), (1, .pure), (2, .pure), (3, .pure), (4, .read), (5, .eff), (6, .pure)]) rfl ?_
    refine Rg.pure rfl rfl rfl (Pv.move rfl) ?_
    refine Rg.pure rfl rfl rfl (Pv.move rfl) ?_
    refine Rg.pure rfl rfl rfl (Pv.move rfl) ?_
    refine Rg.pure rfl rfl rfl (Pv.ixA (i) rfl rfl (by omega) (by omega)) ?_
    refine Rg.read rfl rfl rfl (Ev.ldS (i) (ha.src) rfl rfl rfl (by omega)) ?_
    refine Rg.callH rfl rfl rfl (run_callF rfl) (fun F' hF' => put_spec F' v (sortL (xs.take i)) xs[i]! (Arg.of_own own hF') (by rw [sortL_length]; simp; omega)) rfl ?_
    rintro v17 s17 own17
    refine Rg.pure rfl rfl rfl (Pv.assign rfl) ?_
    refine Rg.nil ?_
    refine Vc.blk ?_
    refine Vc.text (List.range 3) (sd [(0, .pure), (1, .pure), (2, .pure)]) rfl ?_
    refine Rg.pure rfl rfl rfl (Pv.move rfl) ?_
    refine Rg.pure rfl rfl rfl (Pv.add rfl rfl (by omega)) ?_
    refine Rg.pure rfl rfl rfl (Pv.assign rfl) ?_
    refine Rg.nil ?_
    exact Vc.inv3 (i + 1) v17 s17 ⟨⟨by omega, by rw [sortL_snoc xs i (by omega)]; exact own17⟩, by omega⟩ (.cons rfl (.cons rfl (.cons rfl .nil))) pulled
  ·
    simp only [decide_eq_false_iff_not] at h9
    refine Vc.exit rfl ?_
    refine Vc.seq ?_
    refine Vc.text (List.range 2) (sd [(0, .pure), (1, .pure)]) rfl ?_
    refine Rg.pure rfl rfl rfl (Pv.move rfl) ?_
    refine Rg.pure rfl rfl rfl (Pv.assign rfl) ?_
    refine Rg.nil ?_
    exact Vc.ret (Vc.retsH rfl (.cons (.tmp rfl) (.nil)) ((show Own recE _ _ _ from by rwa [List.take_of_length_le (by omega)] at own)) pulled)

/-! ### Heaps among a caller's blocks -/
theorem len_at {F : Fm} {hb : Nat} {xs : List Rc} {s : Hl} (hh : HeapAt hb xs s) (hF : ∀ b o, (b, o) ∈ s → F.at_ b o) :
    Spec Try.prog 13 #[.pointer (some ⟨hb, 0, none⟩)] F [] fun v _ => v = .int .i64 (xs.length : Int) := by
  obtain ⟨v, seg, own, rfl⟩ := hh
  obtain ⟨p, cap, rfl⟩ := own.shape
  have : Fat F hb (cellsO [.slice p xs.length cap] 27) := ⟨hF _ _ List.mem_cons_self⟩
  exact len_spec F hb p xs.length cap
theorem peek_at {F : Fm} {hb : Nat} {xs : List Rc} {s : Hl} (hh : HeapAt hb xs s) (hF : ∀ b o, (b, o) ∈ s → F.at_ b o) :
    Spec Try.prog 12 #[.pointer (some ⟨hb, 0, none⟩)] F [] fun v _ => v = peekV xs := by
  obtain ⟨v, seg, own, rfl⟩ := hh
  cases xs with
  | nil =>
    obtain ⟨p, cap, rfl⟩ := own.shape
    have : Fat F hb (cellsO [.slice p 0 cap] 27) := ⟨hF _ _ List.mem_cons_self⟩
    exact peek_nil F hb p cap
  | cons x l =>
    obtain ⟨b, cap, sp, rfl, rfl, _, _⟩ := own.block (by simp)
    have : Fat F hb (cellsO [.slice (some ⟨b, 0, none⟩) (x :: l).length cap] 27) := ⟨hF _ _ List.mem_cons_self⟩
    have : Fat F b (rowS recE (x :: l) sp) := ⟨hF _ _ (List.mem_cons_of_mem _ List.mem_cons_self)⟩
    exact (peek_cons F hb b cap (x :: l) sp (by simp)).mono fun v _ h => h
theorem pop_at (F : Fm) (hb : Nat) (xs : List Rc) (hl : Hl) (hh : HeapAt hb xs hl) (hn : xs.length < 4294967296) :
    Spec Try.prog 9 #[.pointer (some ⟨hb, 0, none⟩)] F hl fun v hl' => v = peekV xs ∧ HeapAt hb (popL xs) hl' := by
  cases xs with
  | nil => exact pop_nil F hb hl hh
  | cons x l => exact pop_cons F hb _ hl hh (by simp) hn
end Go.Proofs.Ytbhgbhhdpcehbaa
