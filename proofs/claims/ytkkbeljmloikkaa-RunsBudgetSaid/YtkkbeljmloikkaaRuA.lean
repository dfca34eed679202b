/- Records: their order, the document's Put, Sort, Same. -/
import Derived.Test.YtkkbeljmloikkaaSlP
import Derived.Test.YtkkbeljmloikkaaSlF
import Derived.Test.YtkkbeljmloikkaaSlTy
import Derived.Test.YtkkbeljmloikkaaHpP
import Derived.Laws.StructEq
namespace Go.Proofs.Ytkkbeljmloikkaa
set_option linter.unusedVariables false

theorem mixed : Try.prog.follows .mixedOrders = true := by kernel_rfl

abbrev recV (r : Rc) : Value := .agg #[.int .u64 r.key, .int .u64 r.val]
abbrev recC (r : Rc) : List Value := [.int .u64 r.key, .int .u64 r.val]
def recE : Enc Rc where
  k := 2
  tid := 44
  cells := recC
  val := recV
  pos := by decide
  len := fun _ => rfl
  one := fun x v hv => by simp [recC] at hv; rcases hv with rfl | rfl <;> rfl
  vc := fun _ => rfl
instance : RowTy Try.prog recE 44 := ⟨Try.sizeOf44, .inl ⟨Try.isAgg44, fun _ => rfl⟩⟩
instance : TySl Try.prog 22 recE 16 := ⟨Try.underlying22, Try.t44, _, Try.type44, rfl, rfl, rfl, rfl⟩

theorem before_spec (a b : Rc) (F : Fm) : Spec Try.prog 38 #[recV a, recV b] F [] fun v _ => v = .bool (ltR a b) := by
  refine Spec.of (n := 24) (vs := [recV a, recV b]) Try.func38 rfl Try.ntmps38 rfl ?_
  refine Vc.seq ?_
  refine Vc.text (List.range 3) (sd [(0, .eff), (1, .eff), (2, .pure)]) rfl ?_
  refine Rg.box rfl rfl rfl rfl rfl (fun b2 => ?_)
  refine Rg.box rfl rfl rfl rfl rfl (fun b3 => ?_)
  refine Rg.pure rfl rfl rfl (Pv.assign rfl) ?_
  refine Rg.nil ?_
  refine Vc.seq ?_
  refine Vc.text (List.range 20) (sd [(0, .pure), (1, .read), (2, .pure), (3, .read), (4, .pure), (5, .pure), (6, .pure), (7, .read), (8, .pure), (9, .read), (10, .pure), (11, .pure), (12, .pure), (13, .read), (14, .pure), (15, .read), (16, .pure), (17, .pure), (18, .pure), (19, .pure)]) rfl ?_
  refine Rg.pure rfl rfl rfl (Pv.fa rfl) ?_
  refine Rg.read rfl rfl rfl (Ev.ld rfl rfl) ?_
  refine Rg.pure rfl rfl rfl (Pv.fa rfl) ?_
  refine Rg.read rfl rfl rfl (Ev.ld rfl rfl) ?_
  refine Rg.pure rfl rfl rfl (Pv.lss rfl rfl) ?_
  refine Rg.pure rfl rfl rfl (Pv.move rfl) ?_
  refine Rg.split (t := 10) rfl (fun h10 => ?_) (fun h10 => ?_)
  ·
    iterate 12 (first | refine Rg.skipP rfl rfl rfl ?_ | refine Rg.skipR rfl rfl rfl ?_ | refine Rg.skipE rfl rfl rfl ?_)
    refine Rg.pure rfl rfl rfl (Pv.pickT rfl rfl) ?_
    refine Rg.pure rfl rfl rfl (Pv.assign rfl) ?_
    refine Rg.nil ?_
    refine Vc.ret (Vc.rets rfl (.cons (.tmp rfl) (.nil)) ?_)
    exact congrArg Value.bool (by simp [ltR, *])
  ·
    refine Rg.pure rfl rfl rfl (Pv.fa rfl) ?_
    refine Rg.read rfl rfl rfl (Ev.ld rfl rfl) ?_
    refine Rg.pure rfl rfl rfl (Pv.fa rfl) ?_
    refine Rg.read rfl rfl rfl (Ev.ld rfl rfl) ?_
    refine Rg.pure rfl rfl rfl (Pv.eql rfl rfl) ?_
    refine Rg.pure rfl rfl rfl (Pv.move rfl) ?_
    refine Rg.split (t := 16) rfl (fun h16 => ?_) (fun h16 => ?_)
    ·
      refine Rg.pure rfl rfl rfl (Pv.fa rfl) ?_
      refine Rg.read rfl rfl rfl (Ev.ld rfl rfl) ?_
      refine Rg.pure rfl rfl rfl (Pv.fa rfl) ?_
      refine Rg.read rfl rfl rfl (Ev.ld rfl rfl) ?_
      refine Rg.pure rfl rfl rfl (Pv.lss rfl rfl) ?_
      refine Rg.pure rfl rfl rfl (Pv.pickT rfl rfl) ?_
      refine Rg.pure rfl rfl rfl (Pv.pickF rfl rfl) ?_
      refine Rg.pure rfl rfl rfl (Pv.assign rfl) ?_
      refine Rg.nil ?_
      refine Vc.ret (Vc.rets rfl (.cons (.tmp rfl) (.nil)) ?_)
      exact congrArg Value.bool (by simp [ltR, *])
    ·
      iterate 5 (first | refine Rg.skipP rfl rfl rfl ?_ | refine Rg.skipR rfl rfl rfl ?_ | refine Rg.skipE rfl rfl rfl ?_)
      refine Rg.pure rfl rfl rfl (Pv.pickF rfl rfl) ?_
      refine Rg.pure rfl rfl rfl (Pv.pickF rfl rfl) ?_
      refine Rg.pure rfl rfl rfl (Pv.assign rfl) ?_
      refine Rg.nil ?_
      refine Vc.ret (Vc.rets rfl (.cons (.tmp rfl) (.nil)) ?_)
      exact congrArg Value.bool (by simp [ltR, *])

theorem less_spec (a b : Rc) (F : Fm) : Spec Try.prog 22 #[recV a, recV b] F [] fun v _ => v = .bool (ltR a b) := by
  refine Spec.of (n := 20) (vs := [recV a, recV b]) Try.func22 rfl Try.ntmps22 rfl ?_
  refine Vc.seq ?_
  refine Vc.text (List.range 3) (sd [(0, .eff), (1, .eff), (2, .pure)]) rfl ?_
  refine Rg.box rfl rfl rfl rfl rfl (fun b2 => ?_)
  refine Rg.box rfl rfl rfl rfl rfl (fun b3 => ?_)
  refine Rg.pure rfl rfl rfl (Pv.assign rfl) ?_
  refine Rg.nil ?_
  refine Vc.seq ?_
  refine Vc.seq ?_
  refine Vc.text (List.range 5) (sd [(0, .pure), (1, .read), (2, .pure), (3, .read), (4, .pure)]) rfl ?_
  refine Rg.pure rfl rfl rfl (Pv.fa rfl) ?_
  refine Rg.read rfl rfl rfl (Ev.ld rfl rfl) ?_
  refine Rg.pure rfl rfl rfl (Pv.fa rfl) ?_
  refine Rg.read rfl rfl rfl (Ev.ld rfl rfl) ?_
  refine Rg.pure rfl rfl rfl (Pv.neq rfl rfl) ?_
  refine Rg.nil ?_
  refine Vc.cond rfl (fun h9 => ?_) (fun h9 => ?_)
  ·
    simp only [bne_iff_ne, ne_eq] at h9
    refine Vc.seq ?_
    refine Vc.text (List.range 6) (sd [(0, .pure), (1, .read), (2, .pure), (3, .read), (4, .pure), (5, .pure)]) rfl ?_
    refine Rg.pure rfl rfl rfl (Pv.fa rfl) ?_
    refine Rg.read rfl rfl rfl (Ev.ld rfl rfl) ?_
    refine Rg.pure rfl rfl rfl (Pv.fa rfl) ?_
    refine Rg.read rfl rfl rfl (Ev.ld rfl rfl) ?_
    refine Rg.pure rfl rfl rfl (Pv.lss rfl rfl) ?_
    refine Rg.pure rfl rfl rfl (Pv.assign rfl) ?_
    refine Rg.nil ?_
    refine Vc.ret (Vc.rets rfl (.cons (.tmp rfl) (.nil)) ?_)
    exact congrArg Value.bool (by simp [ltR, h9])
  ·
    simp only [bne_eq_false_iff_eq] at h9
    refine Vc.skip ?_
    refine Vc.seq ?_
    refine Vc.text (List.range 6) (sd [(0, .pure), (1, .read), (2, .pure), (3, .read), (4, .pure), (5, .pure)]) rfl ?_
    refine Rg.pure rfl rfl rfl (Pv.fa rfl) ?_
    refine Rg.read rfl rfl rfl (Ev.ld rfl rfl) ?_
    refine Rg.pure rfl rfl rfl (Pv.fa rfl) ?_
    refine Rg.read rfl rfl rfl (Ev.ld rfl rfl) ?_
    refine Rg.pure rfl rfl rfl (Pv.lss rfl rfl) ?_
    refine Rg.pure rfl rfl rfl (Pv.assign rfl) ?_
    refine Rg.nil ?_
    refine Vc.ret (Vc.rets rfl (.cons (.tmp rfl) (.nil)) ?_)
    exact congrArg Value.bool (by simp [ltR, h9])

theorem eq_rec (x y : Rc) (w : World) : (Op.equal 44 (recV x) (recV y)).run Try.prog w = .ok (decide (x = y)) w := by
  have h1 : ∀ d a b w, (Op.equalIn (d + 1) 39 (.int .u64 a) (.int .u64 b)).run Try.prog w = .ok (a == b) w := fun d a b w => by
    simp [Op.equalIn]
  have key : ∀ d, (Op.equalIn (d + 2) 44 (recV x) (recV y)).run Try.prog w = .ok (decide (x = y)) w := fun d => by
    rw [run_equalIn_struct w (d + 1) 44 _ _ (by kernel_rfl) Try.stoodInHeld44]
    have hf : (Try.prog.fieldsOf 44).toList = [⟨ "Key", 39, 0, false, "", "", 0⟩, ⟨ "Val", 39, 1, false, "", "", 8⟩] := by kernel_rfl
    rw [hf]
    simp [Op.eqFields, part, h1]
    cases x; cases y
    simp only [Rc.mk.injEq]
    split <;> simp_all
    split <;> simp_all
  exact key 9998
instance : TyEqE Try.prog 44 recE := ⟨fun x => ⟨_, rfl⟩, Try.eqGuardType44, eq_rec⟩

theorem put_spec (F : Fm) (v : Value) (xs : List Rc) (r : Rc) (ha : Arg recE F v xs) (hn : xs.length < 4294967296) :
    Spec Try.prog 34 #[v, recV r] F [] fun v' hl' => Own recE v' (putL xs r) hl' := by
  refine Spec.of (n := 42) (vs := [v, recV r]) Try.func34 rfl Try.ntmps34 rfl ?_
  have hlen : (xs ++ [r]).length = xs.length + 1 := by simp
  refine Vc.seq ?_
  refine Vc.text (List.range 2) (sd [(0, .eff), (1, .pure)]) rfl ?_
  refine Rg.box rfl rfl rfl rfl rfl (fun b3 => ?_)
  refine Rg.pure rfl rfl rfl (Pv.assign rfl) ?_
  refine Rg.nil ?_
  refine Vc.seq ?_
  refine Vc.cut2 (fun (v : Value) (s : Hl) => Own recE v (xs ++ [r]) s) (fun v s => [(3, .pointer (some ⟨b3, 0, none⟩)), (5, v)]) (fun v s => (b3, cellsO (recC r) 44) :: s) ?_ ?_
  ·
    refine Vc.drawS [5] (.st 1 .pure (.st 3 .read (.two 0 (.two 2 (sd [(4, .eff), (5, .eff), (6, .pure)]) 4 (sd [(2, .eff), (5, .eff), (6, .pure)])) 4 (sd [(0, .eff), (2, .eff), (5, .eff), (6, .pure)])))) [(b3, cellsO (recC r) 44)] pulled mixed (by kernel_rfl) ?_
    refine Rg.pure rfl rfl rfl (Pv.move rfl) ?_
    refine Rg.read rfl rfl rfl (Ev.ldA rfl rfl) ?_
    refine Rg.two ?_ ?_
    ·
      refine Rg.bslice0N (E := recE) rfl rfl rfl (fun b7 own7 => ?_)
      refine Rg.two ?_ ?_
      ·
        refine Rg.appendN rfl rfl rfl rfl rfl own7 ha.src (by simp <;> omega) (by simp [maxLen] <;> omega) (fun v9 s9 own9 => ?_)
        refine Rg.bslice1N rfl rfl rfl rfl rfl rfl rfl (fun b11 => ?_)
        refine Rg.append rfl rfl rfl rfl rfl own9 (Src.one (y := r) rfl) (by simp <;> omega) (by simp [maxLen] <;> omega) rfl (fun v12 s12 own12 => ?_)
        refine Rg.pure rfl rfl rfl (Pv.assign rfl) ?_
        refine Rg.nil ?_
        exact Vc.inv2 v12 s12 (by simpa using own12) (.cons rfl (.cons rfl .nil)) pulled
      ·
        refine Rg.bslice1N rfl rfl rfl rfl rfl rfl rfl (fun b11 => ?_)
        refine Rg.appendN rfl rfl rfl rfl rfl own7 ha.src (by simp <;> omega) (by simp [maxLen] <;> omega) (fun v9 s9 own9 => ?_)
        refine Rg.append rfl rfl rfl rfl rfl own9 (Src.one (y := r) rfl) (by simp <;> omega) (by simp [maxLen] <;> omega) rfl (fun v12 s12 own12 => ?_)
        refine Rg.pure rfl rfl rfl (Pv.assign rfl) ?_
        refine Rg.nil ?_
        exact Vc.inv2 v12 s12 (by simpa using own12) (.cons rfl (.cons rfl .nil)) pulled
    ·
      refine Rg.bslice1N rfl rfl rfl rfl rfl rfl rfl (fun b11 => ?_)
      refine Rg.bslice0N (E := recE) rfl rfl rfl (fun b7 own7 => ?_)
      refine Rg.appendN rfl rfl rfl rfl rfl own7 ha.src (by simp <;> omega) (by simp [maxLen] <;> omega) (fun v9 s9 own9 => ?_)
      refine Rg.append rfl rfl rfl rfl rfl own9 (Src.one (y := r) rfl) (by simp <;> omega) (by simp [maxLen] <;> omega) rfl (fun v12 s12 own12 => ?_)
      refine Rg.pure rfl rfl rfl (Pv.assign rfl) ?_
      refine Rg.nil ?_
      exact Vc.inv2 v12 s12 (by simpa using own12) (.cons rfl (.cons rfl .nil)) pulled
  ·
    rintro v s own
    obtain ⟨b, cap, sp, rfl, rfl, hc, hm⟩ := own.block (by simp)
    refine Vc.seq ?_
    refine Vc.text (List.range 4) (sd [(0, .pure), (1, .pure), (2, .pure), (3, .pure)]) rfl ?_
    refine Rg.pure rfl rfl rfl (Pv.move rfl) ?_
    refine Rg.pure rfl rfl rfl (Pv.lenS rfl) ?_
    refine Rg.pure rfl rfl rfl (Pv.asI (xs.length) (Pv.sub rfl rfl (by omega)) (by omega)) ?_
    refine Rg.pure rfl rfl rfl (Pv.assign rfl) ?_
    refine Rg.nil ?_
    refine Vc.seq ?_
    refine Vc.block ?_
    refine Vc.loop2 (fun (k : Nat) (ys : List Rc) => k < ys.length ∧ ys.length = (xs ++ [r]).length ∧ putDown r ys k = putL xs r) (fun k ys => [(3, .pointer (some ⟨b3, 0, none⟩)), (5, .slice (some ⟨b, 0, none⟩) (xs ++ [r]).length cap), (6, .int .i64 (k : Int))]) (fun k ys => [(b, rowS recE ys sp), (b3, cellsO (recC r) 44)]) (fun k ys => k) xs.length (xs ++ [r]) ⟨by simp, rfl, rfl⟩ (.cons rfl (.cons rfl (.cons rfl .nil))) pulled ?_
    rintro k ys ⟨h1, h2, h3⟩
    refine Vc.seq ?_
    refine Vc.seq ?_
    refine Vc.draw [] (sd [(0, .pure), (1, .pure), (2, .pure), (3, .read), (4, .pure), (5, .pure), (6, .pure), (7, .pure), (8, .read), (9, .eff), (10, .pure)]) mixed (by kernel_rfl) ?_
    refine Rg.pure rfl rfl rfl (Pv.move rfl) ?_
    refine Rg.pure rfl rfl rfl (Pv.gtr rfl rfl) ?_
    refine Rg.pure rfl rfl rfl (Pv.move rfl) ?_
    refine Rg.split (t := 18) rfl (fun h18 => ?_) (fun h18 => ?_)
    ·
      simp only [decide_eq_true_eq] at h18
      refine Rg.read rfl rfl rfl (Ev.ldA rfl rfl) ?_
      refine Rg.pure rfl rfl rfl (Pv.move rfl) ?_
      refine Rg.pure rfl rfl rfl (Pv.move rfl) ?_
      refine Rg.pure rfl rfl rfl (Pv.asI (k - 1) (Pv.sub rfl rfl (by omega)) (by omega)) ?_
      refine Rg.pure rfl rfl rfl (Pv.ixA (k - 1) rfl rfl (by omega) (by omega)) ?_
      refine Rg.read rfl rfl rfl (Ev.ldR (k - 1) rfl (Nat.zero_add _) (by omega)) ?_
      refine Rg.callP rfl rfl rfl (run_callF rfl) (less_spec _ _ _) ?_
      rintro _ rfl
      refine Rg.pure rfl rfl rfl (Pv.pickT rfl rfl) ?_
      refine Rg.nil ?_
      refine Vc.cond rfl (fun h26 => ?_) (fun h26 => ?_)
      ·
        refine Vc.skip ?_
        refine Vc.block ?_
        refine Vc.seq ?_
        refine Vc.text (List.range 9) (sd [(0, .pure), (1, .pure), (2, .pure), (3, .pure), (4, .pure), (5, .pure), (6, .read), (7, .pure), (8, .eff)]) rfl ?_
        refine Rg.pure rfl rfl rfl (Pv.move rfl) ?_
        refine Rg.pure rfl rfl rfl (Pv.move rfl) ?_
        refine Rg.pure rfl rfl rfl (Pv.move rfl) ?_
        refine Rg.pure rfl rfl rfl (Pv.move rfl) ?_
        refine Rg.pure rfl rfl rfl (Pv.asI (k - 1) (Pv.sub rfl rfl (by omega)) (by omega)) ?_
        refine Rg.pure rfl rfl rfl (Pv.ixA (k - 1) rfl rfl (by omega) (by omega)) ?_
        refine Rg.read rfl rfl rfl (Ev.ldR (k - 1) rfl (Nat.zero_add _) (by omega)) ?_
        refine Rg.pure rfl rfl rfl (Pv.ixA (k) rfl rfl (by omega) (by omega)) ?_
        refine Rg.storeR (k) rfl rfl rfl rfl rfl rfl (Nat.zero_add _) (by omega) rfl ?_
        refine Rg.nil ?_
        refine Vc.text (List.range 3) (sd [(0, .pure), (1, .pure), (2, .pure)]) rfl ?_
        refine Rg.pure rfl rfl rfl (Pv.move rfl) ?_
        refine Rg.pure rfl rfl rfl (Pv.asI (k - 1) (Pv.sub rfl rfl (by omega)) (by omega)) ?_
        refine Rg.pure rfl rfl rfl (Pv.assign rfl) ?_
        refine Rg.nil ?_
        refine Vc.blk ?_
        exact Vc.inv2 (k - 1) (ys.set k ys[k - 1]!) ⟨⟨by simp; omega, by simp only [List.length_set]; exact h2, by rw [← h3, putDown_go (by omega) h26]⟩, by omega⟩ (.cons rfl (.cons rfl (.cons rfl .nil))) pulled
      ·
        refine Vc.exit rfl ?_
        refine Vc.seq ?_
        refine Vc.text (List.range 5) (sd [(0, .pure), (1, .pure), (2, .read), (3, .pure), (4, .eff)]) rfl ?_
        refine Rg.pure rfl rfl rfl (Pv.move rfl) ?_
        refine Rg.pure rfl rfl rfl (Pv.move rfl) ?_
        refine Rg.read rfl rfl rfl (Ev.ldA rfl rfl) ?_
        refine Rg.pure rfl rfl rfl (Pv.ixA (k) rfl rfl (by omega) (by omega)) ?_
        refine Rg.storeR (k) rfl rfl rfl rfl rfl rfl (Nat.zero_add _) (by omega) rfl ?_
        refine Rg.nil ?_
        refine Vc.seq ?_
        refine Vc.text (List.range 2) (sd [(0, .pure), (1, .pure)]) rfl ?_
        refine Rg.pure rfl rfl rfl (Pv.move rfl) ?_
        refine Rg.pure rfl rfl rfl (Pv.assign rfl) ?_
        refine Rg.nil ?_
        exact Vc.ret (Vc.retsH rfl (.cons (.tmp rfl) (.nil)) ((show Own recE _ _ _ from by rw [← h3, putDown_stop (fun hh => by rw [h26] at hh; cases hh.2)]; exact Own.blk' b cap _ _ sp (by rw [List.length_set, h2]) hc hm)) pulled)
    ·
      simp only [decide_eq_false_iff_not] at h18
      iterate 7 (first | refine Rg.skipP rfl rfl rfl ?_ | refine Rg.skipR rfl rfl rfl ?_ | refine Rg.skipE rfl rfl rfl ?_)
      refine Rg.pure rfl rfl rfl (Pv.pickF rfl rfl) ?_
      refine Rg.nil ?_
      refine Vc.condF rfl ?_
      refine Vc.exit rfl ?_
      refine Vc.seq ?_
      refine Vc.text (List.range 5) (sd [(0, .pure), (1, .pure), (2, .read), (3, .pure), (4, .eff)]) rfl ?_
      refine Rg.pure rfl rfl rfl (Pv.move rfl) ?_
      refine Rg.pure rfl rfl rfl (Pv.move rfl) ?_
      refine Rg.read rfl rfl rfl (Ev.ldA rfl rfl) ?_
      refine Rg.pure rfl rfl rfl (Pv.ixA (k) rfl rfl (by omega) (by omega)) ?_
      refine Rg.storeR (k) rfl rfl rfl rfl rfl rfl (Nat.zero_add _) (by omega) rfl ?_
      refine Rg.nil ?_
      refine Vc.seq ?_
      refine Vc.text (List.range 2) (sd [(0, .pure), (1, .pure)]) rfl ?_
      refine Rg.pure rfl rfl rfl (Pv.move rfl) ?_
      refine Rg.pure rfl rfl rfl (Pv.assign rfl) ?_
      refine Rg.nil ?_
      exact Vc.ret (Vc.retsH rfl (.cons (.tmp rfl) (.nil)) ((show Own recE _ _ _ from by rw [← h3, putDown_stop (fun hh => by omega)]; exact Own.blk' b cap _ _ sp (by rw [List.length_set, h2]) hc hm)) pulled)

theorem putL_length (xs : List Rc) (r : Rc) : (putL xs r).length = xs.length + 1 := by rw [putL, putDown_length]; simp
theorem foldl_length : ∀ (l acc : List Rc), (l.foldl putL acc).length = acc.length + l.length
  | [], acc => by simp
  | x :: l, acc => by rw [List.foldl_cons, foldl_length l, putL_length, List.length_cons]; omega
theorem sortL_length (l : List Rc) : (sortL l).length = l.length := by rw [sortL, foldl_length]; simp
theorem sortL_snoc (l : List Rc) (i : Nat) (h : i < l.length) : sortL (l.take (i + 1)) = putL (sortL (l.take i)) l[i]! := by
  rw [List.take_succ_eq_append_getElem h, sortL, List.foldl_append, getElem!_pos l i h]; rfl

theorem sort_spec (F : Fm) (v : Value) (xs : List Rc) (ha : Arg recE F v xs) (hn : xs.length < 4294967296) :
    Spec Try.prog 23 #[v] F [] fun v' hl' => Own recE v' (sortL xs) hl' := by
  obtain ⟨p, c, rfl⟩ := ha.shape
  refine Spec.of (n := 19) (vs := [.slice p xs.length c]) Try.func23 rfl Try.ntmps23 rfl ?_
  refine Vc.seq ?_
  refine Vc.text (List.range 1) (sd [(0, .pure)]) rfl ?_
  refine Rg.pure rfl rfl rfl (Pv.assign rfl) ?_
  refine Rg.nil ?_
  refine Vc.seq ?_
  refine Vc.text (List.range 2) (sd [(0, .eff), (1, .pure)]) rfl ?_
  refine Rg.bslice0 (E := recE) rfl rfl rfl (fun b5 own5 => ?_)
  refine Rg.pure rfl rfl rfl (Pv.assign rfl) ?_
  refine Rg.nil ?_
  refine Vc.seq ?_
  refine Vc.seq ?_
  refine Vc.text (List.range 1) (sd [(0, .pure)]) rfl ?_
  refine Rg.pure rfl rfl rfl (Pv.assign rfl) ?_
  refine Rg.nil ?_
  refine Vc.block ?_
  refine Vc.loop3 (fun (i : Nat) (v : Value) (s : Hl) => i ≤ xs.length ∧ Own recE v (sortL (xs.take i)) s) (fun i v s => [(0, .slice p xs.length c), (3, v), (4, .int .i64 (i : Int))]) (fun i v s => s) (fun i v s => xs.length - i) 0 _ [(b5, rowS recE [] [])] ⟨by omega, by simpa [sortL] using own5⟩ (.cons rfl (.cons rfl (.cons rfl .nil))) pulled ?_
  rintro i v s ⟨h1, own⟩
  refine Vc.seq ?_
  refine Vc.seq ?_
  refine Vc.text (List.range 4) (sd [(0, .pure), (1, .pure), (2, .pure), (3, .pure)]) rfl ?_
  refine Rg.pure rfl rfl rfl (Pv.move rfl) ?_
  refine Rg.pure rfl rfl rfl (Pv.move rfl) ?_
  refine Rg.pure rfl rfl rfl (Pv.lenS rfl) ?_
  refine Rg.pure rfl rfl rfl (Pv.lss rfl rfl) ?_
  refine Rg.nil ?_
  refine Vc.cond rfl (fun h9 => ?_) (fun h9 => ?_)
  ·
    simp only [decide_eq_true_eq] at h9
    obtain ⟨b, off, c', e, hcap⟩ := ha.block (by omega)
    cases e
    refine Vc.skip ?_
    refine Vc.seq ?_
    refine Vc.block ?_
    refine Vc.text (List.range 7) (sd [(0, .pure), (1, .pure), (2, .pure), (3, .pure), (4, .read), (5, .eff), (6, .pure)]) rfl ?_
    refine Rg.pure rfl rfl rfl (Pv.move rfl) ?_
    refine Rg.pure rfl rfl rfl (Pv.move rfl) ?_
    refine Rg.pure rfl rfl rfl (Pv.move rfl) ?_
    refine Rg.pure rfl rfl rfl (Pv.ixA (i) rfl rfl (by omega) (by omega)) ?_
    refine Rg.read rfl rfl rfl (Ev.ldS (i) (ha.src) rfl rfl rfl (by omega)) ?_
    refine Rg.callH rfl rfl rfl (run_callF rfl) (fun F' hF' => put_spec F' v (sortL (xs.take i)) xs[i]! (Arg.of_own own hF') (by rw [sortL_length]; simp; omega)) rfl ?_
    rintro v17 s17 own17
    refine Rg.pure rfl rfl rfl (Pv.assign rfl) ?_
    refine Rg.nil ?_
    refine Vc.blk ?_
    refine Vc.text (List.range 3) (sd [(0, .pure), (1, .pure), (2, .pure)]) rfl ?_
    refine Rg.pure rfl rfl rfl (Pv.move rfl) ?_
    refine Rg.pure rfl rfl rfl (Pv.add rfl rfl (by omega)) ?_
    refine Rg.pure rfl rfl rfl (Pv.assign rfl) ?_
    refine Rg.nil ?_
    exact Vc.inv3 (i + 1) v17 s17 ⟨⟨by omega, by rw [sortL_snoc xs i (by omega)]; exact own17⟩, by omega⟩ (.cons rfl (.cons rfl (.cons rfl .nil))) pulled
  ·
    simp only [decide_eq_false_iff_not] at h9
    refine Vc.exit rfl ?_
    refine Vc.seq ?_
    refine Vc.text (List.range 2) (sd [(0, .pure), (1, .pure)]) rfl ?_
    refine Rg.pure rfl rfl rfl (Pv.move rfl) ?_
    refine Rg.pure rfl rfl rfl (Pv.assign rfl) ?_
    refine Rg.nil ?_
    exact Vc.ret (Vc.retsH rfl (.cons (.tmp rfl) (.nil)) ((show Own recE _ _ _ from by rwa [List.take_of_length_le (by omega)] at own)) pulled)

theorem take_snoc {α : Type} {ys : List α} {k : Nat} {x : α} (h : ys[k]? = some x) : ys.take k ++ [x] = ys.take (k + 1) := by
  rw [List.take_add_one, h]; rfl
theorem take_get {α : Type} [Inhabited α] (xs : List α) {i : Nat} (h : i < xs.length) : xs.take (i + 1) = xs.take i ++ [xs[i]!] :=
  (take_snoc (by rw [getElem!_pos xs i h]; exact List.getElem?_eq_getElem h)).symm
theorem get_ne {α : Type} [Inhabited α] {xs ys : List α} (i : Nat) (h : xs[i]! ≠ ys[i]!) : xs ≠ ys := fun e => h (by rw [e])

theorem rsameR_spec {F : Fm} {va vb : Value} {xs ys : List Rc} (ha : Arg recE F va xs) (hb : Arg recE F vb ys) (hN : xs.length < 1073741824) (hM : ys.length < 1073741824) :
    Spec Try.prog 15 #[va, vb] F [] fun v _ => v = .bool (decide (xs = ys)) := by
  obtain ⟨p, c, rfl⟩ := ha.shape
  obtain ⟨q, d, rfl⟩ := hb.shape
  refine Spec.of (n := 26) (vs := [.slice p xs.length c, .slice q ys.length d]) Try.func15 rfl Try.ntmps15 rfl ?_
  refine Vc.seq ?_
  refine Vc.text (List.range 1) (sd [(0, .pure)]) rfl ?_
  refine Rg.pure rfl rfl rfl (Pv.assign rfl) ?_
  refine Rg.nil ?_
  refine Vc.seq ?_
  refine Vc.seq ?_
  refine Vc.text (List.range 5) (sd [(0, .pure), (1, .pure), (2, .pure), (3, .pure), (4, .pure)]) rfl ?_
  refine Rg.pure rfl rfl rfl (Pv.move rfl) ?_
  refine Rg.pure rfl rfl rfl (Pv.lenS rfl) ?_
  refine Rg.pure rfl rfl rfl (Pv.move rfl) ?_
  refine Rg.pure rfl rfl rfl (Pv.lenS rfl) ?_
  refine Rg.pure rfl rfl rfl (Pv.neq rfl rfl) ?_
  refine Rg.nil ?_
  refine Vc.cond rfl (fun h10 => ?_) (fun h10 => ?_)
  ·
    simp only [bne_iff_ne, ne_eq] at h10
    refine Vc.seq ?_
    refine Vc.text (List.range 1) (sd [(0, .pure)]) rfl ?_
    refine Rg.pure rfl rfl rfl (Pv.assign rfl) ?_
    refine Rg.nil ?_
    refine Vc.ret (Vc.rets rfl (.cons (.tmp rfl) (.nil)) ?_)
    exact congrArg Value.bool (by rw [decide_eq_false]; intro e; rw [e] at h10; exact h10 rfl)
  ·
    simp only [bne_eq_false_iff_eq] at h10
    have hl : xs.length = ys.length := by omega
    refine Vc.skip ?_
    refine Vc.seq ?_
    refine Vc.seq ?_
    refine Vc.text (List.range 1) (sd [(0, .pure)]) rfl ?_
    refine Rg.pure rfl rfl rfl (Pv.assign rfl) ?_
    refine Rg.nil ?_
    refine Vc.block ?_
    refine Vc.loop1 (fun (i : Nat) => i ≤ xs.length ∧ xs.take i = ys.take i) (fun i => [(0, .slice p xs.length c), (1, .slice q ys.length d), (5, .int .i64 (i : Int))]) (fun i => []) (fun i => xs.length - i) 0 ⟨Nat.zero_le _, by simp⟩ (.cons rfl (.cons rfl (.cons rfl .nil))) pulled ?_
    rintro i ⟨h1, h2⟩
    refine Vc.seq ?_
    refine Vc.seq ?_
    refine Vc.text (List.range 4) (sd [(0, .pure), (1, .pure), (2, .pure), (3, .pure)]) rfl ?_
    refine Rg.pure rfl rfl rfl (Pv.move rfl) ?_
    refine Rg.pure rfl rfl rfl (Pv.move rfl) ?_
    refine Rg.pure rfl rfl rfl (Pv.lenS rfl) ?_
    refine Rg.pure rfl rfl rfl (Pv.lss rfl rfl) ?_
    refine Rg.nil ?_
    refine Vc.cond rfl (fun h14 => ?_) (fun h14 => ?_)
    ·
      simp only [decide_eq_true_eq] at h14
      obtain ⟨b, off, c', e, _⟩ := ha.block (by omega)
      cases e
      obtain ⟨b2, off2, c2, e, _⟩ := hb.block (by omega)
      cases e
      refine Vc.skip ?_
      refine Vc.seq ?_
      refine Vc.block ?_
      refine Vc.seq ?_
      refine Vc.draw [] (sd [(0, .pure), (1, .pure), (2, .pure), (3, .read), (4, .pure), (5, .pure), (6, .pure), (7, .read), (8, .pure)]) mixed (by kernel_rfl) ?_
      refine Rg.pure rfl rfl rfl (Pv.move rfl) ?_
      refine Rg.pure rfl rfl rfl (Pv.move rfl) ?_
      refine Rg.pure rfl rfl rfl (Pv.ixA (i) rfl rfl (by omega) (by omega)) ?_
      refine Rg.read rfl rfl rfl (Ev.ldS (i) (ha.src) rfl rfl rfl (by omega)) ?_
      refine Rg.pure rfl rfl rfl (Pv.move rfl) ?_
      refine Rg.pure rfl rfl rfl (Pv.move rfl) ?_
      refine Rg.pure rfl rfl rfl (Pv.ixA (i) rfl rfl (by omega) (by omega)) ?_
      refine Rg.read rfl rfl rfl (Ev.ldS (i) (hb.src) rfl rfl rfl (by omega)) ?_
      refine Rg.pure rfl rfl rfl (Pv.neqE recE xs[i]! ys[i]! rfl rfl) ?_
      refine Rg.nil ?_
      refine Vc.cond rfl (fun h25 => ?_) (fun h25 => ?_)
      ·
        simp only [Bool.not_eq_true', decide_eq_false_iff_not] at h25
        refine Vc.seq ?_
        refine Vc.text (List.range 1) (sd [(0, .pure)]) rfl ?_
        refine Rg.pure rfl rfl rfl (Pv.assign rfl) ?_
        refine Rg.nil ?_
        refine Vc.ret (Vc.rets rfl (.cons (.tmp rfl) (.nil)) ?_)
        exact congrArg Value.bool (decide_eq_false (get_ne i h25)).symm
      ·
        simp only [Bool.not_eq_false', decide_eq_true_eq] at h25
        refine Vc.skip ?_
        refine Vc.blk ?_
        refine Vc.text (List.range 3) (sd [(0, .pure), (1, .pure), (2, .pure)]) rfl ?_
        refine Rg.pure rfl rfl rfl (Pv.move rfl) ?_
        refine Rg.pure rfl rfl rfl (Pv.asI (i + 1) (Pv.add rfl rfl (by omega)) (by omega)) ?_
        refine Rg.pure rfl rfl rfl (Pv.assign rfl) ?_
        refine Rg.nil ?_
        exact Vc.inv1 (i + 1) ⟨⟨by omega, by rw [take_get xs (by omega), take_get ys (by omega), h2, h25]⟩, by omega⟩ (.cons rfl (.cons rfl (.cons rfl .nil))) pulled
    ·
      simp only [decide_eq_false_iff_not] at h14
      refine Vc.exit rfl ?_
      refine Vc.seq ?_
      refine Vc.text (List.range 1) (sd [(0, .pure)]) rfl ?_
      refine Rg.pure rfl rfl rfl (Pv.assign rfl) ?_
      refine Rg.nil ?_
      refine Vc.ret (Vc.rets rfl (.cons (.tmp rfl) (.nil)) ?_)
      exact congrArg Value.bool (decide_eq_true (by rwa [List.take_of_length_le (by omega), List.take_of_length_le (by omega)] at h2)).symm

end Go.Proofs.Ytkkbeljmloikkaa
