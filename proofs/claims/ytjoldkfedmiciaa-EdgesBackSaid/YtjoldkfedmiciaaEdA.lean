/- Graphs: few, Right, Alike, Equal. -/
import Derived.Test.YtjoldkfedmiciaaByB
import Derived.Laws.StructEq
namespace Go.Proofs.Ytjoldkfedmiciaa
set_option linter.unusedVariables false

structure Eg where
  f : Nat
  t : Nat
  w : Nat
  deriving DecidableEq
instance : Inhabited Eg := ⟨⟨0, 0, 0⟩⟩
def InE (e : Eg) : Prop := e.f < 4294967296 ∧ e.t < 4294967296 ∧ e.w < 4294967296
abbrev egC (e : Eg) : List Value := [.int .u32 (e.f : Int), .int .u32 (e.t : Int), .int .u32 (e.w : Int)]
abbrev egV (e : Eg) : Value := .agg #[.int .u32 (e.f : Int), .int .u32 (e.t : Int), .int .u32 (e.w : Int)]
def edgeE : Enc Eg where
  k := 3
  tid := 39
  cells := egC
  val := egV
  pos := by decide
  len := fun _ => rfl
  one := fun x v hv => by simp [egC] at hv; rcases hv with rfl | rfl | rfl <;> rfl
  vc := fun _ => rfl
instance : RowTy Try.prog edgeE 39 := ⟨Try.sizeOf39, .inl ⟨Try.isAgg39, fun _ => rfl⟩⟩
instance : TySl Try.prog 22 edgeE 12 := ⟨Try.underlying22, Try.t39, _, Try.type39, rfl, rfl, rfl, rfl⟩
theorem eq_edge (x y : Eg) (w : World) : (Op.equal 39 (egV x) (egV y)).run Try.prog w = .ok (decide (x = y)) w := by
  have h1 : ∀ d a b w, (Op.equalIn (d + 1) 37 (.int .u32 a) (.int .u32 b)).run Try.prog w = .ok (a == b) w := fun d a b w => by
    simp [Op.equalIn]
  have key : ∀ d, (Op.equalIn (d + 2) 39 (egV x) (egV y)).run Try.prog w = .ok (decide (x = y)) w := fun d => by
    rw [run_equalIn_struct w (d + 1) 39 _ _ (by kernel_rfl) Try.stoodInHeld39]
    have hf : (Try.prog.fieldsOf 39).toList = [⟨ "From", 37, 0, false, "", "", 0⟩, ⟨ "To", 37, 1, false, "", "", 4⟩, ⟨ "W", 37, 2, false, "", "", 8⟩] := by kernel_rfl
    rw [hf]
    simp [Op.eqFields, part, h1]
    cases x; cases y
    simp only [Eg.mk.injEq]
    split
    · split
      · split <;> simp_all <;> omega
      · simp_all; omega
    · simp_all; omega
  exact key 9998
instance : TyEqE Try.prog 39 edgeE := ⟨fun x => ⟨_, rfl⟩, Try.eqGuardType39, eq_edge⟩

/-- A graph's value. -/
abbrev grV (N : Int) (v : Value) : Value := .agg #[.int .i64 N, v]
def rightG (N : Int) (es : List Eg) : Bool := decide (0 ≤ N) && decide (N ≤ 1048576) && decide (es.length ≤ 1048576) && !es.any fun e => decide (N ≤ (e.f : Int)) || decide (N ≤ (e.t : Int))

theorem Arg.cap {α : Type} {E : Enc α} {F : Fm} {p : Option Addr} {m c : Nat} {ys : List α} (h : Arg E F (.slice p m c) ys) : m = ys.length ∧ ys.length ≤ c := by
  rcases h with ⟨e, rfl⟩ | ⟨b, off, c', e, hc, _⟩
  · cases e; exact ⟨rfl, Nat.le_refl _⟩
  · cases e; exact ⟨rfl, hc⟩

theorem few_spec {F : Fm} {va : Value} {es : List Eg} (ha : Arg edgeE F va es) (N : Int) :
    Spec Try.prog 12 #[grV N va] F [] fun v s => ∃ u, v = grV N u ∧ Own edgeE u (es.take 40) s := by
  obtain ⟨p, c, rfl⟩ := ha.shape
  have hcap := ha.cap.2
  have ht := ha.take (k := min es.length 40) (Nat.min_le_left _ _)
  rw [show es.take (min es.length 40) = es.take 40 by rw [List.take_eq_take_iff]; omega] at ht
  have hl : (es.take 40).length ≤ 40 := by simp; omega
  refine Spec.of (n := 15) (vs := [grV N (.slice p es.length c)]) Try.func12 rfl Try.ntmps12 rfl ?_
  refine Vc.seq ?_
  refine Vc.text (List.range 2) (sd [(0, .eff), (1, .eff)]) rfl ?_
  refine Rg.box rfl rfl rfl rfl rfl (fun b1 => ?_)
  refine Rg.alloc rfl rfl rfl rfl (fun b2 => ?_)
  refine Rg.nil ?_
  refine Vc.seq ?_
  refine Vc.drawS [12] (sd [(0, .pure), (1, .read), (3, .pure), (4, .read), (5, .pure), (6, .read), (7, .pure), (8, .pure), (9, .pure), (2, .eff), (10, .eff), (11, .pure), (12, .eff)]) [(b1, cellsO [.int .i64 N, .slice p es.length c] 24)] pulled mixed (by kernel_rfl) ?_
  refine Rg.pure rfl rfl rfl (Pv.fa rfl) ?_
  refine Rg.read rfl rfl rfl (Ev.ld rfl rfl) ?_
  refine Rg.pure rfl rfl rfl (Pv.fa rfl) ?_
  refine Rg.read rfl rfl rfl (Ev.ld rfl rfl) ?_
  refine Rg.pure rfl rfl rfl (Pv.fa rfl) ?_
  refine Rg.read rfl rfl rfl (Ev.ld rfl rfl) ?_
  refine Rg.pure rfl rfl rfl (Pv.lenS rfl) ?_
  refine Rg.pure rfl rfl rfl (Pv.asI (min es.length 40) (Pv.min rfl rfl) (by omega)) ?_
  refine Rg.pure rfl rfl rfl (Pv.slTo (min es.length 40) rfl rfl (by omega)) ?_
  refine Rg.bslice0N (E := edgeE) rfl rfl rfl (fun b5 own5 => ?_)
  refine Rg.appendN rfl rfl rfl rfl rfl own5 ht.src (by simp <;> omega) (by simp [maxLen] <;> omega) (fun v13 s13 own13 => ?_)
  obtain ⟨q13, c13, rfl⟩ := own13.shape
  refine Rg.pure rfl rfl rfl (Pv.build rfl rfl) ?_
  refine Rg.storeA rfl rfl rfl rfl rfl rfl rfl rfl ?_
  refine Rg.nil ?_
  exact Vc.ret (Vc.retsH rfl (.cons (.cellA rfl rfl) (.nil)) (⟨.slice q13 ([] ++ es.take 40).length c13, rfl, own13⟩) pulled)

/-- Which end of an edge is no vertex? -/
theorem right1_spec {F : Fm} {bg : Nat} {N : Int} {va : Value} [f1 : Fat F bg (cellsO [.int .i64 N, va] 24)] (e : Eg) (he : InE e) :
    Spec Try.prog 24 #[egV e, .pointer (some ⟨bg, 0, none⟩)] F [] fun v _ => v = .bool (decide (N ≤ (e.f : Int)) || decide (N ≤ (e.t : Int))) := by
  refine Spec.of (n := 18) (vs := [egV e, .pointer (some ⟨bg, 0, none⟩)]) Try.func24 rfl Try.ntmps24 rfl ?_
  have h1 := he.1
  have h2 := he.2.1
  refine Vc.seq ?_
  refine Vc.text (List.range 2) (sd [(0, .eff), (1, .pure)]) rfl ?_
  refine Rg.box rfl rfl rfl rfl rfl (fun b2 => ?_)
  refine Rg.pure rfl rfl rfl (Pv.assign rfl) ?_
  refine Rg.nil ?_
  refine Vc.seq ?_
  refine Vc.text (List.range 15) (sd [(0, .pure), (1, .read), (2, .pure), (3, .pure), (4, .read), (5, .pure), (6, .pure), (7, .pure), (8, .read), (9, .pure), (10, .pure), (11, .read), (12, .pure), (13, .pure), (14, .pure)]) rfl ?_
  refine Rg.pure rfl rfl rfl (Pv.fa rfl) ?_
  refine Rg.read rfl rfl rfl (Ev.ld rfl rfl) ?_
  refine Rg.pure rfl rfl rfl (Pv.asI e.f (Pv.convI rfl) (i64_wrap (by omega))) ?_
  refine Rg.pure rfl rfl rfl (Pv.fa rfl) ?_
  refine Rg.read rfl rfl rfl (Ev.ld rfl rfl) ?_
  refine Rg.pure rfl rfl rfl (Pv.geq rfl rfl) ?_
  refine Rg.pure rfl rfl rfl (Pv.move rfl) ?_
  refine Rg.split (t := 10) rfl (fun h10 => ?_) (fun h10 => ?_)
  ·
    simp only [decide_eq_true_eq] at h10
    iterate 6 (first | refine Rg.skipP rfl rfl rfl ?_ | refine Rg.skipR rfl rfl rfl ?_ | refine Rg.skipE rfl rfl rfl ?_)
    refine Rg.pure rfl rfl rfl (Pv.pickT rfl rfl) ?_
    refine Rg.pure rfl rfl rfl (Pv.assign rfl) ?_
    refine Rg.nil ?_
    refine Vc.ret (Vc.rets rfl (.cons (.tmp rfl) (.nil)) ?_)
    exact congrArg Value.bool (by simp [*])
  ·
    simp only [decide_eq_false_iff_not] at h10
    refine Rg.pure rfl rfl rfl (Pv.fa rfl) ?_
    refine Rg.read rfl rfl rfl (Ev.ld rfl rfl) ?_
    refine Rg.pure rfl rfl rfl (Pv.asI e.t (Pv.convI rfl) (i64_wrap (by omega))) ?_
    refine Rg.pure rfl rfl rfl (Pv.fa rfl) ?_
    refine Rg.read rfl rfl rfl (Ev.ld rfl rfl) ?_
    refine Rg.pure rfl rfl rfl (Pv.geq rfl rfl) ?_
    refine Rg.pure rfl rfl rfl (Pv.pickF rfl rfl) ?_
    refine Rg.pure rfl rfl rfl (Pv.assign rfl) ?_
    refine Rg.nil ?_
    refine Vc.ret (Vc.rets rfl (.cons (.tmp rfl) (.nil)) ?_)
    exact congrArg Value.bool (by simp [*])

theorem indexFunc_spec {F : Fm} {va : Value} {xs : List Eg} (ha : Arg edgeE F va xs) (hN : xs.length < 1073741824) (p : Eg → Bool) (g : Nat) [TyCall Try.prog g] (cs : List Value)
    (hs : ∀ F', (∀ b o, F.at_ b o → F'.at_ b o) → ∀ x ∈ xs, Spec Try.prog g (egV x :: cs).toArray F' [] fun v _ => v = .bool (p x)) :
    Spec Try.prog 32 #[va, .func (.func g) #[] cs.toArray] F [] fun v _ => ∃ r : Int, v = .int .i64 r ∧ decide (0 ≤ r) = xs.any p := by
  obtain ⟨q, c, rfl⟩ := ha.shape
  refine Spec.of (n := 19) (vs := [.slice q xs.length c, .func (.func g) #[] cs.toArray]) Try.func32 rfl Try.ntmps32 rfl ?_
  refine Vc.seq ?_
  refine Vc.text (List.range 1) (sd [(0, .pure)]) rfl ?_
  refine Rg.pure rfl rfl rfl (Pv.assign rfl) ?_
  refine Rg.nil ?_
  refine Vc.seq ?_
  refine Vc.seq ?_
  refine Vc.text (List.range 3) (sd [(0, .pure), (1, .pure), (2, .pure)]) rfl ?_
  refine Rg.pure rfl rfl rfl (Pv.move rfl) ?_
  refine Rg.pure rfl rfl rfl (Pv.lenS rfl) ?_
  refine Rg.pure rfl rfl rfl (Pv.move rfl) ?_
  refine Rg.nil ?_
  refine Vc.block ?_
  refine Vc.loop1 (fun (i : Nat) => i ≤ xs.length ∧ (xs.take i).any p = false) (fun i => [(0, .slice q xs.length c), (1, .func (.func g) #[] cs.toArray), (7, .int .i64 (xs.length : Int)), (8, .int .i64 (i : Int))]) (fun i => []) (fun i => xs.length - i) 0 ⟨Nat.zero_le _, by simp⟩ (.cons rfl (.cons rfl (.cons rfl (.cons rfl .nil)))) pulled ?_
  rintro i ⟨h1, h2⟩
  refine Vc.seq ?_
  refine Vc.text (List.range 1) (sd [(0, .pure)]) rfl ?_
  refine Rg.pure rfl rfl rfl (Pv.lss rfl rfl) ?_
  refine Rg.nil ?_
  refine Vc.seq ?_
  refine Vc.cond rfl (fun h9 => ?_) (fun h9 => ?_)
  ·
    simp only [decide_eq_true_eq] at h9
    obtain ⟨b, off, c', e, _⟩ := ha.block (by omega)
    cases e
    have hsn : xs.take (i + 1) = xs.take i ++ [xs[i]!] := (take_snoc (by rw [getElem!_pos xs i (by omega)]; exact List.getElem?_eq_getElem (by omega))).symm
    refine Vc.skip ?_
    refine Vc.seq ?_
    refine Vc.block ?_
    refine Vc.seq ?_
    refine Vc.text (List.range 2) (sd [(0, .pure), (1, .pure)]) rfl ?_
    refine Rg.pure rfl rfl rfl (Pv.move rfl) ?_
    refine Rg.pure rfl rfl rfl (Pv.assign rfl) ?_
    refine Rg.nil ?_
    refine Vc.seq ?_
    refine Vc.text (List.range 6) (sd [(0, .pure), (1, .pure), (2, .pure), (3, .pure), (4, .read), (5, .eff)]) rfl ?_
    refine Rg.pure rfl rfl rfl (Pv.move rfl) ?_
    refine Rg.pure rfl rfl rfl (Pv.move rfl) ?_
    refine Rg.pure rfl rfl rfl (Pv.move rfl) ?_
    refine Rg.pure rfl rfl rfl (Pv.ixA (i) rfl rfl (by omega) (by omega)) ?_
    refine Rg.read rfl rfl rfl (Ev.ldS (i) (ha.src) rfl rfl rfl (by omega)) ?_
    refine Rg.callP rfl rfl rfl (run_callV rfl rfl) (hs _ (fun _ _ h => Or.inr h) xs[i]! (by rw [getElem!_pos xs i (by omega)]; exact List.getElem_mem _)) ?_
    rintro _ rfl
    refine Rg.nil ?_
    refine Vc.cond rfl (fun h16 => ?_) (fun h16 => ?_)
    ·
      refine Vc.seq ?_
      refine Vc.text (List.range 2) (sd [(0, .pure), (1, .pure)]) rfl ?_
      refine Rg.pure rfl rfl rfl (Pv.move rfl) ?_
      refine Rg.pure rfl rfl rfl (Pv.assign rfl) ?_
      refine Rg.nil ?_
      refine Vc.ret (Vc.rets rfl (.cons (.tmp rfl) (.nil)) ?_)
      refine ⟨(i : Int), rfl, ?_⟩
      rw [decide_eq_true (by omega), eq_comm, List.any_eq_true]
      exact ⟨xs[i]!, by rw [getElem!_pos xs i (by omega)]; exact List.getElem_mem _, h16⟩
    ·
      refine Vc.skip ?_
      refine Vc.blk ?_
      refine Vc.text (List.range 2) (sd [(0, .pure), (1, .pure)]) rfl ?_
      refine Rg.pure rfl rfl rfl (Pv.asI (i + 1) (Pv.add rfl rfl (by omega)) (by omega)) ?_
      refine Rg.pure rfl rfl rfl (Pv.move rfl) ?_
      refine Rg.nil ?_
      exact Vc.inv1 (i + 1) ⟨⟨by omega, by rw [hsn, List.any_append, h2]; simpa using h16⟩, by omega⟩ (.cons rfl (.cons rfl (.cons rfl (.cons rfl .nil)))) pulled
  ·
    simp only [decide_eq_false_iff_not] at h9
    rw [List.take_of_length_le (by omega)] at h2
    refine Vc.exit rfl ?_
    refine Vc.seq ?_
    refine Vc.text (List.range 1) (sd [(0, .pure)]) rfl ?_
    refine Rg.pure rfl rfl rfl (Pv.assign rfl) ?_
    refine Rg.nil ?_
    refine Vc.ret (Vc.rets rfl (.cons (.tmp rfl) (.nil)) ?_)
    exact ⟨-1, rfl, by rw [h2]; rfl⟩
theorem containsFunc_spec {F : Fm} {va : Value} {xs : List Eg} (ha : Arg edgeE F va xs) (hN : xs.length < 1073741824) (p : Eg → Bool) (g : Nat) [TyCall Try.prog g] (cs : List Value)
    (hs : ∀ F', (∀ b o, F.at_ b o → F'.at_ b o) → ∀ x ∈ xs, Spec Try.prog g (egV x :: cs).toArray F' [] fun v _ => v = .bool (p x)) :
    Spec Try.prog 23 #[va, .func (.func g) #[] cs.toArray] F [] fun v _ => v = .bool (xs.any p) := by
  refine Spec.of (n := 9) (vs := [va, .func (.func g) #[] cs.toArray]) Try.func23 rfl Try.ntmps23 rfl ?_
  refine Vc.seq ?_
  refine Vc.text (List.range 1) (sd [(0, .pure)]) rfl ?_
  refine Rg.pure rfl rfl rfl (Pv.assign rfl) ?_
  refine Rg.nil ?_
  refine Vc.seq ?_
  refine Vc.text (List.range 5) (sd [(0, .pure), (1, .pure), (2, .eff), (3, .pure), (4, .pure)]) rfl ?_
  refine Rg.pure rfl rfl rfl (Pv.move rfl) ?_
  refine Rg.pure rfl rfl rfl (Pv.move rfl) ?_
  refine Rg.callP rfl rfl rfl (run_callF rfl) (indexFunc_spec (ha.mono fun b o h => Or.inr h) hN p g cs (fun F' hF' => hs F' fun b o h => hF' b o (Or.inr h))) ?_
  rintro _ ⟨r, rfl, hr⟩
  refine Rg.pure rfl rfl rfl (Pv.geq rfl rfl) ?_
  refine Rg.pure rfl rfl rfl (Pv.assign rfl) ?_
  refine Rg.nil ?_
  refine Vc.ret (Vc.rets rfl (.cons (.tmp rfl) (.nil)) ?_)
  exact congrArg Value.bool hr
theorem right_spec {F : Fm} {va : Value} {es : List Eg} (ha : Arg edgeE F va es) (hN : es.length < 1073741824) (hE : ∀ e ∈ es, InE e) (N : Int) :
    Spec Try.prog 15 #[grV N va] F [] fun v _ => v = .bool (rightG N es) := by
  obtain ⟨p, c, rfl⟩ := ha.shape
  refine Spec.of (n := 22) (vs := [grV N (.slice p es.length c)]) Try.func15 rfl Try.ntmps15 rfl ?_
  refine Vc.seq ?_
  refine Vc.text (List.range 2) (sd [(0, .eff), (1, .pure)]) rfl ?_
  refine Rg.box rfl rfl rfl rfl rfl (fun b1 => ?_)
  refine Rg.pure rfl rfl rfl (Pv.assign rfl) ?_
  refine Rg.nil ?_
  refine Vc.seq ?_
  refine Vc.seq ?_
  refine Vc.text (List.range 14) (sd [(0, .pure), (1, .read), (2, .pure), (3, .pure), (4, .pure), (5, .read), (6, .pure), (7, .pure), (8, .pure), (9, .pure), (10, .read), (11, .pure), (12, .pure), (13, .pure)]) rfl ?_
  refine Rg.pure rfl rfl rfl (Pv.fa rfl) ?_
  refine Rg.read rfl rfl rfl (Ev.ld rfl rfl) ?_
  refine Rg.pure rfl rfl rfl (Pv.lss rfl rfl) ?_
  refine Rg.pure rfl rfl rfl (Pv.move rfl) ?_
  refine Rg.split (t := 6) rfl (fun h6 => ?_) (fun h6 => ?_)
  ·
    simp only [decide_eq_true_eq] at h6
    iterate 3 (first | refine Rg.skipP rfl rfl rfl ?_ | refine Rg.skipR rfl rfl rfl ?_ | refine Rg.skipE rfl rfl rfl ?_)
    refine Rg.pure rfl rfl rfl (Pv.pickT rfl rfl) ?_
    refine Rg.pure rfl rfl rfl (Pv.move rfl) ?_
    iterate 4 (first | refine Rg.skipP rfl rfl rfl ?_ | refine Rg.skipR rfl rfl rfl ?_ | refine Rg.skipE rfl rfl rfl ?_)
    refine Rg.pure rfl rfl rfl (Pv.pickT rfl rfl) ?_
    refine Rg.nil ?_
    refine Vc.condT rfl ?_
    refine Vc.seq ?_
    refine Vc.text (List.range 1) (sd [(0, .pure)]) rfl ?_
    refine Rg.pure rfl rfl rfl (Pv.assign rfl) ?_
    refine Rg.nil ?_
    refine Vc.ret (Vc.rets rfl (.cons (.tmp rfl) (.nil)) ?_)
    exact congrArg Value.bool (by unfold rightG; rw [decide_eq_false (show ¬ 0 ≤ N by omega)]; rfl)
  ·
    simp only [decide_eq_false_iff_not] at h6
    refine Rg.pure rfl rfl rfl (Pv.fa rfl) ?_
    refine Rg.read rfl rfl rfl (Ev.ld rfl rfl) ?_
    refine Rg.pure rfl rfl rfl (Pv.gtr rfl rfl) ?_
    refine Rg.pure rfl rfl rfl (Pv.pickF rfl rfl) ?_
    refine Rg.pure rfl rfl rfl (Pv.move rfl) ?_
    refine Rg.split (t := 11) rfl (fun h11 => ?_) (fun h11 => ?_)
    ·
      simp only [decide_eq_true_eq] at h11
      iterate 4 (first | refine Rg.skipP rfl rfl rfl ?_ | refine Rg.skipR rfl rfl rfl ?_ | refine Rg.skipE rfl rfl rfl ?_)
      refine Rg.pure rfl rfl rfl (Pv.pickT rfl rfl) ?_
      refine Rg.nil ?_
      refine Vc.condT rfl ?_
      refine Vc.seq ?_
      refine Vc.text (List.range 1) (sd [(0, .pure)]) rfl ?_
      refine Rg.pure rfl rfl rfl (Pv.assign rfl) ?_
      refine Rg.nil ?_
      refine Vc.ret (Vc.rets rfl (.cons (.tmp rfl) (.nil)) ?_)
      exact congrArg Value.bool (by unfold rightG; rw [decide_eq_false (show ¬ N ≤ 1048576 by omega)]; simp)
    ·
      simp only [decide_eq_false_iff_not] at h11
      refine Rg.pure rfl rfl rfl (Pv.fa rfl) ?_
      refine Rg.read rfl rfl rfl (Ev.ld rfl rfl) ?_
      refine Rg.pure rfl rfl rfl (Pv.lenS rfl) ?_
      refine Rg.pure rfl rfl rfl (Pv.gtr rfl rfl) ?_
      refine Rg.pure rfl rfl rfl (Pv.pickF rfl rfl) ?_
      refine Rg.nil ?_
      refine Vc.cond rfl (fun h16 => ?_) (fun h16 => ?_)
      ·
        simp only [decide_eq_true_eq] at h16
        refine Vc.seq ?_
        refine Vc.text (List.range 1) (sd [(0, .pure)]) rfl ?_
        refine Rg.pure rfl rfl rfl (Pv.assign rfl) ?_
        refine Rg.nil ?_
        refine Vc.ret (Vc.rets rfl (.cons (.tmp rfl) (.nil)) ?_)
        exact congrArg Value.bool (by unfold rightG; rw [decide_eq_false (show ¬ es.length ≤ 1048576 by omega)]; simp)
      ·
        simp only [decide_eq_false_iff_not] at h16
        refine Vc.skip ?_
        refine Vc.seq ?_
        refine Vc.text (List.range 6) (sd [(0, .pure), (1, .read), (2, .pure), (3, .eff), (4, .pure), (5, .pure)]) rfl ?_
        refine Rg.pure rfl rfl rfl (Pv.fa rfl) ?_
        refine Rg.read rfl rfl rfl (Ev.ld rfl rfl) ?_
        refine Rg.pure rfl rfl rfl (Pv.mkF rfl rfl) ?_
        refine Rg.callP rfl rfl rfl (run_callF rfl) (containsFunc_spec (ha.mono fun b o h => Or.inr h) hN (fun e => decide (N ≤ (e.f : Int)) || decide (N ≤ (e.t : Int))) 24 [.pointer (some ⟨b1, 0, none⟩)] (fun F' hF' x hx => by have : Fat F' b1 (cellsO [.int .i64 N, .slice p es.length c] 24) := ⟨hF' _ _ (.inl (by simp))⟩; exact right1_spec x (hE x hx))) ?_
        rintro _ rfl
        refine Rg.pure rfl rfl rfl (Pv.not rfl) ?_
        refine Rg.pure rfl rfl rfl (Pv.assign rfl) ?_
        refine Rg.nil ?_
        refine Vc.ret (Vc.rets rfl (.cons (.tmp rfl) (.nil)) ?_)
        exact congrArg Value.bool (by unfold rightG; rw [decide_eq_true (show 0 ≤ N by omega), decide_eq_true (show N ≤ 1048576 by omega), decide_eq_true (show es.length ≤ 1048576 by omega)]; rfl)
end Go.Proofs.Ytjoldkfedmiciaa
