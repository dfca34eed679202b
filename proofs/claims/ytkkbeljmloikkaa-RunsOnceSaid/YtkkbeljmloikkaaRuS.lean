/- Runs: Combine, compare, folder.put, Sorted; the document's too. -/
import Derived.Test.YtkkbeljmloikkaaSeqr
import Derived.Test.YtkkbeljmloikkaaRuP
import Derived.Laws.Externs
namespace Go.Proofs.Ytkkbeljmloikkaa
set_option linter.unusedVariables false

theorem run_Add64 (x y : Int) (hx : 0 ≤ x) (hy : 0 ≤ y) (w : World) : (callFunc 33 #[.int .u64 x, .int .u64 y, .int .u64 0]).run Try.prog w = .ok (.value (.tuple #[.int .u64 ((x + y) % 18446744073709551616), .int .u64 ((x + y) / 18446744073709551616)])) w := by
  rw [run_callFunc_extern Try.func33 (by kernel_rfl) (by kernel_rfl) (by kernel_rfl) (e := add64Entry) (by kernel_rfl), run_add64 x y 0 hx hy (by omega) (by omega)]
  simp only [Result.andThen, Int.add_zero]
theorem combine_spec (F : Fm) (how a b : Int) (ha : 0 ≤ a) (hb : 0 ≤ b) :
    Spec Try.prog 20 #[.int .i64 how, .int .u64 a, .int .u64 b] F [] fun v _ => v = .int .u64 (comb how a b) := by
  refine Spec.of (n := 23) (vs := [.int .i64 how, .int .u64 a, .int .u64 b]) Try.func20 rfl Try.ntmps20 rfl ?_
  refine Vc.seq ?_
  refine Vc.text (List.range 1) (sd [(0, .pure)]) rfl ?_
  refine Rg.pure rfl rfl rfl (Pv.assign rfl) ?_
  refine Rg.nil ?_
  refine Vc.seq ?_
  refine Vc.seq ?_
  refine Vc.text (List.range 2) (sd [(0, .pure), (1, .pure)]) rfl ?_
  refine Rg.pure rfl rfl rfl (Pv.move rfl) ?_
  refine Rg.pure rfl rfl rfl (Pv.neq rfl rfl) ?_
  refine Rg.nil ?_
  refine Vc.cond rfl (fun h10 => ?_) (fun h10 => ?_)
  ·
    simp only [bne_iff_ne, ne_eq] at h10
    refine Vc.seq ?_
    refine Vc.text (List.range 4) (sd [(0, .pure), (1, .pure), (2, .pure), (3, .pure)]) rfl ?_
    refine Rg.pure rfl rfl rfl (Pv.move rfl) ?_
    refine Rg.pure rfl rfl rfl (Pv.move rfl) ?_
    refine Rg.pure rfl rfl rfl (Pv.min rfl rfl) ?_
    refine Rg.pure rfl rfl rfl (Pv.assign rfl) ?_
    refine Rg.nil ?_
    refine Vc.ret (Vc.rets rfl (.cons (.tmp rfl) (.nil)) ?_)
    exact congrArg (Value.int .u64) (by rw [comb, if_neg h10])
  ·
    simp only [bne_eq_false_iff_eq] at h10
    refine Vc.skip ?_
    refine Vc.seq ?_
    refine Vc.seq ?_
    refine Vc.text (List.range 8) (sd [(0, .pure), (1, .pure), (2, .eff), (3, .pure), (4, .pure), (5, .pure), (6, .pure), (7, .pure)]) rfl ?_
    refine Rg.pure rfl rfl rfl (Pv.move rfl) ?_
    refine Rg.pure rfl rfl rfl (Pv.move rfl) ?_
    refine Rg.ext rfl rfl rfl rfl (run_Add64 a b ha hb) ?_
    refine Rg.pure rfl rfl rfl (Pv.move rfl) ?_
    refine Rg.pure rfl rfl rfl (Pv.extract rfl rfl) ?_
    refine Rg.pure rfl rfl rfl (Pv.extract rfl rfl) ?_
    refine Rg.pure rfl rfl rfl (Pv.assign rfl) ?_
    refine Rg.pure rfl rfl rfl (Pv.assign rfl) ?_
    refine Rg.nil ?_
    refine Vc.seq ?_
    refine Vc.text (List.range 2) (sd [(0, .pure), (1, .pure)]) rfl ?_
    refine Rg.pure rfl rfl rfl (Pv.move rfl) ?_
    refine Rg.pure rfl rfl rfl (Pv.eql rfl rfl) ?_
    refine Rg.nil ?_
    refine Vc.cond rfl (fun h21 => ?_) (fun h21 => ?_)
    ·
      simp only [beq_iff_eq] at h21
      refine Vc.seq ?_
      refine Vc.text (List.range 2) (sd [(0, .pure), (1, .pure)]) rfl ?_
      refine Rg.pure rfl rfl rfl (Pv.move rfl) ?_
      refine Rg.pure rfl rfl rfl (Pv.assign rfl) ?_
      refine Rg.nil ?_
      refine Vc.ret (Vc.rets rfl (.cons (.tmp rfl) (.nil)) ?_)
      exact congrArg (Value.int .u64) (by rw [comb, if_pos h10, if_pos (by omega)]; omega)
    ·
      simp only [beq_eq_false_iff_ne, ne_eq] at h21
      refine Vc.skip ?_
      refine Vc.seq ?_
      refine Vc.text (List.range 1) (sd [(0, .pure)]) rfl ?_
      refine Rg.pure rfl rfl rfl (Pv.assign rfl) ?_
      refine Rg.nil ?_
      refine Vc.ret (Vc.rets rfl (.cons (.tmp rfl) (.nil)) ?_)
      exact congrArg (Value.int .u64) (by rw [comb, if_pos h10, if_neg (by omega)])
theorem wrap_u64i {z : Int} (h : 0 ≤ z) : IntKind.u64.wrap z = z % 18446744073709551616 := by
  simp [IntKind.wrap, IntKind.bits, IntKind.signed]
theorem rcombine_spec (F : Fm) (how a b : Int) (ha : 0 ≤ a ∧ a < 18446744073709551616) (hb : 0 ≤ b ∧ b < 18446744073709551616) :
    Spec Try.prog 21 #[.int .i64 how, .int .u64 a, .int .u64 b] F [] fun v _ => v = .int .u64 (comb how a b) := by
  refine Spec.of (n := 20) (vs := [.int .i64 how, .int .u64 a, .int .u64 b]) Try.func21 rfl Try.ntmps21 rfl ?_
  refine Vc.seq ?_
  refine Vc.text (List.range 1) (sd [(0, .pure)]) rfl ?_
  refine Rg.pure rfl rfl rfl (Pv.assign rfl) ?_
  refine Rg.nil ?_
  refine Vc.seq ?_
  refine Vc.seq ?_
  refine Vc.text (List.range 2) (sd [(0, .pure), (1, .pure)]) rfl ?_
  refine Rg.pure rfl rfl rfl (Pv.move rfl) ?_
  refine Rg.pure rfl rfl rfl (Pv.neq rfl rfl) ?_
  refine Rg.nil ?_
  refine Vc.cond rfl (fun h8 => ?_) (fun h8 => ?_)
  ·
    simp only [bne_iff_ne, ne_eq] at h8
    refine Vc.seq ?_
    refine Vc.text (List.range 4) (sd [(0, .pure), (1, .pure), (2, .pure), (3, .pure)]) rfl ?_
    refine Rg.pure rfl rfl rfl (Pv.move rfl) ?_
    refine Rg.pure rfl rfl rfl (Pv.move rfl) ?_
    refine Rg.pure rfl rfl rfl (Pv.min rfl rfl) ?_
    refine Rg.pure rfl rfl rfl (Pv.assign rfl) ?_
    refine Rg.nil ?_
    refine Vc.ret (Vc.rets rfl (.cons (.tmp rfl) (.nil)) ?_)
    exact congrArg (Value.int .u64) (by rw [comb, if_neg h8])
  ·
    simp only [bne_eq_false_iff_eq] at h8
    refine Vc.skip ?_
    refine Vc.seq ?_
    refine Vc.seq ?_
    refine Vc.text (List.range 5) (sd [(0, .pure), (1, .pure), (2, .pure), (3, .pure), (4, .pure)]) rfl ?_
    refine Rg.pure rfl rfl rfl (Pv.move rfl) ?_
    refine Rg.pure rfl rfl rfl (Pv.move rfl) ?_
    refine Rg.pure rfl rfl rfl (Pv.as (.int .u64 ((a + b) % 18446744073709551616)) (Pv.addW rfl rfl) (by rw [wrap_u64i (by omega)])) ?_
    refine Rg.pure rfl rfl rfl (Pv.move rfl) ?_
    refine Rg.pure rfl rfl rfl (Pv.lss rfl rfl) ?_
    refine Rg.nil ?_
    refine Vc.cond rfl (fun h16 => ?_) (fun h16 => ?_)
    ·
      simp only [decide_eq_true_eq] at h16
      refine Vc.seq ?_
      refine Vc.text (List.range 1) (sd [(0, .pure)]) rfl ?_
      refine Rg.pure rfl rfl rfl (Pv.assign rfl) ?_
      refine Rg.nil ?_
      refine Vc.ret (Vc.rets rfl (.cons (.tmp rfl) (.nil)) ?_)
      exact congrArg (Value.int .u64) (by rw [comb, if_pos h8, if_neg (by omega)])
    ·
      simp only [decide_eq_false_iff_not] at h16
      refine Vc.skip ?_
      refine Vc.seq ?_
      refine Vc.text (List.range 4) (sd [(0, .pure), (1, .pure), (2, .pure), (3, .pure)]) rfl ?_
      refine Rg.pure rfl rfl rfl (Pv.move rfl) ?_
      refine Rg.pure rfl rfl rfl (Pv.move rfl) ?_
      refine Rg.pure rfl rfl rfl (Pv.as (.int .u64 ((a + b) % 18446744073709551616)) (Pv.addW rfl rfl) (by rw [wrap_u64i (by omega)])) ?_
      refine Rg.pure rfl rfl rfl (Pv.assign rfl) ?_
      refine Rg.nil ?_
      refine Vc.ret (Vc.rets rfl (.cons (.tmp rfl) (.nil)) ?_)
      exact congrArg (Value.int .u64) (by rw [comb, if_pos h8, if_pos (by omega)]; omega)
theorem right_spec (F : Fm) (how : Int) : Spec Try.prog 24 #[.int .i64 how] F [] fun v _ => v = .bool (decide (0 ≤ how) && decide (how ≤ 2)) := by
  refine Spec.of (n := 9) (vs := [.int .i64 how]) Try.func24 rfl Try.ntmps24 rfl ?_
  refine Vc.seq ?_
  refine Vc.text (List.range 1) (sd [(0, .pure)]) rfl ?_
  refine Rg.pure rfl rfl rfl (Pv.assign rfl) ?_
  refine Rg.nil ?_
  refine Vc.seq ?_
  refine Vc.text (List.range 7) (sd [(0, .pure), (1, .pure), (2, .pure), (3, .pure), (4, .pure), (5, .pure), (6, .pure)]) rfl ?_
  refine Rg.pure rfl rfl rfl (Pv.move rfl) ?_
  refine Rg.pure rfl rfl rfl (Pv.geq rfl rfl) ?_
  refine Rg.pure rfl rfl rfl (Pv.move rfl) ?_
  refine Rg.split (t := 5) rfl (fun h5 => ?_) (fun h5 => ?_)
  ·
    refine Rg.pure rfl rfl rfl (Pv.move rfl) ?_
    refine Rg.pure rfl rfl rfl (Pv.leq rfl rfl) ?_
    refine Rg.pure rfl rfl rfl (Pv.pickT rfl rfl) ?_
    refine Rg.pure rfl rfl rfl (Pv.assign rfl) ?_
    refine Rg.nil ?_
    refine Vc.ret (Vc.rets rfl (.cons (.tmp rfl) (.nil)) ?_)
    exact congrArg Value.bool (by simp [*])
  ·
    iterate 2 (first | refine Rg.skipP rfl rfl rfl ?_ | refine Rg.skipR rfl rfl rfl ?_ | refine Rg.skipE rfl rfl rfl ?_)
    refine Rg.pure rfl rfl rfl (Pv.pickF rfl rfl) ?_
    refine Rg.pure rfl rfl rfl (Pv.assign rfl) ?_
    refine Rg.nil ?_
    refine Vc.ret (Vc.rets rfl (.cons (.tmp rfl) (.nil)) ?_)
    exact congrArg Value.bool (by simp [*])
/-- the order of records -/
def cfR (a b : Rc) : Int := if ltR a b = true then -1 else if ltR b a = true then 1 else 0
theorem compare_spec (F : Fm) (a b : Rc) : Spec Try.prog 27 #[recV a, recV b] F [] fun v _ => v = .int .i64 (cfR a b) := by
  refine Spec.of (n := 13) (vs := [recV a, recV b]) Try.func27 rfl Try.ntmps27 rfl ?_
  refine Vc.seq ?_
  refine Vc.text (List.range 3) (sd [(0, .eff), (1, .eff), (2, .pure)]) rfl ?_
  refine Rg.box rfl rfl rfl rfl rfl (fun b2 => ?_)
  refine Rg.box rfl rfl rfl rfl rfl (fun b3 => ?_)
  refine Rg.pure rfl rfl rfl (Pv.assign rfl) ?_
  refine Rg.nil ?_
  refine Vc.seq ?_
  refine Vc.block ?_
  refine Vc.seq ?_
  refine Vc.text (List.range 4) (sd [(0, .read), (1, .read), (2, .eff), (3, .pure)]) rfl ?_
  refine Rg.read rfl rfl rfl (Ev.ldA rfl rfl) ?_
  refine Rg.read rfl rfl rfl (Ev.ldA rfl rfl) ?_
  refine Rg.callP rfl rfl rfl (run_callF rfl) (before_spec _ _ _) ?_
  rintro _ rfl
  refine Rg.pure rfl rfl rfl (Pv.assign rfl) ?_
  refine Rg.nil ?_
  refine Vc.cond rfl (fun h5 => ?_) (fun h5 => ?_)
  ·
    refine Vc.seq ?_
    refine Vc.text (List.range 1) (sd [(0, .pure)]) rfl ?_
    refine Rg.pure rfl rfl rfl (Pv.assign rfl) ?_
    refine Rg.nil ?_
    refine Vc.ret (Vc.rets rfl (.cons (.tmp rfl) (.nil)) ?_)
    exact congrArg (Value.int .i64) (by rw [cfR, if_pos h5])
  ·
    refine Vc.seq ?_
    refine Vc.text (List.range 4) (sd [(0, .read), (1, .read), (2, .eff), (3, .pure)]) rfl ?_
    refine Rg.read rfl rfl rfl (Ev.ldA rfl rfl) ?_
    refine Rg.read rfl rfl rfl (Ev.ldA rfl rfl) ?_
    refine Rg.callP rfl rfl rfl (run_callF rfl) (before_spec _ _ _) ?_
    rintro _ rfl
    refine Rg.pure rfl rfl rfl (Pv.assign rfl) ?_
    refine Rg.nil ?_
    refine Vc.cond rfl (fun h9 => ?_) (fun h9 => ?_)
    ·
      refine Vc.seq ?_
      refine Vc.text (List.range 1) (sd [(0, .pure)]) rfl ?_
      refine Rg.pure rfl rfl rfl (Pv.assign rfl) ?_
      refine Rg.nil ?_
      refine Vc.ret (Vc.rets rfl (.cons (.tmp rfl) (.nil)) ?_)
      exact congrArg (Value.int .i64) (by rw [cfR, if_neg (by simpa using h5), if_pos h9])
    ·
      refine Vc.skip ?_
      refine Vc.blk ?_
      refine Vc.seq ?_
      refine Vc.text (List.range 1) (sd [(0, .pure)]) rfl ?_
      refine Rg.pure rfl rfl rfl (Pv.assign rfl) ?_
      refine Rg.nil ?_
      refine Vc.ret (Vc.rets rfl (.cons (.tmp rfl) (.nil)) ?_)
      exact congrArg (Value.int .i64) (by rw [cfR, if_neg (by simpa using h5), if_neg (by simpa using h9)])
theorem cfR_lt {a b : Rc} : cfR a b < 0 ↔ ltR a b = true := by unfold cfR; split <;> (try split) <;> simp_all
theorem cfR_swo : Go.Sort.SWO (Go.Proofs.ltOf cfR) := ⟨fun x => by simp only [Go.Proofs.ltOf, decide_eq_false_iff_not, cfR_lt, ltR_iff]; omega, fun x y z => by simp only [Go.Proofs.ltOf, decide_eq_true_eq, cfR_lt, ltR_iff]; omega, fun x y z => by simp only [Go.Proofs.ltOf, decide_eq_false_iff_not, cfR_lt, ltR_iff]; omega⟩

/-- A folder that holds these. -/
def FoldAt (fb : Nat) (how : Int) (out : List Rc) (hl : Hl) : Prop := ∃ v sg, Own recE v out sg ∧ hl = (fb, cellsO [.int .i64 how, v] 50) :: sg
theorem last_cells (x : Rc) (k v : Int) (h : x.key = k) : recE.cells ⟨k, v⟩ = (recE.cells x).set 1 (.int .u64 v) := by subst h; rfl
theorem putF_spec (F : Fm) (fb : Nat) (how : Int) (out : List Rc) (r : Rc) (hl : Hl) (hh : FoldAt fb how out hl) (hn : out.length < 4294967296) (hnn : NN out) (hr : 0 ≤ r.val) :
    Spec Try.prog 28 #[.pointer (some ⟨fb, 0, none⟩), recV r] F hl fun _ hl' => FoldAt fb how (stepC how out r) hl' := by
  obtain ⟨v, seg, own, rfl⟩ := hh
  obtain ⟨p, cap0, rfl⟩ := own.shape
  refine Spec.of (n := 67) (vs := [.pointer (some ⟨fb, 0, none⟩), recV r]) Try.func28 rfl Try.ntmps28 rfl ?_
  refine Vc.seq ?_
  refine Vc.text (List.range 1) (sd [(0, .eff)]) rfl ?_
  refine Rg.box rfl rfl rfl rfl rfl (fun b3 => ?_)
  refine Rg.nil ?_
  refine Vc.seq ?_
  refine Vc.seq ?_
  refine Vc.text (List.range 6) (sd [(0, .pure), (1, .pure), (2, .pure), (3, .read), (4, .pure), (5, .pure)]) rfl ?_
  refine Rg.pure rfl rfl rfl (Pv.move rfl) ?_
  refine Rg.pure rfl rfl rfl (Pv.nilp rfl) ?_
  refine Rg.pure rfl rfl rfl (Pv.fa rfl) ?_
  refine Rg.read rfl rfl rfl (Ev.ld rfl rfl) ?_
  refine Rg.pure rfl rfl rfl (Pv.lenS rfl) ?_
  refine Rg.pure rfl rfl rfl (Pv.assign rfl) ?_
  refine Rg.nil ?_
  refine Vc.seq ?_
  refine Vc.draw [] (sd [(0, .pure), (1, .pure), (2, .pure), (3, .read), (4, .pure), (5, .pure), (6, .pure), (7, .pure), (8, .pure), (9, .pure), (10, .pure), (11, .pure), (12, .pure), (13, .read), (14, .pure), (15, .pure), (16, .pure), (17, .pure), (18, .read), (19, .pure), (20, .read), (21, .pure), (22, .pure)]) mixed (by kernel_rfl) ?_
  refine Rg.pure rfl rfl rfl (Pv.move rfl) ?_
  refine Rg.pure rfl rfl rfl (Pv.nilp rfl) ?_
  refine Rg.pure rfl rfl rfl (Pv.fa rfl) ?_
  refine Rg.read rfl rfl rfl (Ev.ld rfl rfl) ?_
  refine Rg.pure rfl rfl rfl (Pv.neq rfl rfl) ?_
  refine Rg.pure rfl rfl rfl (Pv.move rfl) ?_
  refine Rg.split (t := 15) rfl (fun h15 => ?_) (fun h15 => ?_)
  ·
    simp only [bne_iff_ne, ne_eq] at h15
    refine Rg.pure rfl rfl rfl (Pv.move rfl) ?_
    refine Rg.pure rfl rfl rfl (Pv.gtr rfl rfl) ?_
    refine Rg.pure rfl rfl rfl (Pv.pickT rfl rfl) ?_
    refine Rg.pure rfl rfl rfl (Pv.move rfl) ?_
    refine Rg.split (t := 19) rfl (fun h19 => ?_) (fun h19 => ?_)
    ·
      simp only [decide_eq_true_eq] at h19
      obtain ⟨b, cap, sp, e, rfl, hc, hm⟩ := own.block (by omega)
      cases e
      generalize hx : out[out.length - 1]! = x
      refine Rg.pure rfl rfl rfl (Pv.move rfl) ?_
      refine Rg.pure rfl rfl rfl (Pv.nilp rfl) ?_
      refine Rg.pure rfl rfl rfl (Pv.fa rfl) ?_
      refine Rg.read rfl rfl rfl (Ev.ld rfl rfl) ?_
      refine Rg.pure rfl rfl rfl (Pv.move rfl) ?_
      refine Rg.pure rfl rfl rfl (Pv.asI (out.length - 1) (Pv.sub rfl rfl (by omega)) (by omega)) ?_
      refine Rg.pure rfl rfl rfl (Pv.ixA (out.length - 1) rfl rfl (by omega) (by omega)) ?_
      refine Rg.pure rfl rfl rfl (Pv.fa rfl) ?_
      refine Rg.read rfl rfl rfl (Ev.ldRf (E := recE) (u := .int .u64 x.key) (out.length - 1) 0 rfl (by rw [show recE.k = 2 from rfl]; omega) (by omega) (by rw [hx]; rfl)) ?_
      refine Rg.pure rfl rfl rfl (Pv.fa rfl) ?_
      refine Rg.read rfl rfl rfl (Ev.ld rfl rfl) ?_
      refine Rg.pure rfl rfl rfl (Pv.eql rfl rfl) ?_
      refine Rg.pure rfl rfl rfl (Pv.pickT rfl rfl) ?_
      refine Rg.nil ?_
      refine Vc.cond rfl (fun h32 => ?_) (fun h32 => ?_)
      ·
        simp only [beq_iff_eq] at h32
        have hxv : 0 ≤ x.val := by rw [← hx]; exact hnn _ (by rw [getElem!_pos out _ (by omega)]; exact List.getElem_mem _)
        refine Vc.seq ?_
        refine Vc.draw [24] (sd [(0, .pure), (1, .pure), (2, .pure), (3, .read), (4, .pure), (5, .pure), (6, .pure), (7, .pure), (8, .pure), (9, .read), (10, .pure), (11, .pure), (12, .pure), (13, .read), (14, .pure), (15, .pure), (16, .pure), (17, .pure), (18, .read), (19, .pure), (20, .read), (21, .eff), (22, .pure), (23, .pure), (24, .eff)]) mixed (by kernel_rfl) ?_
        refine Rg.pure rfl rfl rfl (Pv.move rfl) ?_
        refine Rg.pure rfl rfl rfl (Pv.nilp rfl) ?_
        refine Rg.pure rfl rfl rfl (Pv.fa rfl) ?_
        refine Rg.read rfl rfl rfl (Ev.ld rfl rfl) ?_
        refine Rg.pure rfl rfl rfl (Pv.move rfl) ?_
        refine Rg.pure rfl rfl rfl (Pv.asI (out.length - 1) (Pv.sub rfl rfl (by omega)) (by omega)) ?_
        refine Rg.pure rfl rfl rfl (Pv.move rfl) ?_
        refine Rg.pure rfl rfl rfl (Pv.nilp rfl) ?_
        refine Rg.pure rfl rfl rfl (Pv.fa rfl) ?_
        refine Rg.read rfl rfl rfl (Ev.ld rfl rfl) ?_
        refine Rg.pure rfl rfl rfl (Pv.move rfl) ?_
        refine Rg.pure rfl rfl rfl (Pv.nilp rfl) ?_
        refine Rg.pure rfl rfl rfl (Pv.fa rfl) ?_
        refine Rg.read rfl rfl rfl (Ev.ld rfl rfl) ?_
        refine Rg.pure rfl rfl rfl (Pv.move rfl) ?_
        refine Rg.pure rfl rfl rfl (Pv.asI (out.length - 1) (Pv.sub rfl rfl (by omega)) (by omega)) ?_
        refine Rg.pure rfl rfl rfl (Pv.ixA (out.length - 1) rfl rfl (by omega) (by omega)) ?_
        refine Rg.pure rfl rfl rfl (Pv.fa rfl) ?_
        refine Rg.read rfl rfl rfl (Ev.ldRf (E := recE) (u := .int .u64 x.val) (out.length - 1) 1 rfl (by rw [show recE.k = 2 from rfl]; omega) (by omega) (by rw [hx]; rfl)) ?_
        refine Rg.pure rfl rfl rfl (Pv.fa rfl) ?_
        refine Rg.read rfl rfl rfl (Ev.ld rfl rfl) ?_
        refine Rg.callP rfl rfl rfl (run_callF rfl) (combine_spec _ _ _ _ hxv hr) ?_
        rintro _ rfl
        refine Rg.pure rfl rfl rfl (Pv.ixA (out.length - 1) rfl rfl (by omega) (by omega)) ?_
        refine Rg.pure rfl rfl rfl (Pv.fa rfl) ?_
        refine Rg.storeRf (E := recE) (z := ⟨r.key, comb how x.val r.val⟩) (out.length - 1) 1 rfl rfl rfl rfl rfl rfl (by rw [hx]; exact last_cells x _ _ h32) (by decide) (by rw [show recE.k = 2 from rfl]; omega) (by omega) rfl ?_
        refine Rg.nil ?_
        exact Vc.ret (Vc.retsH rfl (.nil) (⟨_, _, (show Own recE _ (stepC how out r) _ from by rw [stepC, if_pos ⟨h15, by omega, by rw [hx]; exact h32⟩, hx]; exact Own.blk' b cap0 out.length (out.set (out.length - 1) ⟨r.key, comb how x.val r.val⟩) sp (by simp) hc hm), rfl⟩) pulled)
      ·
        simp only [beq_eq_false_iff_ne, ne_eq] at h32
        refine Vc.skip ?_
        refine Vc.draw [7, 10] (sd [(0, .pure), (1, .pure), (2, .pure), (3, .pure), (4, .read), (5, .read), (6, .eff), (7, .eff), (8, .pure), (9, .pure), (10, .eff)]) mixed (by kernel_rfl) ?_
        refine Rg.pure rfl rfl rfl (Pv.move rfl) ?_
        refine Rg.pure rfl rfl rfl (Pv.move rfl) ?_
        refine Rg.pure rfl rfl rfl (Pv.nilp rfl) ?_
        refine Rg.pure rfl rfl rfl (Pv.fa rfl) ?_
        refine Rg.read rfl rfl rfl (Ev.ld rfl rfl) ?_
        refine Rg.read rfl rfl rfl (Ev.ldA rfl rfl) ?_
        refine Rg.bslice1 rfl rfl rfl rfl rfl rfl rfl (fun b63 => ?_)
        refine Rg.append rfl rfl rfl rfl rfl own (Src.one (y := r) rfl) (by simp <;> omega) (by simp [maxLen] <;> omega) rfl (fun v64 s64 own64 => ?_)
        refine Rg.pure rfl rfl rfl (Pv.nilp rfl) ?_
        refine Rg.pure rfl rfl rfl (Pv.fa rfl) ?_
        refine Rg.store rfl rfl rfl rfl rfl own64.one rfl rfl ?_
        refine Rg.nil ?_
        exact Vc.fin (Vc.retsH rfl .nil (⟨_, _, (show Own recE _ (stepC how out r) _ from by rw [stepC, if_neg (by rintro ⟨h1, h2, h3⟩; first | omega | (rw [hx] at h3; exact h32 h3))]; exact own64), rfl⟩) pulled)
    ·
      simp only [decide_eq_false_iff_not] at h19
      iterate 12 (first | refine Rg.skipP rfl rfl rfl ?_ | refine Rg.skipR rfl rfl rfl ?_ | refine Rg.skipE rfl rfl rfl ?_)
      refine Rg.pure rfl rfl rfl (Pv.pickF rfl rfl) ?_
      refine Rg.nil ?_
      refine Vc.condF rfl ?_
      refine Vc.skip ?_
      refine Vc.draw [7, 10] (sd [(0, .pure), (1, .pure), (2, .pure), (3, .pure), (4, .read), (5, .read), (6, .eff), (7, .eff), (8, .pure), (9, .pure), (10, .eff)]) mixed (by kernel_rfl) ?_
      refine Rg.pure rfl rfl rfl (Pv.move rfl) ?_
      refine Rg.pure rfl rfl rfl (Pv.move rfl) ?_
      refine Rg.pure rfl rfl rfl (Pv.nilp rfl) ?_
      refine Rg.pure rfl rfl rfl (Pv.fa rfl) ?_
      refine Rg.read rfl rfl rfl (Ev.ld rfl rfl) ?_
      refine Rg.read rfl rfl rfl (Ev.ldA rfl rfl) ?_
      refine Rg.bslice1 rfl rfl rfl rfl rfl rfl rfl (fun b63 => ?_)
      refine Rg.append rfl rfl rfl rfl rfl own (Src.one (y := r) rfl) (by simp <;> omega) (by simp [maxLen] <;> omega) rfl (fun v64 s64 own64 => ?_)
      refine Rg.pure rfl rfl rfl (Pv.nilp rfl) ?_
      refine Rg.pure rfl rfl rfl (Pv.fa rfl) ?_
      refine Rg.store rfl rfl rfl rfl rfl own64.one rfl rfl ?_
      refine Rg.nil ?_
      exact Vc.fin (Vc.retsH rfl .nil (⟨_, _, (show Own recE _ (stepC how out r) _ from by rw [stepC, if_neg (by rintro ⟨h1, h2, h3⟩; first | omega | (rw [hx] at h3; exact h32 h3))]; exact own64), rfl⟩) pulled)
  ·
    simp only [bne_eq_false_iff_eq] at h15
    iterate 2 (first | refine Rg.skipP rfl rfl rfl ?_ | refine Rg.skipR rfl rfl rfl ?_ | refine Rg.skipE rfl rfl rfl ?_)
    refine Rg.pure rfl rfl rfl (Pv.pickF rfl rfl) ?_
    refine Rg.pure rfl rfl rfl (Pv.move rfl) ?_
    iterate 12 (first | refine Rg.skipP rfl rfl rfl ?_ | refine Rg.skipR rfl rfl rfl ?_ | refine Rg.skipE rfl rfl rfl ?_)
    refine Rg.pure rfl rfl rfl (Pv.pickF rfl rfl) ?_
    refine Rg.nil ?_
    refine Vc.condF rfl ?_
    refine Vc.skip ?_
    refine Vc.draw [7, 10] (sd [(0, .pure), (1, .pure), (2, .pure), (3, .pure), (4, .read), (5, .read), (6, .eff), (7, .eff), (8, .pure), (9, .pure), (10, .eff)]) mixed (by kernel_rfl) ?_
    refine Rg.pure rfl rfl rfl (Pv.move rfl) ?_
    refine Rg.pure rfl rfl rfl (Pv.move rfl) ?_
    refine Rg.pure rfl rfl rfl (Pv.nilp rfl) ?_
    refine Rg.pure rfl rfl rfl (Pv.fa rfl) ?_
    refine Rg.read rfl rfl rfl (Ev.ld rfl rfl) ?_
    refine Rg.read rfl rfl rfl (Ev.ldA rfl rfl) ?_
    refine Rg.bslice1 rfl rfl rfl rfl rfl rfl rfl (fun b63 => ?_)
    refine Rg.append rfl rfl rfl rfl rfl own (Src.one (y := r) rfl) (by simp <;> omega) (by simp [maxLen] <;> omega) rfl (fun v64 s64 own64 => ?_)
    refine Rg.pure rfl rfl rfl (Pv.nilp rfl) ?_
    refine Rg.pure rfl rfl rfl (Pv.fa rfl) ?_
    refine Rg.store rfl rfl rfl rfl rfl own64.one rfl rfl ?_
    refine Rg.nil ?_
    exact Vc.fin (Vc.retsH rfl .nil (⟨_, _, (show Own recE _ (stepC how out r) _ from by rw [stepC, if_neg (by rintro ⟨h1, h2, h3⟩; first | omega | (rw [hx] at h3; exact h32 h3))]; exact own64), rfl⟩) pulled)
end Go.Proofs.Ytkkbeljmloikkaa
