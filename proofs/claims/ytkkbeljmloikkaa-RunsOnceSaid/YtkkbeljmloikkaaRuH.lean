/- Heaps of heads of runs: what the functions of package heap do. -/
import Derived.Test.YtkkbeljmloikkaaRuA
import Derived.Test.YtkkbeljmloikkaaRuHp
namespace Go.Proofs.Ytkkbeljmloikkaa.HH
set_option linter.unusedVariables false

abbrev headC (r : Hd) : List Value := [.int .u64 r.key, .int .u64 r.val, .int .i64 r.run]
abbrev headV (r : Hd) : Value := .agg #[.int .u64 r.key, .int .u64 r.val, .int .i64 r.run]
def headE : Enc Hd where
  k := 3
  tid := 65
  cells := headC
  val := headV
  pos := by decide
  len := fun _ => rfl
  one := fun x v hv => by simp [headC] at hv; rcases hv with rfl | rfl | rfl <;> rfl
  vc := fun _ => rfl
instance : RowTy Try.prog headE 65 := ⟨Try.sizeOf65, .inl ⟨Try.isAgg65, fun _ => rfl⟩⟩
instance : TySl Try.prog 60 headE 24 := ⟨Try.underlying60, Try.t65, _, Try.type65, rfl, rfl, rfl, rfl⟩

theorem before_spec (a b : Hd) (F : Fm) : Spec Try.prog 77 #[headV a, headV b] F [] fun v _ => v = .bool (ltR a b) := by
  refine Spec.of (n := 24) (vs := [headV a, headV b]) Try.func77 rfl Try.ntmps77 rfl ?_
  refine Vc.seq ?_
  refine Vc.text (List.range 3) (sd [(0, .eff), (1, .eff), (2, .pure)]) rfl ?_
  refine Rg.box rfl rfl rfl rfl rfl (fun b2 => ?_)
  refine Rg.box rfl rfl rfl rfl rfl (fun b3 => ?_)
  refine Rg.pure rfl rfl rfl (Pv.assign rfl) ?_
  refine Rg.nil ?_
  refine Vc.seq ?_
  refine Vc.text (List.range 20) (sd [(0, .pure), (1, .read), (2, .pure), (3, .read), (4, .eff), (5, .pure), (6, .pure), (7, .read), (8, .pure), (9, .read), (10, .pure), (11, .pure), (12, .pure), (13, .read), (14, .pure), (15, .read), (16, .pure), (17, .pure), (18, .pure), (19, .pure)]) rfl ?_
  refine Rg.pure rfl rfl rfl (Pv.fa rfl) ?_
  refine Rg.read rfl rfl rfl (Ev.as (recV ⟨a.key, a.val⟩) (Ev.ldA rfl rfl) rfl) ?_
  refine Rg.pure rfl rfl rfl (Pv.fa rfl) ?_
  refine Rg.read rfl rfl rfl (Ev.as (recV ⟨b.key, b.val⟩) (Ev.ldA rfl rfl) rfl) ?_
  refine Rg.callP rfl rfl rfl (run_callF rfl) (Go.Proofs.Ytkkbeljmloikkaa.before_spec _ _ _) ?_
  rintro _ rfl
  refine Rg.pure rfl rfl rfl (Pv.move rfl) ?_
  refine Rg.split (t := 10) rfl (fun h10 => ?_) (fun h10 => ?_)
  ·
    rw [Go.Proofs.Ytkkbeljmloikkaa.ltR_iff] at h10
    iterate 12 (first | refine Rg.skipP rfl rfl rfl ?_ | refine Rg.skipR rfl rfl rfl ?_ | refine Rg.skipE rfl rfl rfl ?_)
    refine Rg.pure rfl rfl rfl (Pv.pickT rfl rfl) ?_
    refine Rg.pure rfl rfl rfl (Pv.assign rfl) ?_
    refine Rg.nil ?_
    refine Vc.ret (Vc.rets rfl (.cons (.tmp rfl) (.nil)) ?_)
    exact congrArg Value.bool (by rw [eq_comm, ltR_iff]; rcases h10 with h | h <;> simp at h <;> omega)
  ·
    rw [← Bool.not_eq_true, Go.Proofs.Ytkkbeljmloikkaa.ltR_iff] at h10
    refine Rg.pure rfl rfl rfl (Pv.fa rfl) ?_
    refine Rg.read rfl rfl rfl (Ev.as (recV ⟨a.key, a.val⟩) (Ev.ldA rfl rfl) rfl) ?_
    refine Rg.pure rfl rfl rfl (Pv.fa rfl) ?_
    refine Rg.read rfl rfl rfl (Ev.as (recV ⟨b.key, b.val⟩) (Ev.ldA rfl rfl) rfl) ?_
    refine Rg.pure rfl rfl rfl (Pv.eqlE recE ⟨a.key, a.val⟩ ⟨b.key, b.val⟩ rfl rfl) ?_
    refine Rg.pure rfl rfl rfl (Pv.move rfl) ?_
    refine Rg.split (t := 16) rfl (fun h16 => ?_) (fun h16 => ?_)
    ·
      simp only [decide_eq_true_eq, Rc.mk.injEq] at h16
      refine Rg.pure rfl rfl rfl (Pv.fa rfl) ?_
      refine Rg.read rfl rfl rfl (Ev.ld rfl rfl) ?_
      refine Rg.pure rfl rfl rfl (Pv.fa rfl) ?_
      refine Rg.read rfl rfl rfl (Ev.ld rfl rfl) ?_
      refine Rg.pure rfl rfl rfl (Pv.lss rfl rfl) ?_
      refine Rg.pure rfl rfl rfl (Pv.pickT rfl rfl) ?_
      refine Rg.pure rfl rfl rfl (Pv.pickF rfl rfl) ?_
      refine Rg.pure rfl rfl rfl (Pv.assign rfl) ?_
      refine Rg.nil ?_
      refine Vc.ret (Vc.rets rfl (.cons (.tmp rfl) (.nil)) ?_)
      exact congrArg Value.bool (by rw [Bool.eq_iff_iff, ltR_iff, decide_eq_true_eq]; simp at h10; omega)
    ·
      simp only [decide_eq_false_iff_not, Rc.mk.injEq] at h16
      iterate 5 (first | refine Rg.skipP rfl rfl rfl ?_ | refine Rg.skipR rfl rfl rfl ?_ | refine Rg.skipE rfl rfl rfl ?_)
      refine Rg.pure rfl rfl rfl (Pv.pickF rfl rfl) ?_
      refine Rg.pure rfl rfl rfl (Pv.pickF rfl rfl) ?_
      refine Rg.pure rfl rfl rfl (Pv.assign rfl) ?_
      refine Rg.nil ?_
      refine Vc.ret (Vc.rets rfl (.cons (.tmp rfl) (.nil)) ?_)
      exact congrArg Value.bool (by rw [eq_comm, ← Bool.not_eq_true, ltR_iff]; simp at h10; omega)

theorem least_spec (F : Fm) (hb b cap m : Nat) (xs : List Hd) (sp : List Value) (i : Nat) (hm : m = xs.length) (hi : i < 1152921504606846976) (hn : xs.length < 1152921504606846976)
    [h1 : Fat F hb (cellsO [.slice (some ⟨b, 0, none⟩) m cap] 62)] [h2 : Fat F b (rowS headE xs sp)] :
    Spec Try.prog 41 #[.pointer (some ⟨hb, 0, none⟩), .int .i64 (i : Int)] F [] fun v _ => v = .int .i64 (leastI xs i) := by
  refine Spec.of (n := 46) (vs := [.pointer (some ⟨hb, 0, none⟩), .int .i64 (i : Int)]) Try.func41 rfl Try.ntmps41 rfl ?_
  refine Vc.seq ?_
  refine Vc.text (List.range 1) (sd [(0, .pure)]) rfl ?_
  refine Rg.pure rfl rfl rfl (Pv.assign rfl) ?_
  refine Rg.nil ?_
  refine Vc.seq ?_
  refine Vc.text (List.range 4) (sd [(0, .pure), (1, .pure), (2, .pure), (3, .pure)]) rfl ?_
  refine Rg.pure rfl rfl rfl (Pv.move rfl) ?_
  refine Rg.pure rfl rfl rfl (Pv.mul rfl rfl (by omega)) ?_
  refine Rg.pure rfl rfl rfl (Pv.add rfl rfl (by omega)) ?_
  refine Rg.pure rfl rfl rfl (Pv.assign rfl) ?_
  refine Rg.nil ?_
  refine Vc.seq ?_
  refine Vc.seq ?_
  refine Vc.text (List.range 7) (sd [(0, .pure), (1, .pure), (2, .pure), (3, .pure), (4, .read), (5, .pure), (6, .pure)]) rfl ?_
  refine Rg.pure rfl rfl rfl (Pv.move rfl) ?_
  refine Rg.pure rfl rfl rfl (Pv.move rfl) ?_
  refine Rg.pure rfl rfl rfl (Pv.nilp rfl) ?_
  refine Rg.pure rfl rfl rfl (Pv.fa rfl) ?_
  refine Rg.read rfl rfl rfl (Ev.ld rfl rfl) ?_
  refine Rg.pure rfl rfl rfl (Pv.lenS rfl) ?_
  refine Rg.pure rfl rfl rfl (Pv.geq rfl rfl) ?_
  refine Rg.nil ?_
  refine Vc.cond rfl (fun h15 => ?_) (fun h15 => ?_)
  ·
    simp only [decide_eq_true_eq] at h15
    refine Vc.seq ?_
    refine Vc.text (List.range 1) (sd [(0, .pure)]) rfl ?_
    refine Rg.pure rfl rfl rfl (Pv.assign rfl) ?_
    refine Rg.nil ?_
    refine Vc.ret (Vc.rets rfl (.cons (.tmp rfl) (.nil)) ?_)
    exact congrArg (Value.int .i64) (by rw [leastI, if_pos (by omega)])
  ·
    simp only [decide_eq_false_iff_not] at h15
    refine Vc.skip ?_
    refine Vc.seq ?_
    refine Vc.seq ?_
    refine Vc.draw [] (sd [(0, .pure), (1, .pure), (2, .pure), (3, .pure), (4, .pure), (5, .read), (6, .pure), (7, .pure), (8, .pure), (9, .pure), (10, .pure), (11, .pure), (12, .read), (13, .pure), (14, .pure), (15, .pure), (16, .read), (17, .pure), (18, .pure), (19, .pure), (20, .pure), (21, .read), (22, .pure), (23, .pure), (24, .read), (25, .eff), (26, .pure)]) mixed (by kernel_rfl) ?_
    refine Rg.pure rfl rfl rfl (Pv.move rfl) ?_
    refine Rg.pure rfl rfl rfl (Pv.add rfl rfl (by omega)) ?_
    refine Rg.pure rfl rfl rfl (Pv.move rfl) ?_
    refine Rg.pure rfl rfl rfl (Pv.nilp rfl) ?_
    refine Rg.pure rfl rfl rfl (Pv.fa rfl) ?_
    refine Rg.read rfl rfl rfl (Ev.ld rfl rfl) ?_
    refine Rg.pure rfl rfl rfl (Pv.lenS rfl) ?_
    refine Rg.pure rfl rfl rfl (Pv.lss rfl rfl) ?_
    refine Rg.pure rfl rfl rfl (Pv.move rfl) ?_
    refine Rg.split (t := 24) rfl (fun h24 => ?_) (fun h24 => ?_)
    ·
      simp only [decide_eq_true_eq] at h24
      refine Rg.pure rfl rfl rfl (Pv.move rfl) ?_
      refine Rg.pure rfl rfl rfl (Pv.nilp rfl) ?_
      refine Rg.pure rfl rfl rfl (Pv.fa rfl) ?_
      refine Rg.read rfl rfl rfl (Ev.ld rfl rfl) ?_
      refine Rg.pure rfl rfl rfl (Pv.move rfl) ?_
      refine Rg.pure rfl rfl rfl (Pv.add rfl rfl (by omega)) ?_
      refine Rg.pure rfl rfl rfl (Pv.ixA (2 * i + 2) rfl rfl (by omega) (by omega)) ?_
      refine Rg.read rfl rfl rfl (Ev.ldR (2 * i + 2) rfl (Nat.zero_add _) (by omega)) ?_
      refine Rg.pure rfl rfl rfl (Pv.mkI rfl) ?_
      refine Rg.pure rfl rfl rfl (Pv.move rfl) ?_
      refine Rg.pure rfl rfl rfl (Pv.nilp rfl) ?_
      refine Rg.pure rfl rfl rfl (Pv.fa rfl) ?_
      refine Rg.read rfl rfl rfl (Ev.ld rfl rfl) ?_
      refine Rg.pure rfl rfl rfl (Pv.move rfl) ?_
      refine Rg.pure rfl rfl rfl (Pv.ixA (2 * i + 1) rfl rfl (by omega) (by omega)) ?_
      refine Rg.read rfl rfl rfl (Ev.ldR (2 * i + 1) rfl (Nat.zero_add _) (by omega)) ?_
      refine Rg.callP rfl rfl rfl (run_callI rfl rfl) (before_spec _ _ _) ?_
      rintro _ rfl
      refine Rg.pure rfl rfl rfl (Pv.pickT rfl rfl) ?_
      refine Rg.nil ?_
      refine Vc.cond rfl (fun h42 => ?_) (fun h42 => ?_)
      ·
        refine Vc.text (List.range 3) (sd [(0, .pure), (1, .pure), (2, .pure)]) rfl ?_
        refine Rg.pure rfl rfl rfl (Pv.move rfl) ?_
        refine Rg.pure rfl rfl rfl (Pv.add rfl rfl (by omega)) ?_
        refine Rg.pure rfl rfl rfl (Pv.assign rfl) ?_
        refine Rg.nil ?_
        refine Vc.seq ?_
        refine Vc.text (List.range 2) (sd [(0, .pure), (1, .pure)]) rfl ?_
        refine Rg.pure rfl rfl rfl (Pv.move rfl) ?_
        refine Rg.pure rfl rfl rfl (Pv.assign rfl) ?_
        refine Rg.nil ?_
        refine Vc.ret (Vc.rets rfl (.cons (.tmp rfl) (.nil)) ?_)
        exact congrArg (Value.int .i64) (by rw [leastI, if_neg (by omega), if_pos ⟨by omega, h42⟩]; omega)
      ·
        refine Vc.skip ?_
        refine Vc.seq ?_
        refine Vc.text (List.range 2) (sd [(0, .pure), (1, .pure)]) rfl ?_
        refine Rg.pure rfl rfl rfl (Pv.move rfl) ?_
        refine Rg.pure rfl rfl rfl (Pv.assign rfl) ?_
        refine Rg.nil ?_
        refine Vc.ret (Vc.rets rfl (.cons (.tmp rfl) (.nil)) ?_)
        exact congrArg (Value.int .i64) (by rw [leastI, if_neg (by omega), if_neg (fun hh => by rw [h42] at hh; cases hh.2)]; omega)
    ·
      simp only [decide_eq_false_iff_not] at h24
      iterate 17 (first | refine Rg.skipP rfl rfl rfl ?_ | refine Rg.skipR rfl rfl rfl ?_ | refine Rg.skipE rfl rfl rfl ?_)
      refine Rg.pure rfl rfl rfl (Pv.pickF rfl rfl) ?_
      refine Rg.nil ?_
      refine Vc.condF rfl ?_
      refine Vc.skip ?_
      refine Vc.seq ?_
      refine Vc.text (List.range 2) (sd [(0, .pure), (1, .pure)]) rfl ?_
      refine Rg.pure rfl rfl rfl (Pv.move rfl) ?_
      refine Rg.pure rfl rfl rfl (Pv.assign rfl) ?_
      refine Rg.nil ?_
      refine Vc.ret (Vc.rets rfl (.cons (.tmp rfl) (.nil)) ?_)
      exact congrArg (Value.int .i64) (by rw [leastI, if_neg (by omega), if_neg (by omega)]; omega)

/-- A heap that holds these, at pointer hb. -/
def HeapAt (hb : Nat) (xs : List Hd) (hl : Hl) : Prop := ∃ v seg, Own headE v xs seg ∧ hl = (hb, cellsO [v] 62) :: seg

theorem push_spec (F : Fm) (hb : Nat) (xs : List Hd) (x : Hd) (hl : Hl) (hh : HeapAt hb xs hl) (hn : xs.length < 4294967296) :
    Spec Try.prog 31 #[.pointer (some ⟨hb, 0, none⟩), headV x] F hl fun _ hl' => HeapAt hb (siftUp x (xs ++ [x]) xs.length) hl' := by
  obtain ⟨v, seg, own, rfl⟩ := hh
  obtain ⟨p, cap0, rfl⟩ := own.shape
  refine Spec.of (n := 61) (vs := [.pointer (some ⟨hb, 0, none⟩), headV x]) Try.func31 rfl Try.ntmps31 rfl ?_
  refine Vc.seq ?_
  refine Vc.text (List.range 1) (sd [(0, .eff)]) rfl ?_
  refine Rg.box rfl rfl rfl rfl rfl (fun b3 => ?_)
  refine Rg.nil ?_
  refine Vc.seq ?_
  refine Vc.text (List.range 6) (sd [(0, .pure), (1, .pure), (2, .pure), (3, .read), (4, .pure), (5, .pure)]) rfl ?_
  refine Rg.pure rfl rfl rfl (Pv.move rfl) ?_
  refine Rg.pure rfl rfl rfl (Pv.nilp rfl) ?_
  refine Rg.pure rfl rfl rfl (Pv.fa rfl) ?_
  refine Rg.read rfl rfl rfl (Ev.ld rfl rfl) ?_
  refine Rg.pure rfl rfl rfl (Pv.lenS rfl) ?_
  refine Rg.pure rfl rfl rfl (Pv.assign rfl) ?_
  refine Rg.nil ?_
  refine Vc.seq ?_
  refine Vc.draw [7, 10] (sd [(0, .pure), (1, .pure), (2, .pure), (3, .pure), (4, .read), (5, .read), (6, .eff), (7, .eff), (8, .pure), (9, .pure), (10, .eff)]) mixed (by kernel_rfl) ?_
  refine Rg.pure rfl rfl rfl (Pv.move rfl) ?_
  refine Rg.pure rfl rfl rfl (Pv.move rfl) ?_
  refine Rg.pure rfl rfl rfl (Pv.nilp rfl) ?_
  refine Rg.pure rfl rfl rfl (Pv.fa rfl) ?_
  refine Rg.read rfl rfl rfl (Ev.ld rfl rfl) ?_
  refine Rg.read rfl rfl rfl (Ev.ldA rfl rfl) ?_
  refine Rg.bslice1 rfl rfl rfl rfl rfl rfl rfl (fun b16 => ?_)
  refine Rg.append rfl rfl rfl rfl rfl own (ys := [x]) (Src.one rfl) (by simp <;> omega) (by simp [maxLen] <;> omega) rfl (fun v17 s17 own17 => ?_)
  obtain ⟨b, cap, sp, rfl, rfl, hc, hm⟩ := own17.block (by simp)
  refine Rg.app rfl ?_
  refine Rg.pure rfl rfl rfl (Pv.nilp rfl) ?_
  refine Rg.pure rfl rfl rfl (Pv.fa rfl) ?_
  refine Rg.store rfl rfl rfl rfl rfl rfl rfl rfl ?_
  refine Rg.nil ?_
  refine Vc.seq ?_
  refine Vc.block ?_
  refine Vc.loop2 (fun (i : Nat) (ys : List Hd) => i < ys.length ∧ ys.length = (xs ++ [x]).length ∧ siftUp x ys i = siftUp x (xs ++ [x]) xs.length) (fun (i : Nat) (ys : List Hd) => [(0, .pointer (some ⟨hb, 0, none⟩)), (3, .pointer (some ⟨b3, 0, none⟩)), (4, .int .i64 (i : Int))]) (fun (i : Nat) (ys : List Hd) => [(hb, cellsO [.slice (some ⟨b, 0, none⟩) (xs ++ [x]).length cap] 62), (b, rowS headE ys sp), (b3, cellsO (headC x) 65)]) (fun (i : Nat) (ys : List Hd) => i) xs.length (xs ++ [x]) ⟨by simp, rfl, rfl⟩ (.cons rfl (.cons rfl (.cons rfl .nil))) pulled ?_
  rintro i ys ⟨h1, h2, h3⟩
  have hlen : (xs ++ [x]).length = xs.length + 1 := by simp
  refine Vc.seq ?_
  refine Vc.seq ?_
  refine Vc.draw [] (sd [(0, .pure), (1, .pure), (2, .pure), (3, .read), (4, .pure), (5, .pure), (6, .pure), (7, .pure), (8, .read), (9, .pure), (10, .pure), (11, .pure), (12, .pure), (13, .read), (14, .eff), (15, .pure)]) mixed (by kernel_rfl) ?_
  refine Rg.pure rfl rfl rfl (Pv.move rfl) ?_
  refine Rg.pure rfl rfl rfl (Pv.gtr rfl rfl) ?_
  refine Rg.pure rfl rfl rfl (Pv.move rfl) ?_
  refine Rg.split (t := 22) rfl (fun h22 => ?_) (fun h22 => ?_)
  ·
    simp only [decide_eq_true_eq] at h22
    refine Rg.read rfl rfl rfl (Ev.ldA rfl rfl) ?_
    refine Rg.pure rfl rfl rfl (Pv.mkI rfl) ?_
    refine Rg.pure rfl rfl rfl (Pv.move rfl) ?_
    refine Rg.pure rfl rfl rfl (Pv.nilp rfl) ?_
    refine Rg.pure rfl rfl rfl (Pv.fa rfl) ?_
    refine Rg.read rfl rfl rfl (Ev.ld rfl rfl) ?_
    refine Rg.pure rfl rfl rfl (Pv.move rfl) ?_
    refine Rg.pure rfl rfl rfl (Pv.sub rfl rfl (by omega)) ?_
    refine Rg.pure rfl rfl rfl (Pv.quo rfl rfl (by omega)) ?_
    refine Rg.pure rfl rfl rfl (Pv.ixA ((i - 1) / 2) rfl rfl (by omega) (by omega)) ?_
    refine Rg.read rfl rfl rfl (Ev.ldR ((i - 1) / 2) rfl (Nat.zero_add _) (by omega)) ?_
    refine Rg.callP rfl rfl rfl (run_callI rfl rfl) (before_spec _ _ _) ?_
    rintro _ rfl
    refine Rg.pure rfl rfl rfl (Pv.pickT rfl rfl) ?_
    refine Rg.nil ?_
    refine Vc.cond rfl (fun h35 => ?_) (fun h35 => ?_)
    ·
      refine Vc.skip ?_
      refine Vc.block ?_
      refine Vc.seq ?_
      refine Vc.draw [15] (sd [(0, .pure), (1, .pure), (2, .pure), (3, .read), (4, .pure), (5, .pure), (6, .pure), (7, .pure), (8, .read), (9, .pure), (10, .pure), (11, .pure), (12, .pure), (13, .read), (14, .pure), (15, .eff)]) mixed (by kernel_rfl) ?_
      refine Rg.pure rfl rfl rfl (Pv.move rfl) ?_
      refine Rg.pure rfl rfl rfl (Pv.nilp rfl) ?_
      refine Rg.pure rfl rfl rfl (Pv.fa rfl) ?_
      refine Rg.read rfl rfl rfl (Ev.ld rfl rfl) ?_
      refine Rg.pure rfl rfl rfl (Pv.move rfl) ?_
      refine Rg.pure rfl rfl rfl (Pv.move rfl) ?_
      refine Rg.pure rfl rfl rfl (Pv.nilp rfl) ?_
      refine Rg.pure rfl rfl rfl (Pv.fa rfl) ?_
      refine Rg.read rfl rfl rfl (Ev.ld rfl rfl) ?_
      refine Rg.pure rfl rfl rfl (Pv.move rfl) ?_
      refine Rg.pure rfl rfl rfl (Pv.sub rfl rfl (by omega)) ?_
      refine Rg.pure rfl rfl rfl (Pv.quo rfl rfl (by omega)) ?_
      refine Rg.pure rfl rfl rfl (Pv.ixA ((i - 1) / 2) rfl rfl (by omega) (by omega)) ?_
      refine Rg.read rfl rfl rfl (Ev.ldR ((i - 1) / 2) rfl (Nat.zero_add _) (by omega)) ?_
      refine Rg.pure rfl rfl rfl (Pv.ixA (i) rfl rfl (by omega) (by omega)) ?_
      refine Rg.storeR (i) rfl rfl rfl rfl rfl rfl (Nat.zero_add _) (by omega) rfl ?_
      refine Rg.nil ?_
      refine Vc.text (List.range 4) (sd [(0, .pure), (1, .pure), (2, .pure), (3, .pure)]) rfl ?_
      refine Rg.pure rfl rfl rfl (Pv.move rfl) ?_
      refine Rg.pure rfl rfl rfl (Pv.sub rfl rfl (by omega)) ?_
      refine Rg.pure rfl rfl rfl (Pv.quo rfl rfl (by omega)) ?_
      refine Rg.pure rfl rfl rfl (Pv.assign rfl) ?_
      refine Rg.nil ?_
      refine Vc.blk ?_
      refine Vc.inv2 ((i - 1) / 2) (ys.set i ys[(i - 1) / 2]!) ⟨⟨by simp; omega, by simp [h2], by rw [← siftUp_go (by omega) h35]; exact h3⟩, show (i - 1) / 2 < i by omega⟩ (.cons rfl (.cons rfl (.cons (by show _ = some (Value.int .i64 (((i - 1) / 2 : Nat) : Int)); simp [lk]; omega) .nil))) pulled
    ·
      refine Vc.exit rfl ?_
      refine Vc.draw [7] (sd [(0, .pure), (1, .pure), (2, .pure), (3, .read), (4, .pure), (5, .read), (6, .pure), (7, .eff)]) mixed (by kernel_rfl) ?_
      refine Rg.pure rfl rfl rfl (Pv.move rfl) ?_
      refine Rg.pure rfl rfl rfl (Pv.nilp rfl) ?_
      refine Rg.pure rfl rfl rfl (Pv.fa rfl) ?_
      refine Rg.read rfl rfl rfl (Ev.ld rfl rfl) ?_
      refine Rg.pure rfl rfl rfl (Pv.move rfl) ?_
      refine Rg.read rfl rfl rfl (Ev.ldA rfl rfl) ?_
      refine Rg.pure rfl rfl rfl (Pv.ixA (i) rfl rfl (by omega) (by omega)) ?_
      refine Rg.storeR (i) rfl rfl rfl rfl rfl rfl (Nat.zero_add _) (by omega) rfl ?_
      refine Rg.nil ?_
      exact Vc.fin (Vc.retsH rfl .nil (⟨_, _, by rw [← h3, siftUp_stop (fun hh => by rw [h35] at hh; cases hh.2)]; have := Own.blk (E := headE) b cap (ys.set i x) sp (by rw [List.length_set, h2]; exact hc) hm; rwa [List.length_set, h2] at this, rfl⟩) pulled)
  ·
    simp only [decide_eq_false_iff_not] at h22
    iterate 12 (first | refine Rg.skipP rfl rfl rfl ?_ | refine Rg.skipR rfl rfl rfl ?_ | refine Rg.skipE rfl rfl rfl ?_)
    refine Rg.pure rfl rfl rfl (Pv.pickF rfl rfl) ?_
    refine Rg.nil ?_
    refine Vc.condF rfl ?_
    refine Vc.exit rfl ?_
    refine Vc.draw [7] (sd [(0, .pure), (1, .pure), (2, .pure), (3, .read), (4, .pure), (5, .read), (6, .pure), (7, .eff)]) mixed (by kernel_rfl) ?_
    refine Rg.pure rfl rfl rfl (Pv.move rfl) ?_
    refine Rg.pure rfl rfl rfl (Pv.nilp rfl) ?_
    refine Rg.pure rfl rfl rfl (Pv.fa rfl) ?_
    refine Rg.read rfl rfl rfl (Ev.ld rfl rfl) ?_
    refine Rg.pure rfl rfl rfl (Pv.move rfl) ?_
    refine Rg.read rfl rfl rfl (Ev.ldA rfl rfl) ?_
    refine Rg.pure rfl rfl rfl (Pv.ixA (i) rfl rfl (by omega) (by omega)) ?_
    refine Rg.storeR (i) rfl rfl rfl rfl rfl rfl (Nat.zero_add _) (by omega) rfl ?_
    refine Rg.nil ?_
    exact Vc.fin (Vc.retsH rfl .nil (⟨_, _, by rw [← h3, siftUp_stop (fun hh => by omega)]; have := Own.blk (E := headE) b cap (ys.set i x) sp (by rw [List.length_set, h2]; exact hc) hm; rwa [List.length_set, h2] at this, rfl⟩) pulled)

def peekV : List Hd → Value
  | [] => .tuple #[headV ⟨0, 0, 0⟩, .bool false]
  | x :: _ => .tuple #[headV x, .bool true]

theorem peek_nil (F : Fm) (hb : Nat) (p : Option Addr) (cap : Nat) [h1 : Fat F hb (cellsO [.slice p 0 cap] 62)] :
    Spec Try.prog 40 #[.pointer (some ⟨hb, 0, none⟩)] F [] fun v _ => v = peekV [] := by
  refine Spec.of (n := 17) (vs := [.pointer (some ⟨hb, 0, none⟩)]) Try.func40 rfl Try.ntmps40 rfl ?_
  refine Vc.seq ?_
  refine Vc.text (List.range 2) (sd [(0, .eff), (1, .pure)]) rfl ?_
  refine Rg.alloc rfl rfl rfl rfl (fun b2 => ?_)
  refine Rg.pure rfl rfl rfl (Pv.assign rfl) ?_
  refine Rg.nil ?_
  refine Vc.seq ?_
  refine Vc.seq ?_
  refine Vc.text (List.range 6) (sd [(0, .pure), (1, .pure), (2, .pure), (3, .read), (4, .pure), (5, .pure)]) rfl ?_
  refine Rg.pure rfl rfl rfl (Pv.move rfl) ?_
  refine Rg.pure rfl rfl rfl (Pv.nilp rfl) ?_
  refine Rg.pure rfl rfl rfl (Pv.fa rfl) ?_
  refine Rg.read rfl rfl rfl (Ev.ld rfl rfl) ?_
  refine Rg.pure rfl rfl rfl (Pv.lenS rfl) ?_
  refine Rg.pure rfl rfl rfl (Pv.eql rfl rfl) ?_
  refine Rg.nil ?_
  refine Vc.cond rfl (fun h9 => ?_) (fun h9 => absurd h9 (by simp))
  refine Vc.seq ?_
  refine Vc.text (List.range 3) (sd [(0, .read), (1, .eff), (2, .pure)]) rfl ?_
  refine Rg.read rfl rfl rfl (Ev.ldA rfl rfl) ?_
  refine Rg.storeA rfl rfl rfl rfl rfl rfl rfl rfl ?_
  refine Rg.pure rfl rfl rfl (Pv.assign rfl) ?_
  refine Rg.nil ?_
  refine Vc.ret (Vc.rets rfl (.cons (.cellA rfl rfl) (.cons (.tmp rfl) (.nil))) ?_)
  exact rfl

theorem peek_cons (F : Fm) (hb b cap : Nat) (xs : List Hd) (sp : List Value) (h0 : 0 < xs.length) [h1 : Fat F hb (cellsO [.slice (some ⟨b, 0, none⟩) xs.length cap] 62)] [h2 : Fat F b (rowS headE xs sp)] :
    Spec Try.prog 40 #[.pointer (some ⟨hb, 0, none⟩)] F [] fun v _ => v = .tuple #[headV xs[0]!, .bool true] := by
  refine Spec.of (n := 17) (vs := [.pointer (some ⟨hb, 0, none⟩)]) Try.func40 rfl Try.ntmps40 rfl ?_
  refine Vc.seq ?_
  refine Vc.text (List.range 2) (sd [(0, .eff), (1, .pure)]) rfl ?_
  refine Rg.alloc rfl rfl rfl rfl (fun b2 => ?_)
  refine Rg.pure rfl rfl rfl (Pv.assign rfl) ?_
  refine Rg.nil ?_
  refine Vc.seq ?_
  refine Vc.seq ?_
  refine Vc.text (List.range 6) (sd [(0, .pure), (1, .pure), (2, .pure), (3, .read), (4, .pure), (5, .pure)]) rfl ?_
  refine Rg.pure rfl rfl rfl (Pv.move rfl) ?_
  refine Rg.pure rfl rfl rfl (Pv.nilp rfl) ?_
  refine Rg.pure rfl rfl rfl (Pv.fa rfl) ?_
  refine Rg.read rfl rfl rfl (Ev.ld rfl rfl) ?_
  refine Rg.pure rfl rfl rfl (Pv.lenS rfl) ?_
  refine Rg.pure rfl rfl rfl (Pv.eql rfl rfl) ?_
  refine Rg.nil ?_
  refine Vc.cond rfl (fun h9 => absurd h9 (by simp only [beq_iff_eq]; omega)) (fun h9 => ?_)
  refine Vc.skip ?_
  refine Vc.seq ?_
  refine Vc.text (List.range 8) (sd [(0, .pure), (1, .pure), (2, .pure), (3, .read), (4, .pure), (5, .read), (6, .eff), (7, .pure)]) rfl ?_
  refine Rg.pure rfl rfl rfl (Pv.move rfl) ?_
  refine Rg.pure rfl rfl rfl (Pv.nilp rfl) ?_
  refine Rg.pure rfl rfl rfl (Pv.fa rfl) ?_
  refine Rg.read rfl rfl rfl (Ev.ld rfl rfl) ?_
  refine Rg.pure rfl rfl rfl (Pv.ixA (0) rfl rfl (by omega) (by omega)) ?_
  refine Rg.read rfl rfl rfl (Ev.ldR (0) rfl (Nat.zero_add _) (by omega)) ?_
  refine Rg.storeA rfl rfl rfl rfl rfl rfl rfl rfl ?_
  refine Rg.pure rfl rfl rfl (Pv.assign rfl) ?_
  refine Rg.nil ?_
  refine Vc.ret (Vc.rets rfl (.cons (.cellA rfl rfl) (.cons (.tmp rfl) (.nil))) ?_)
  exact rfl

theorem pop_nil (F : Fm) (hb : Nat) (hl : Hl) (hh : HeapAt hb [] hl) :
    Spec Try.prog 32 #[.pointer (some ⟨hb, 0, none⟩)] F hl fun v hl' => v = peekV [] ∧ HeapAt hb [] hl' := by
  obtain ⟨v, seg, own, rfl⟩ := hh
  obtain ⟨p, cap0, rfl⟩ := own.shape
  refine Spec.of (n := 85) (vs := [.pointer (some ⟨hb, 0, none⟩)]) Try.func32 rfl Try.ntmps32 rfl ?_
  refine Vc.seq ?_
  refine Vc.text (List.range 2) (sd [(0, .eff), (1, .pure)]) rfl ?_
  refine Rg.alloc rfl rfl rfl rfl (fun b2 => ?_)
  refine Rg.pure rfl rfl rfl (Pv.assign rfl) ?_
  refine Rg.nil ?_
  refine Vc.seq ?_
  refine Vc.text (List.range 8) (sd [(0, .pure), (1, .eff), (2, .pure), (3, .pure), (4, .pure), (5, .eff), (6, .eff), (7, .pure)]) rfl ?_
  refine Rg.pure rfl rfl rfl (Pv.move rfl) ?_
  refine Rg.callP rfl rfl rfl (run_callF rfl) (peek_nil _ _ _ _) ?_
  rintro _ rfl
  refine Rg.pure rfl rfl rfl (Pv.move rfl) ?_
  refine Rg.pure rfl rfl rfl (Pv.extract rfl rfl) ?_
  refine Rg.pure rfl rfl rfl (Pv.extract rfl rfl) ?_
  refine Rg.alloc rfl rfl rfl rfl (fun b4 => ?_)
  refine Rg.storeA rfl rfl rfl rfl rfl rfl rfl rfl ?_
  refine Rg.pure rfl rfl rfl (Pv.assign rfl) ?_
  refine Rg.nil ?_
  refine Vc.seq ?_
  refine Vc.seq ?_
  refine Vc.text (List.range 2) (sd [(0, .pure), (1, .pure)]) rfl ?_
  refine Rg.pure rfl rfl rfl (Pv.move rfl) ?_
  refine Rg.pure rfl rfl rfl (Pv.not rfl) ?_
  refine Rg.nil ?_
  refine Vc.condT rfl ?_
  refine Vc.seq ?_
  refine Vc.text (List.range 3) (sd [(0, .read), (1, .eff), (2, .pure)]) rfl ?_
  refine Rg.read rfl rfl rfl (Ev.ldA rfl rfl) ?_
  refine Rg.storeA rfl rfl rfl rfl rfl rfl rfl rfl ?_
  refine Rg.pure rfl rfl rfl (Pv.assign rfl) ?_
  refine Rg.nil ?_
  exact Vc.ret (Vc.retsH rfl (.cons (.cellA rfl rfl) (.cons (.tmp rfl) (.nil))) (⟨rfl, _, _, own, rfl⟩) pulled)

set_option maxHeartbeats 400000 in
theorem pop_cons (F : Fm) (hb : Nat) (xs : List Hd) (hl : Hl) (hh : HeapAt hb xs hl) (h0 : 0 < xs.length) (hn : xs.length < 4294967296) :
    Spec Try.prog 32 #[.pointer (some ⟨hb, 0, none⟩)] F hl fun v hl' => v = .tuple #[headV xs[0]!, .bool true] ∧ HeapAt hb (popL xs) hl' := by
  obtain ⟨v, seg, own, rfl⟩ := hh
  obtain ⟨b, cap, sp, rfl, rfl, hc, hm⟩ := own.block h0
  have hle : xs.length ≤ cap := Nat.le_of_mul_le_mul_right (show xs.length * headE.k ≤ cap * headE.k by omega) headE.pos
  refine Spec.of (n := 85) (vs := [.pointer (some ⟨hb, 0, none⟩)]) Try.func32 rfl Try.ntmps32 rfl ?_
  refine Vc.seq ?_
  refine Vc.text (List.range 2) (sd [(0, .eff), (1, .pure)]) rfl ?_
  refine Rg.alloc rfl rfl rfl rfl (fun b2 => ?_)
  refine Rg.pure rfl rfl rfl (Pv.assign rfl) ?_
  refine Rg.nil ?_
  refine Vc.seq ?_
  refine Vc.text (List.range 8) (sd [(0, .pure), (1, .eff), (2, .pure), (3, .pure), (4, .pure), (5, .eff), (6, .eff), (7, .pure)]) rfl ?_
  refine Rg.pure rfl rfl rfl (Pv.move rfl) ?_
  refine Rg.callP rfl rfl rfl (run_callF rfl) (peek_cons _ _ _ _ _ _ h0) ?_
  rintro _ rfl
  refine Rg.pure rfl rfl rfl (Pv.move rfl) ?_
  refine Rg.pure rfl rfl rfl (Pv.extract rfl rfl) ?_
  refine Rg.pure rfl rfl rfl (Pv.extract rfl rfl) ?_
  refine Rg.alloc rfl rfl rfl rfl (fun b4 => ?_)
  refine Rg.storeA rfl rfl rfl rfl rfl rfl rfl rfl ?_
  refine Rg.pure rfl rfl rfl (Pv.assign rfl) ?_
  refine Rg.nil ?_
  refine Vc.seq ?_
  refine Vc.seq ?_
  refine Vc.text (List.range 2) (sd [(0, .pure), (1, .pure)]) rfl ?_
  refine Rg.pure rfl rfl rfl (Pv.move rfl) ?_
  refine Rg.pure rfl rfl rfl (Pv.not rfl) ?_
  refine Rg.nil ?_
  refine Vc.condF rfl ?_
  refine Vc.skip ?_
  refine Vc.seq ?_
  refine Vc.text (List.range 7) (sd [(0, .pure), (1, .pure), (2, .pure), (3, .read), (4, .pure), (5, .pure), (6, .pure)]) rfl ?_
  refine Rg.pure rfl rfl rfl (Pv.move rfl) ?_
  refine Rg.pure rfl rfl rfl (Pv.nilp rfl) ?_
  refine Rg.pure rfl rfl rfl (Pv.fa rfl) ?_
  refine Rg.read rfl rfl rfl (Ev.ld rfl rfl) ?_
  refine Rg.pure rfl rfl rfl (Pv.lenS rfl) ?_
  refine Rg.pure rfl rfl rfl (Pv.asI (xs.length - 1) (Pv.sub rfl rfl (by omega)) (by omega)) ?_
  refine Rg.pure rfl rfl rfl (Pv.assign rfl) ?_
  refine Rg.nil ?_
  refine Vc.seq ?_
  refine Vc.text (List.range 9) (sd [(0, .pure), (1, .pure), (2, .pure), (3, .read), (4, .pure), (5, .pure), (6, .read), (7, .eff), (8, .eff)]) rfl ?_
  refine Rg.pure rfl rfl rfl (Pv.move rfl) ?_
  refine Rg.pure rfl rfl rfl (Pv.nilp rfl) ?_
  refine Rg.pure rfl rfl rfl (Pv.fa rfl) ?_
  refine Rg.read rfl rfl rfl (Ev.ld rfl rfl) ?_
  refine Rg.pure rfl rfl rfl (Pv.move rfl) ?_
  refine Rg.pure rfl rfl rfl (Pv.ixA (xs.length - 1) rfl rfl (by omega) (by omega)) ?_
  refine Rg.read rfl rfl rfl (Ev.ldR (xs.length - 1) rfl (Nat.zero_add _) (by omega)) ?_
  refine Rg.alloc rfl rfl rfl rfl (fun b7 => ?_)
  refine Rg.storeA rfl rfl rfl rfl rfl rfl rfl rfl ?_
  refine Rg.nil ?_
  refine Vc.seq ?_
  refine Vc.text (List.range 10) (sd [(0, .pure), (1, .pure), (2, .pure), (3, .pure), (4, .read), (5, .pure), (6, .pure), (7, .pure), (8, .pure), (9, .eff)]) rfl ?_
  refine Rg.pure rfl rfl rfl (Pv.move rfl) ?_
  refine Rg.pure rfl rfl rfl (Pv.move rfl) ?_
  refine Rg.pure rfl rfl rfl (Pv.nilp rfl) ?_
  refine Rg.pure rfl rfl rfl (Pv.fa rfl) ?_
  refine Rg.read rfl rfl rfl (Ev.ld rfl rfl) ?_
  refine Rg.pure rfl rfl rfl (Pv.move rfl) ?_
  refine Rg.pure rfl rfl rfl (Pv.slTo (xs.length - 1) rfl rfl (by omega)) ?_
  refine Rg.pure rfl rfl rfl (Pv.nilp rfl) ?_
  refine Rg.pure rfl rfl rfl (Pv.fa rfl) ?_
  refine Rg.store rfl rfl rfl rfl rfl rfl rfl rfl ?_
  refine Rg.nil ?_
  refine Vc.seq ?_
  refine Vc.seq ?_
  rw [rowS_take headE xs sp (xs.length - 1)]
  have hnp : (xs.take (xs.length - 1)).length = xs.length - 1 := by simp
  refine Vc.text (List.range 2) (sd [(0, .pure), (1, .pure)]) rfl ?_
  refine Rg.pure rfl rfl rfl (Pv.move rfl) ?_
  refine Rg.pure rfl rfl rfl (Pv.eql rfl rfl) ?_
  refine Rg.nil ?_
  refine Vc.cond rfl (fun h41 => ?_) (fun h41 => ?_)
  ·
    simp only [beq_iff_eq] at h41
    refine Vc.seq ?_
    refine Vc.text (List.range 3) (sd [(0, .read), (1, .eff), (2, .pure)]) rfl ?_
    refine Rg.read rfl rfl rfl (Ev.ldA rfl rfl) ?_
    refine Rg.storeA rfl rfl rfl rfl rfl rfl rfl rfl ?_
    refine Rg.pure rfl rfl rfl (Pv.assign rfl) ?_
    refine Rg.nil ?_
    exact Vc.ret (Vc.retsH rfl (.cons (.cellA rfl rfl) (.cons (.tmp rfl) (.nil))) (⟨rfl, .slice (some ⟨b, 0, none⟩) (xs.length - 1) cap, [(b, rowS headE (xs.take (xs.length - 1)) (flat headE (xs.drop (xs.length - 1)) ++ sp))], by have e : xs.length - 1 = 0 := (by omega); rw [popL, if_pos (by omega), e]; exact Own.blk (E := headE) b cap [] _ (by simp only [List.drop_zero, List.length_append, flat_length, List.length_nil]; omega) hm, rfl⟩) pulled)
  ·
    simp only [beq_eq_false_iff_ne, ne_eq] at h41
    refine Vc.skip ?_
    refine Vc.seq ?_
    refine Vc.text (List.range 1) (sd [(0, .pure)]) rfl ?_
    refine Rg.pure rfl rfl rfl (Pv.assign rfl) ?_
    refine Rg.nil ?_
    refine Vc.seq ?_
    refine Vc.seq ?_
    refine Vc.text (List.range 4) (sd [(0, .pure), (1, .pure), (2, .eff), (3, .pure)]) rfl ?_
    refine Rg.pure rfl rfl rfl (Pv.move rfl) ?_
    refine Rg.pure rfl rfl rfl (Pv.move rfl) ?_
    refine Rg.callP rfl rfl rfl (run_callF rfl) (least_spec _ _ _ _ _ _ _ 0 hnp.symm (by omega) (by omega)) ?_
    rintro _ rfl
    refine Rg.pure rfl rfl rfl (Pv.assign rfl) ?_
    refine Rg.nil ?_
    refine Vc.block ?_
    refine Vc.loop2 (fun (i : Nat) (ys : List Hd) => i < ys.length ∧ ys.length = xs.length - 1 ∧ siftDown xs[xs.length - 1]! ys i = siftDown xs[xs.length - 1]! (xs.take (xs.length - 1)) 0) (fun (i : Nat) (ys : List Hd) => [(0, .pointer (some ⟨hb, 0, none⟩)), (2, .pointer (some ⟨b2, 0, none⟩)), (4, .pointer (some ⟨b4, 0, none⟩)), (7, .pointer (some ⟨b7, 0, none⟩)), (8, .int .i64 (i : Int)), (9, .int .i64 (leastI ys i))]) (fun (i : Nat) (ys : List Hd) => [(hb, cellsO [.slice (some ⟨b, 0, none⟩) (xs.length - 1) cap] 62), (b, rowS headE ys (flat headE (xs.drop (xs.length - 1)) ++ sp)), (b2, cellsO (headC ⟨0, 0, 0⟩) 65), (b4, cellsO (headC xs[0]!) 65), (b7, cellsO (headC xs[xs.length - 1]!) 65)]) (fun (i : Nat) (ys : List Hd) => xs.length - i) 0 (xs.take (xs.length - 1)) ⟨by omega, hnp, rfl⟩ (.cons rfl (.cons rfl (.cons rfl (.cons rfl (.cons rfl (.cons rfl .nil)))))) pulled ?_
    rintro i ys ⟨h1, h2, h3⟩
    refine Vc.seq ?_
    refine Vc.seq ?_
    refine Vc.draw [] (sd [(0, .pure), (1, .pure), (2, .pure), (3, .pure), (4, .pure), (5, .pure), (6, .read), (7, .pure), (8, .pure), (9, .read), (10, .pure), (11, .read), (12, .eff), (13, .pure)]) mixed (by kernel_rfl) ?_
    refine Rg.pure rfl rfl rfl (Pv.move rfl) ?_
    refine Rg.pure rfl rfl rfl (Pv.geq rfl rfl) ?_
    refine Rg.pure rfl rfl rfl (Pv.move rfl) ?_
    refine Rg.split (t := 48) rfl (fun h48 => ?_) (fun h48 => ?_)
    ·
      simp only [decide_eq_true_eq] at h48
      obtain ⟨k, hk⟩ := Int.eq_ofNat_of_zero_le h48
      have hlt := leastI_lt h48
      rw [hk, Int.toNat_natCast] at hlt
      rw [hk]
      refine Rg.pure rfl rfl rfl (Pv.move rfl) ?_
      refine Rg.pure rfl rfl rfl (Pv.nilp rfl) ?_
      refine Rg.pure rfl rfl rfl (Pv.fa rfl) ?_
      refine Rg.read rfl rfl rfl (Ev.ld rfl rfl) ?_
      refine Rg.pure rfl rfl rfl (Pv.move rfl) ?_
      refine Rg.pure rfl rfl rfl (Pv.ixA (k) rfl rfl (by omega) (by omega)) ?_
      refine Rg.read rfl rfl rfl (Ev.ldR (k) rfl (Nat.zero_add _) (by omega)) ?_
      refine Rg.pure rfl rfl rfl (Pv.mkI rfl) ?_
      refine Rg.read rfl rfl rfl (Ev.ldA rfl rfl) ?_
      refine Rg.callP rfl rfl rfl (run_callI rfl rfl) (before_spec _ _ _) ?_
      rintro _ rfl
      refine Rg.pure rfl rfl rfl (Pv.pickT rfl rfl) ?_
      refine Rg.nil ?_
      refine Vc.cond rfl (fun h59 => ?_) (fun h59 => ?_)
      ·
        refine Vc.skip ?_
        refine Vc.seq ?_
        refine Vc.block ?_
        refine Vc.seq ?_
        refine Vc.draw [13] (sd [(0, .pure), (1, .pure), (2, .pure), (3, .read), (4, .pure), (5, .pure), (6, .pure), (7, .pure), (8, .read), (9, .pure), (10, .pure), (11, .read), (12, .pure), (13, .eff)]) mixed (by kernel_rfl) ?_
        refine Rg.pure rfl rfl rfl (Pv.move rfl) ?_
        refine Rg.pure rfl rfl rfl (Pv.nilp rfl) ?_
        refine Rg.pure rfl rfl rfl (Pv.fa rfl) ?_
        refine Rg.read rfl rfl rfl (Ev.ld rfl rfl) ?_
        refine Rg.pure rfl rfl rfl (Pv.move rfl) ?_
        refine Rg.pure rfl rfl rfl (Pv.move rfl) ?_
        refine Rg.pure rfl rfl rfl (Pv.nilp rfl) ?_
        refine Rg.pure rfl rfl rfl (Pv.fa rfl) ?_
        refine Rg.read rfl rfl rfl (Ev.ld rfl rfl) ?_
        refine Rg.pure rfl rfl rfl (Pv.move rfl) ?_
        refine Rg.pure rfl rfl rfl (Pv.ixA (k) rfl rfl (by omega) (by omega)) ?_
        refine Rg.read rfl rfl rfl (Ev.ldR (k) rfl (Nat.zero_add _) (by omega)) ?_
        refine Rg.pure rfl rfl rfl (Pv.ixA (i) rfl rfl (by omega) (by omega)) ?_
        refine Rg.storeR (i) rfl rfl rfl rfl rfl rfl (Nat.zero_add _) (by omega) rfl ?_
        refine Rg.nil ?_
        refine Vc.text (List.range 2) (sd [(0, .pure), (1, .pure)]) rfl ?_
        refine Rg.pure rfl rfl rfl (Pv.move rfl) ?_
        refine Rg.pure rfl rfl rfl (Pv.assign rfl) ?_
        refine Rg.nil ?_
        refine Vc.blk ?_
        refine Vc.text (List.range 4) (sd [(0, .pure), (1, .pure), (2, .eff), (3, .pure)]) rfl ?_
        refine Rg.pure rfl rfl rfl (Pv.move rfl) ?_
        refine Rg.pure rfl rfl rfl (Pv.move rfl) ?_
        refine Rg.callP rfl rfl rfl (run_callF rfl) (least_spec _ _ _ _ _ (ys.set i ys[k]!) _ k (by rw [List.length_set, h2]) (by omega) (by rw [List.length_set]; omega)) ?_
        rintro _ rfl
        refine Rg.pure rfl rfl rfl (Pv.assign rfl) ?_
        refine Rg.nil ?_
        refine Vc.inv2 k (ys.set i ys[k]!) ⟨⟨by rw [List.length_set]; omega, by rw [List.length_set, h2], by rw [← h3, siftDown_go (i := i) (by omega) (by rw [hk]; exact h59), hk, Int.toNat_natCast]⟩, show xs.length - k < xs.length - i by omega⟩ (.cons rfl (.cons rfl (.cons rfl (.cons rfl (.cons rfl (.cons rfl .nil)))))) pulled
      ·
        refine Vc.exit rfl ?_
        refine Vc.seq ?_
        refine Vc.draw [7] (sd [(0, .pure), (1, .pure), (2, .pure), (3, .read), (4, .pure), (5, .read), (6, .pure), (7, .eff)]) mixed (by kernel_rfl) ?_
        refine Rg.pure rfl rfl rfl (Pv.move rfl) ?_
        refine Rg.pure rfl rfl rfl (Pv.nilp rfl) ?_
        refine Rg.pure rfl rfl rfl (Pv.fa rfl) ?_
        refine Rg.read rfl rfl rfl (Ev.ld rfl rfl) ?_
        refine Rg.pure rfl rfl rfl (Pv.move rfl) ?_
        refine Rg.read rfl rfl rfl (Ev.ldA rfl rfl) ?_
        refine Rg.pure rfl rfl rfl (Pv.ixA (i) rfl rfl (by omega) (by omega)) ?_
        refine Rg.storeR (i) rfl rfl rfl rfl rfl rfl (Nat.zero_add _) (by omega) rfl ?_
        refine Rg.nil ?_
        refine Vc.seq ?_
        refine Vc.text (List.range 3) (sd [(0, .read), (1, .eff), (2, .pure)]) rfl ?_
        refine Rg.read rfl rfl rfl (Ev.ldA rfl rfl) ?_
        refine Rg.storeA rfl rfl rfl rfl rfl rfl rfl rfl ?_
        refine Rg.pure rfl rfl rfl (Pv.assign rfl) ?_
        refine Rg.nil ?_
        exact Vc.ret (Vc.retsH rfl (.cons (.cellA rfl rfl) (.cons (.tmp rfl) (.nil))) (⟨rfl, _, _, by rw [popL, if_neg (by omega), ← h3, siftDown_stop (fun hh => by rw [hk, Int.toNat_natCast, h59] at hh; cases hh.2)]; have := Own.blk (E := headE) b cap (ys.set i xs[xs.length - 1]!) (flat headE (xs.drop (xs.length - 1)) ++ sp) (by rw [List.length_set, List.length_append, flat_length, List.length_drop, h2]; have := headE.pos; rw [← hc, ← Nat.add_assoc, ← Nat.add_mul]; congr 2; omega) hm; rwa [List.length_set, h2] at this, rfl⟩) pulled)
    ·
      simp only [decide_eq_false_iff_not] at h48
      iterate 10 (first | refine Rg.skipP rfl rfl rfl ?_ | refine Rg.skipR rfl rfl rfl ?_ | refine Rg.skipE rfl rfl rfl ?_)
      refine Rg.pure rfl rfl rfl (Pv.pickF rfl rfl) ?_
      refine Rg.nil ?_
      refine Vc.condF rfl ?_
      refine Vc.exit rfl ?_
      refine Vc.seq ?_
      refine Vc.draw [7] (sd [(0, .pure), (1, .pure), (2, .pure), (3, .read), (4, .pure), (5, .read), (6, .pure), (7, .eff)]) mixed (by kernel_rfl) ?_
      refine Rg.pure rfl rfl rfl (Pv.move rfl) ?_
      refine Rg.pure rfl rfl rfl (Pv.nilp rfl) ?_
      refine Rg.pure rfl rfl rfl (Pv.fa rfl) ?_
      refine Rg.read rfl rfl rfl (Ev.ld rfl rfl) ?_
      refine Rg.pure rfl rfl rfl (Pv.move rfl) ?_
      refine Rg.read rfl rfl rfl (Ev.ldA rfl rfl) ?_
      refine Rg.pure rfl rfl rfl (Pv.ixA (i) rfl rfl (by omega) (by omega)) ?_
      refine Rg.storeR (i) rfl rfl rfl rfl rfl rfl (Nat.zero_add _) (by omega) rfl ?_
      refine Rg.nil ?_
      refine Vc.seq ?_
      refine Vc.text (List.range 3) (sd [(0, .read), (1, .eff), (2, .pure)]) rfl ?_
      refine Rg.read rfl rfl rfl (Ev.ldA rfl rfl) ?_
      refine Rg.storeA rfl rfl rfl rfl rfl rfl rfl rfl ?_
      refine Rg.pure rfl rfl rfl (Pv.assign rfl) ?_
      refine Rg.nil ?_
      exact Vc.ret (Vc.retsH rfl (.cons (.cellA rfl rfl) (.cons (.tmp rfl) (.nil))) (⟨rfl, _, _, by rw [popL, if_neg (by omega), ← h3, siftDown_stop (fun hh => by omega)]; have := Own.blk (E := headE) b cap (ys.set i xs[xs.length - 1]!) (flat headE (xs.drop (xs.length - 1)) ++ sp) (by rw [List.length_set, List.length_append, flat_length, List.length_drop, h2]; have := headE.pos; rw [← hc, ← Nat.add_assoc, ← Nat.add_mul]; congr 2; omega) hm; rwa [List.length_set, h2] at this, rfl⟩) pulled)
theorem peek_at {F : Fm} {hb : Nat} {xs : List Hd} {s : Hl} (hh : HeapAt hb xs s) (hF : ∀ b o, (b, o) ∈ s → F.at_ b o) :
    Spec Try.prog 40 #[.pointer (some ⟨hb, 0, none⟩)] F [] fun v _ => v = peekV xs := by
  obtain ⟨v, seg, own, rfl⟩ := hh
  cases xs with
  | nil =>
    obtain ⟨p, cap, rfl⟩ := own.shape
    have : Fat F hb (cellsO [.slice p 0 cap] 62) := ⟨hF _ _ List.mem_cons_self⟩
    exact peek_nil F hb p cap
  | cons x l =>
    obtain ⟨b, cap, sp, rfl, rfl, _, _⟩ := own.block (by simp)
    have : Fat F hb (cellsO [.slice (some ⟨b, 0, none⟩) (x :: l).length cap] 62) := ⟨hF _ _ List.mem_cons_self⟩
    have : Fat F b (rowS headE (x :: l) sp) := ⟨hF _ _ (List.mem_cons_of_mem _ List.mem_cons_self)⟩
    exact (peek_cons F hb b cap (x :: l) sp (by simp)).mono fun v _ h => h
theorem pop_at (F : Fm) (hb : Nat) (xs : List Hd) (hl : Hl) (hh : HeapAt hb xs hl) (hn : xs.length < 4294967296) :
    Spec Try.prog 32 #[.pointer (some ⟨hb, 0, none⟩)] F hl fun v hl' => v = peekV xs ∧ HeapAt hb (popL xs) hl' := by
  cases xs with
  | nil => exact pop_nil F hb hl hh
  | cons x l => exact pop_cons F hb _ hl hh (by simp) hn
def hd (xs : List Hd) : Hd := xs.headD ⟨0, 0, 0⟩
theorem peekV_eq (xs : List Hd) : peekV xs = .tuple #[headV (hd xs), .bool (decide (0 < xs.length))] := by
  cases xs with
  | nil => rfl
  | cons x l => simp [peekV, hd]
theorem hd_get {xs : List Hd} (h : 0 < xs.length) : hd xs = xs[0]! := by
  cases xs with
  | nil => simp at h
  | cons x l => rfl
theorem hd_nil {xs : List Hd} (h : ¬ 0 < xs.length) : hd xs = ⟨0, 0, 0⟩ := by
  cases xs with
  | nil => rfl
  | cons x l => simp at h

theorem pop_hd (F : Fm) (hb : Nat) (xs : List Hd) (hl : Hl) (hh : HeapAt hb xs hl) (hn : xs.length < 4294967296) :
    Spec Try.prog 32 #[.pointer (some ⟨hb, 0, none⟩)] F hl fun v hl' => v = .tuple #[headV (hd xs), .bool (decide (0 < xs.length))] ∧ HeapAt hb (popL xs) hl' := by
  rw [← peekV_eq]; exact pop_at F hb xs hl hh hn
theorem peek_hd {F : Fm} {hb : Nat} {xs : List Hd} {s : Hl} (hh : HeapAt hb xs s) (hF : ∀ b o, (b, o) ∈ s → F.at_ b o) :
    Spec Try.prog 40 #[.pointer (some ⟨hb, 0, none⟩)] F [] fun v _ => v = .tuple #[headV (hd xs), .bool (decide (0 < xs.length))] := by
  rw [← peekV_eq]; exact peek_at hh hF

def pushL (xs : List Hd) (x : Hd) : List Hd := siftUp x (xs ++ [x]) xs.length
theorem push_at (F : Fm) (hb : Nat) (xs : List Hd) (x : Hd) (hl : Hl) (hh : HeapAt hb xs hl) (hn : xs.length < 4294967296) :
    Spec Try.prog 31 #[.pointer (some ⟨hb, 0, none⟩), headV x] F hl fun _ hl' => HeapAt hb (pushL xs x) hl' := push_spec F hb xs x hl hh hn
theorem pushL_length (xs : List Hd) (x : Hd) : (pushL xs x).length = xs.length + 1 := by rw [pushL, siftUp_length]; simp
theorem popL_length (xs : List Hd) : (popL xs).length = xs.length - 1 := by
  by_cases h : 0 < xs.length
  · have := (pop_perm xs h).length_eq
    simp only [List.length_cons] at this
    omega
  · rw [popL, if_pos (by omega)]; simp; omega

theorem heap_nil (hb : Nat) : HeapAt hb [] [(hb, cellsO [.slice none 0 0] 62)] := ⟨_, _, .nil, rfl⟩
end Go.Proofs.Ytkkbeljmloikkaa.HH
