/- Disks: atomics, sectors, names; what a disk tells of itself. -/
import Derived.Test.YtmocncadncgaaaaSlX
import Derived.Test.YtmocncadncgaaaaSlTy
namespace Go.Proofs.Ytmocncadncgaaaa
set_option linter.unusedVariables false

theorem mixed : Try.prog.follows .mixedOrders = true := by kernel_rfl
theorem mkExt {f : Nat} {fn : Func} {e : Array Value → Sem Value} (hf : Try.prog.funcs[f]? = some fn) (hname : (fn.name == "runtime.NumGoroutine") = false) (hb : fn.body.isNone = true) (hn : Extern.findNext fn = none) (he : Extern.find fn = some e) : TyExt Try.prog f e := ⟨fun args w => run_callFunc_extern hf hname hb hn he args w⟩
instance : TyExt Try.prog 68 (Extern.Atomic.loadT (.int .u32)) := mkExt Try.func68 (by kernel_rfl) (by kernel_rfl) (by kernel_rfl) (by kernel_rfl)
instance : TyExt Try.prog 69 (Extern.Atomic.loadT (.int .i64)) := mkExt Try.func69 (by kernel_rfl) (by kernel_rfl) (by kernel_rfl) (by kernel_rfl)
instance : TyExt Try.prog 70 Extern.Atomic.storeT := mkExt Try.func70 (by kernel_rfl) (by kernel_rfl) (by kernel_rfl) (by kernel_rfl)
instance : TyExt Try.prog 72 (Extern.Atomic.swapT (.int .u32)) := mkExt Try.func72 (by kernel_rfl) (by kernel_rfl) (by kernel_rfl) (by kernel_rfl)
instance : TyExt Try.prog 81 (Extern.Atomic.update (Op.intArith .add) .i64 true) := mkExt Try.func81 (by kernel_rfl) (by kernel_rfl) (by kernel_rfl) (by kernel_rfl)

/-- what a truth is to an atomic.Bool -/
def bit (b : Bool) : Int := if b then 1 else 0
theorem b32_spec (F : Fm) (b : Bool) : Spec Try.prog 71 #[.bool b] F [] fun v _ => v = .int .u32 (bit b) := by
  refine Spec.of (n := 4) (vs := [.bool b]) Try.func71 rfl Try.ntmps71 rfl ?_
  refine Vc.seq ?_
  refine Vc.text (List.range 1) (sd [(0, .pure)]) rfl ?_
  refine Rg.pure rfl rfl rfl (Pv.assign rfl) ?_
  refine Rg.nil ?_
  refine Vc.seq ?_
  refine Vc.seq ?_
  refine Vc.text (List.range 1) (sd [(0, .pure)]) rfl ?_
  refine Rg.pure rfl rfl rfl (Pv.move rfl) ?_
  refine Rg.nil ?_
  refine Vc.cond rfl (fun h3 => ?_) (fun h3 => ?_)
  ·
    refine Vc.seq ?_
    refine Vc.text (List.range 1) (sd [(0, .pure)]) rfl ?_
    refine Rg.pure rfl rfl rfl (Pv.assign rfl) ?_
    refine Rg.nil ?_
    refine Vc.ret (Vc.rets rfl (.cons (.tmp rfl) (.nil)) ?_)
    exact congrArg (Value.int .u32) (by rw [h3]; rfl)
  ·
    refine Vc.skip ?_
    refine Vc.seq ?_
    refine Vc.text (List.range 1) (sd [(0, .pure)]) rfl ?_
    refine Rg.pure rfl rfl rfl (Pv.assign rfl) ?_
    refine Rg.nil ?_
    refine Vc.ret (Vc.rets rfl (.cons (.tmp rfl) (.nil)) ?_)
    exact congrArg (Value.int .u32) (by rw [h3]; rfl)
theorem bit_ne (b : Bool) : (bit b != 0) = b := by cases b <;> rfl

/-- The cells of a disk. -/
abbrev dkC (mb : Nat) (room used ops armed : Int) (keep : Value) (down : Bool) : List Value := [.map (some mb), .int .i64 room, .int .i64 used, .int .i64 ops, .int .i64 armed, keep, .int .u32 (bit down)]
abbrev dkO (mb : Nat) (room used ops armed : Int) (keep : Value) (down : Bool) : Obj := cellsO (dkC mb room used ops armed keep down) 75

section
variable {F : Fm} {db mb : Nat} {room used ops armed : Int} {keep : Value} {down : Bool}
theorem bload_spec [h1 : Fat F db (dkO mb room used ops armed keep down)] : Spec Try.prog 49 #[.pointer (some ⟨db, 6, none⟩)] F [] fun v _ => v = .bool down := by
  refine Spec.of (n := 8) (vs := [.pointer (some ⟨db, 6, none⟩)]) Try.func49 rfl Try.ntmps49 rfl ?_
  refine Vc.seq ?_
  refine Vc.text (List.range 1) (sd [(0, .pure)]) rfl ?_
  refine Rg.pure rfl rfl rfl (Pv.assign rfl) ?_
  refine Rg.nil ?_
  refine Vc.seq ?_
  refine Vc.text (List.range 6) (sd [(0, .pure), (1, .pure), (2, .pure), (3, .eff), (4, .pure), (5, .pure)]) rfl ?_
  refine Rg.pure rfl rfl rfl (Pv.move rfl) ?_
  refine Rg.pure rfl rfl rfl (Pv.nilp rfl) ?_
  refine Rg.pure rfl rfl rfl (Pv.fa rfl) ?_
  refine Rg.atLoad rfl rfl rfl rfl rfl ?_
  refine Rg.pure rfl rfl rfl (Pv.neq rfl rfl) ?_
  refine Rg.pure rfl rfl rfl (Pv.assign rfl) ?_
  refine Rg.nil ?_
  refine Vc.ret (Vc.rets rfl (.cons (.tmp rfl) (.nil)) ?_)
  exact congrArg Value.bool (bit_ne down)
theorem iload_spec [h1 : Fat F db (dkO mb room used ops armed keep down)] : Spec Try.prog 50 #[.pointer (some ⟨db, 3, none⟩)] F [] fun v _ => v = .int .i64 ops := by
  refine Spec.of (n := 7) (vs := [.pointer (some ⟨db, 3, none⟩)]) Try.func50 rfl Try.ntmps50 rfl ?_
  refine Vc.seq ?_
  refine Vc.text (List.range 1) (sd [(0, .pure)]) rfl ?_
  refine Rg.pure rfl rfl rfl (Pv.assign rfl) ?_
  refine Rg.nil ?_
  refine Vc.seq ?_
  refine Vc.text (List.range 5) (sd [(0, .pure), (1, .pure), (2, .pure), (3, .eff), (4, .pure)]) rfl ?_
  refine Rg.pure rfl rfl rfl (Pv.move rfl) ?_
  refine Rg.pure rfl rfl rfl (Pv.nilp rfl) ?_
  refine Rg.pure rfl rfl rfl (Pv.fa rfl) ?_
  refine Rg.atLoad rfl rfl rfl rfl rfl ?_
  refine Rg.pure rfl rfl rfl (Pv.assign rfl) ?_
  refine Rg.nil ?_
  refine Vc.ret (Vc.rets rfl (.cons (.tmp rfl) (.nil)) ?_)
  rfl
theorem bstore_spec (x : Bool) : Spec Try.prog 51 #[.pointer (some ⟨db, 6, none⟩), .bool x] F [(db, dkO mb room used ops armed keep down)] fun _ s => s = [(db, dkO mb room used ops armed keep x)] := by
  refine Spec.of (n := 10) (vs := [.pointer (some ⟨db, 6, none⟩), .bool x]) Try.func51 rfl Try.ntmps51 rfl ?_
  refine Vc.draw [5] (sd [(0, .pure), (1, .pure), (2, .pure), (3, .pure), (4, .eff), (5, .eff)]) mixed (by kernel_rfl) ?_
  refine Rg.pure rfl rfl rfl (Pv.move rfl) ?_
  refine Rg.pure rfl rfl rfl (Pv.nilp rfl) ?_
  refine Rg.pure rfl rfl rfl (Pv.fa rfl) ?_
  refine Rg.pure rfl rfl rfl (Pv.move rfl) ?_
  refine Rg.callP rfl rfl rfl (run_callF rfl) (b32_spec _ _) ?_
  rintro _ rfl
  refine Rg.atStore rfl rfl rfl rfl rfl rfl rfl ?_
  refine Rg.nil ?_
  exact Vc.fin (Vc.retsH rfl .nil (rfl) pulled)
theorem bswap_spec (x : Bool) : Spec Try.prog 52 #[.pointer (some ⟨db, 6, none⟩), .bool x] F [(db, dkO mb room used ops armed keep down)] fun v s => v = .bool down ∧ s = [(db, dkO mb room used ops armed keep x)] := by
  refine Spec.of (n := 12) (vs := [.pointer (some ⟨db, 6, none⟩), .bool x]) Try.func52 rfl Try.ntmps52 rfl ?_
  refine Vc.seq ?_
  refine Vc.text (List.range 1) (sd [(0, .pure)]) rfl ?_
  refine Rg.pure rfl rfl rfl (Pv.assign rfl) ?_
  refine Rg.nil ?_
  refine Vc.seq ?_
  refine Vc.draw [5] (sd [(0, .pure), (1, .pure), (2, .pure), (3, .pure), (4, .eff), (5, .eff), (6, .pure), (7, .pure)]) mixed (by kernel_rfl) ?_
  refine Rg.pure rfl rfl rfl (Pv.move rfl) ?_
  refine Rg.pure rfl rfl rfl (Pv.nilp rfl) ?_
  refine Rg.pure rfl rfl rfl (Pv.fa rfl) ?_
  refine Rg.pure rfl rfl rfl (Pv.move rfl) ?_
  refine Rg.callP rfl rfl rfl (run_callF rfl) (b32_spec _ _) ?_
  rintro _ rfl
  refine Rg.atSwap rfl rfl rfl rfl rfl rfl rfl rfl ?_
  refine Rg.pure rfl rfl rfl (Pv.neq rfl rfl) ?_
  refine Rg.pure rfl rfl rfl (Pv.assign rfl) ?_
  refine Rg.nil ?_
  exact Vc.ret (Vc.retsH rfl (.cons (.tmp rfl) (.nil)) (⟨congrArg Value.bool (bit_ne down), rfl⟩) pulled)
theorem iadd_spec (x : Int) : Spec Try.prog 77 #[.pointer (some ⟨db, 3, none⟩), .int .i64 x] F [(db, dkO mb room used ops armed keep down)] fun v s => s = [(db, dkO mb room used (IntKind.wrap .i64 (ops + x)) armed keep down)] := by
  refine Spec.of (n := 10) (vs := [.pointer (some ⟨db, 3, none⟩), .int .i64 x]) Try.func77 rfl Try.ntmps77 rfl ?_
  refine Vc.seq ?_
  refine Vc.text (List.range 1) (sd [(0, .pure)]) rfl ?_
  refine Rg.pure rfl rfl rfl (Pv.assign rfl) ?_
  refine Rg.nil ?_
  refine Vc.seq ?_
  refine Vc.text (List.range 6) (sd [(0, .pure), (1, .pure), (2, .pure), (3, .pure), (4, .eff), (5, .pure)]) rfl ?_
  refine Rg.pure rfl rfl rfl (Pv.move rfl) ?_
  refine Rg.pure rfl rfl rfl (Pv.nilp rfl) ?_
  refine Rg.pure rfl rfl rfl (Pv.fa rfl) ?_
  refine Rg.pure rfl rfl rfl (Pv.move rfl) ?_
  refine Rg.atAdd rfl rfl rfl rfl rfl rfl rfl ?_
  refine Rg.pure rfl rfl rfl (Pv.assign rfl) ?_
  refine Rg.nil ?_
  exact Vc.ret (Vc.retsH rfl (.cons (.tmp rfl) (.nil)) (rfl) pulled)

theorem down_spec [h1 : Fat F db (dkO mb room used ops armed keep down)] : Spec Try.prog 20 #[.pointer (some ⟨db, 0, none⟩)] F [] fun v _ => v = .bool down := by
  refine Spec.of (n := 7) (vs := [.pointer (some ⟨db, 0, none⟩)]) Try.func20 rfl Try.ntmps20 rfl ?_
  refine Vc.seq ?_
  refine Vc.text (List.range 1) (sd [(0, .pure)]) rfl ?_
  refine Rg.pure rfl rfl rfl (Pv.assign rfl) ?_
  refine Rg.nil ?_
  refine Vc.seq ?_
  refine Vc.text (List.range 5) (sd [(0, .pure), (1, .pure), (2, .pure), (3, .eff), (4, .pure)]) rfl ?_
  refine Rg.pure rfl rfl rfl (Pv.move rfl) ?_
  refine Rg.pure rfl rfl rfl (Pv.nilp rfl) ?_
  refine Rg.pure rfl rfl rfl (Pv.fa rfl) ?_
  refine Rg.callP rfl rfl rfl (run_callF rfl) (bload_spec (mb := mb) (room := room) (used := used) (ops := ops) (armed := armed) (keep := keep) (down := down) (h1 := ⟨.inr h1.at_⟩)) ?_
  rintro _ rfl
  refine Rg.pure rfl rfl rfl (Pv.assign rfl) ?_
  refine Rg.nil ?_
  refine Vc.ret (Vc.rets rfl (.cons (.tmp rfl) (.nil)) ?_)
  rfl
theorem ops_spec [h1 : Fat F db (dkO mb room used ops armed keep down)] : Spec Try.prog 21 #[.pointer (some ⟨db, 0, none⟩)] F [] fun v _ => v = .int .i64 ops := by
  refine Spec.of (n := 7) (vs := [.pointer (some ⟨db, 0, none⟩)]) Try.func21 rfl Try.ntmps21 rfl ?_
  refine Vc.seq ?_
  refine Vc.text (List.range 1) (sd [(0, .pure)]) rfl ?_
  refine Rg.pure rfl rfl rfl (Pv.assign rfl) ?_
  refine Rg.nil ?_
  refine Vc.seq ?_
  refine Vc.text (List.range 5) (sd [(0, .pure), (1, .pure), (2, .pure), (3, .eff), (4, .pure)]) rfl ?_
  refine Rg.pure rfl rfl rfl (Pv.move rfl) ?_
  refine Rg.pure rfl rfl rfl (Pv.nilp rfl) ?_
  refine Rg.pure rfl rfl rfl (Pv.fa rfl) ?_
  refine Rg.callP rfl rfl rfl (run_callF rfl) (iload_spec (mb := mb) (room := room) (used := used) (ops := ops) (armed := armed) (keep := keep) (down := down) (h1 := ⟨.inr h1.at_⟩)) ?_
  rintro _ rfl
  refine Rg.pure rfl rfl rfl (Pv.assign rfl) ?_
  refine Rg.nil ?_
  refine Vc.ret (Vc.rets rfl (.cons (.tmp rfl) (.nil)) ?_)
  rfl
theorem used_spec [h1 : Fat F db (dkO mb room used ops armed keep down)] : Spec Try.prog 17 #[.pointer (some ⟨db, 0, none⟩)] F [] fun v _ => v = .int .i64 used := by
  refine Spec.of (n := 7) (vs := [.pointer (some ⟨db, 0, none⟩)]) Try.func17 rfl Try.ntmps17 rfl ?_
  refine Vc.seq ?_
  refine Vc.text (List.range 1) (sd [(0, .pure)]) rfl ?_
  refine Rg.pure rfl rfl rfl (Pv.assign rfl) ?_
  refine Rg.nil ?_
  refine Vc.seq ?_
  refine Vc.text (List.range 5) (sd [(0, .pure), (1, .pure), (2, .pure), (3, .read), (4, .pure)]) rfl ?_
  refine Rg.pure rfl rfl rfl (Pv.move rfl) ?_
  refine Rg.pure rfl rfl rfl (Pv.nilp rfl) ?_
  refine Rg.pure rfl rfl rfl (Pv.fa rfl) ?_
  refine Rg.read rfl rfl rfl (Ev.ld rfl rfl) ?_
  refine Rg.pure rfl rfl rfl (Pv.assign rfl) ?_
  refine Rg.nil ?_
  refine Vc.ret (Vc.rets rfl (.cons (.tmp rfl) (.nil)) ?_)
  rfl
theorem room_spec [h1 : Fat F db (dkO mb room used ops armed keep down)] : Spec Try.prog 18 #[.pointer (some ⟨db, 0, none⟩)] F [] fun v _ => v = .int .i64 room := by
  refine Spec.of (n := 7) (vs := [.pointer (some ⟨db, 0, none⟩)]) Try.func18 rfl Try.ntmps18 rfl ?_
  refine Vc.seq ?_
  refine Vc.text (List.range 1) (sd [(0, .pure)]) rfl ?_
  refine Rg.pure rfl rfl rfl (Pv.assign rfl) ?_
  refine Rg.nil ?_
  refine Vc.seq ?_
  refine Vc.text (List.range 5) (sd [(0, .pure), (1, .pure), (2, .pure), (3, .read), (4, .pure)]) rfl ?_
  refine Rg.pure rfl rfl rfl (Pv.move rfl) ?_
  refine Rg.pure rfl rfl rfl (Pv.nilp rfl) ?_
  refine Rg.pure rfl rfl rfl (Pv.fa rfl) ?_
  refine Rg.read rfl rfl rfl (Ev.ld rfl rfl) ?_
  refine Rg.pure rfl rfl rfl (Pv.assign rfl) ?_
  refine Rg.nil ?_
  refine Vc.ret (Vc.rets rfl (.cons (.tmp rfl) (.nil)) ?_)
  rfl
theorem restart_spec : Spec Try.prog 22 #[.pointer (some ⟨db, 0, none⟩)] F [(db, dkO mb room used ops armed keep down)] fun _ s => s = [(db, dkO mb room used ops armed keep false)] := by
  refine Spec.of (n := 6) (vs := [.pointer (some ⟨db, 0, none⟩)]) Try.func22 rfl Try.ntmps22 rfl ?_
  refine Vc.text (List.range 4) (sd [(0, .pure), (1, .pure), (2, .pure), (3, .eff)]) rfl ?_
  refine Rg.pure rfl rfl rfl (Pv.move rfl) ?_
  refine Rg.pure rfl rfl rfl (Pv.nilp rfl) ?_
  refine Rg.pure rfl rfl rfl (Pv.fa rfl) ?_
  refine Rg.callH rfl rfl rfl (run_callF rfl) (fun F' hF' => bstore_spec (mb := mb) (room := room) (used := used) (ops := ops) (armed := armed) (keep := keep) (down := down) false) rfl ?_
  rintro v5 _ rfl
  refine Rg.nil ?_
  exact Vc.fin (Vc.retsH rfl .nil (rfl) pulled)
end

/-- how many sectors so many bytes need -/
def secs (n : Nat) : Nat := (n + 15) / 16
theorem sectors_spec (F : Fm) (n : Nat) (hn : n < 4294967296) : Spec Try.prog 57 #[.int .i64 (n : Int)] F [] fun v _ => v = .int .i64 (secs n : Nat) := by
  refine Spec.of (n := 7) (vs := [.int .i64 (n : Int)]) Try.func57 rfl Try.ntmps57 rfl ?_
  refine Vc.seq ?_
  refine Vc.text (List.range 1) (sd [(0, .pure)]) rfl ?_
  refine Rg.pure rfl rfl rfl (Pv.assign rfl) ?_
  refine Rg.nil ?_
  refine Vc.seq ?_
  refine Vc.text (List.range 5) (sd [(0, .pure), (1, .pure), (2, .pure), (3, .pure), (4, .pure)]) rfl ?_
  refine Rg.pure rfl rfl rfl (Pv.move rfl) ?_
  refine Rg.pure rfl rfl rfl (Pv.add rfl rfl (by omega)) ?_
  refine Rg.pure rfl rfl rfl (Pv.sub rfl rfl (by omega)) ?_
  refine Rg.pure rfl rfl rfl (Pv.asI (secs n) (Pv.quo rfl rfl (by omega)) (by unfold secs; omega)) ?_
  refine Rg.pure rfl rfl rfl (Pv.assign rfl) ?_
  refine Rg.nil ?_
  refine Vc.ret (Vc.rets rfl (.cons (.tmp rfl) (.nil)) ?_)
  rfl
end Go.Proofs.Ytmocncadncgaaaa
