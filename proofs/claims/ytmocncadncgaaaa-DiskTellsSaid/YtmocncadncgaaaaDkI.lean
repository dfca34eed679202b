/- Disks: atomics, sectors, names; what a disk tells of itself. Disks: Clone; names that may be; bytes are written into a file. Disks: a file behind a crash. Disks: a file behind a crash: torn. Disks: a map's keys, one by one. Disks: keys collected. Disks: files among blocks. Disks: a disk among blocks; New, Arm, Restart, what it tells of itself. Disks: what a crash makes; the begin of an operation. -/
import Derived.Test.YtmocncadncgaaaaSlX
import Derived.Test.YtmocncadncgaaaaSlTy
import Derived.Test.YtmocncadncgaaaaSlM
import Derived.Sort.EncStr
namespace Go.Proofs.Ytmocncadncgaaaa
set_option linter.unusedVariables false

theorem mixed : Try.prog.follows .mixedOrders = true := by kernel_rfl
theorem mkExt {f : Nat} {fn : Func} {e : Array Value → Sem Value} (hf : Try.prog.funcs[f]? = some fn) (hname : (fn.name == "runtime.NumGoroutine") = false) (hb : fn.body.isNone = true) (hn : Extern.findNext fn = none) (he : Extern.find fn = some e) : TyExt Try.prog f e := ⟨fun args w => run_callFunc_extern hf hname hb hn he args w⟩
instance : TyExt Try.prog 68 (Extern.Atomic.loadT (.int .u32)) := mkExt Try.func68 (by kernel_rfl) (by kernel_rfl) (by kernel_rfl) (by kernel_rfl)
instance : TyExt Try.prog 69 (Extern.Atomic.loadT (.int .i64)) := mkExt Try.func69 (by kernel_rfl) (by kernel_rfl) (by kernel_rfl) (by kernel_rfl)
instance : TyExt Try.prog 70 Extern.Atomic.storeT := mkExt Try.func70 (by kernel_rfl) (by kernel_rfl) (by kernel_rfl) (by kernel_rfl)
instance : TyExt Try.prog 72 (Extern.Atomic.swapT (.int .u32)) := mkExt Try.func72 (by kernel_rfl) (by kernel_rfl) (by kernel_rfl) (by kernel_rfl)
instance : TyExt Try.prog 81 (Extern.Atomic.update (Op.intArith .add) .i64 true) := mkExt Try.func81 (by kernel_rfl) (by kernel_rfl) (by kernel_rfl) (by kernel_rfl)

/-- what a truth is to an atomic.Bool -/
def bit (b : Bool) : Int := if b then 1 else 0
theorem b32_spec (F : Fm) (b : Bool) : Spec Try.prog 71 #[.bool b] F [] fun v _ => v = .int .u32 (bit b) := by
  refine Spec.of (n := 4) (vs := [.bool b]) Try.func71 rfl Try.ntmps71 rfl ?_
  refine Vc.seq ?_
  refine Vc.text (List.range 1) (sd [(0, .pure)]) rfl ?_
  refine Rg.pure rfl rfl rfl (Pv.assign rfl) ?_
  refine Rg.nil ?_
  refine Vc.seq ?_
  refine Vc.seq ?_
  refine Vc.text (List.range 1) (sd [(0, .pure)]) rfl ?_
  refine Rg.pure rfl rfl rfl (Pv.move rfl) ?_
  refine Rg.nil ?_
  refine Vc.cond rfl (fun h3 => ?_) (fun h3 => ?_)
  ·
    refine Vc.seq ?_
    refine Vc.text (List.range 1) (sd [(0, .pure)]) rfl ?_
    refine Rg.pure rfl rfl rfl (Pv.assign rfl) ?_
    refine Rg.nil ?_
    refine Vc.ret (Vc.rets rfl (.cons (.tmp rfl) (.nil)) ?_)
    exact congrArg (Value.int .u32) (by rw [h3]; rfl)
  ·
    refine Vc.skip ?_
    refine Vc.seq ?_
    refine Vc.text (List.range 1) (sd [(0, .pure)]) rfl ?_
    refine Rg.pure rfl rfl rfl (Pv.assign rfl) ?_
    refine Rg.nil ?_
    refine Vc.ret (Vc.rets rfl (.cons (.tmp rfl) (.nil)) ?_)
    exact congrArg (Value.int .u32) (by rw [h3]; rfl)
theorem bit_ne (b : Bool) : (bit b != 0) = b := by cases b <;> rfl

/-- The cells of a disk. -/
abbrev dkC (mb : Nat) (room used ops armed : Int) (keep : Value) (down : Bool) : List Value := [.map (some mb), .int .i64 room, .int .i64 used, .int .i64 ops, .int .i64 armed, keep, .int .u32 (bit down)]
abbrev dkO (mb : Nat) (room used ops armed : Int) (keep : Value) (down : Bool) : Obj := cellsO (dkC mb room used ops armed keep down) 75

section
variable {F : Fm} {db mb : Nat} {room used ops armed : Int} {keep : Value} {down : Bool}
theorem bload_spec [h1 : Fat F db (dkO mb room used ops armed keep down)] : Spec Try.prog 49 #[.pointer (some ⟨db, 6, none⟩)] F [] fun v _ => v = .bool down := by
  refine Spec.of (n := 8) (vs := [.pointer (some ⟨db, 6, none⟩)]) Try.func49 rfl Try.ntmps49 rfl ?_
  refine Vc.seq ?_
  refine Vc.text (List.range 1) (sd [(0, .pure)]) rfl ?_
  refine Rg.pure rfl rfl rfl (Pv.assign rfl) ?_
  refine Rg.nil ?_
  refine Vc.seq ?_
  refine Vc.text (List.range 6) (sd [(0, .pure), (1, .pure), (2, .pure), (3, .eff), (4, .pure), (5, .pure)]) rfl ?_
  refine Rg.pure rfl rfl rfl (Pv.move rfl) ?_
  refine Rg.pure rfl rfl rfl (Pv.nilp rfl) ?_
  refine Rg.pure rfl rfl rfl (Pv.fa rfl) ?_
  refine Rg.atLoad rfl rfl rfl rfl rfl ?_
  refine Rg.pure rfl rfl rfl (Pv.neq rfl rfl) ?_
  refine Rg.pure rfl rfl rfl (Pv.assign rfl) ?_
  refine Rg.nil ?_
  refine Vc.ret (Vc.rets rfl (.cons (.tmp rfl) (.nil)) ?_)
  exact congrArg Value.bool (bit_ne down)
theorem iload_spec [h1 : Fat F db (dkO mb room used ops armed keep down)] : Spec Try.prog 50 #[.pointer (some ⟨db, 3, none⟩)] F [] fun v _ => v = .int .i64 ops := by
  refine Spec.of (n := 7) (vs := [.pointer (some ⟨db, 3, none⟩)]) Try.func50 rfl Try.ntmps50 rfl ?_
  refine Vc.seq ?_
  refine Vc.text (List.range 1) (sd [(0, .pure)]) rfl ?_
  refine Rg.pure rfl rfl rfl (Pv.assign rfl) ?_
  refine Rg.nil ?_
  refine Vc.seq ?_
  refine Vc.text (List.range 5) (sd [(0, .pure), (1, .pure), (2, .pure), (3, .eff), (4, .pure)]) rfl ?_
  refine Rg.pure rfl rfl rfl (Pv.move rfl) ?_
  refine Rg.pure rfl rfl rfl (Pv.nilp rfl) ?_
  refine Rg.pure rfl rfl rfl (Pv.fa rfl) ?_
  refine Rg.atLoad rfl rfl rfl rfl rfl ?_
  refine Rg.pure rfl rfl rfl (Pv.assign rfl) ?_
  refine Rg.nil ?_
  refine Vc.ret (Vc.rets rfl (.cons (.tmp rfl) (.nil)) ?_)
  rfl
theorem bstore_spec (x : Bool) : Spec Try.prog 51 #[.pointer (some ⟨db, 6, none⟩), .bool x] F [(db, dkO mb room used ops armed keep down)] fun _ s => s = [(db, dkO mb room used ops armed keep x)] := by
  refine Spec.of (n := 10) (vs := [.pointer (some ⟨db, 6, none⟩), .bool x]) Try.func51 rfl Try.ntmps51 rfl ?_
  refine Vc.draw [5] (sd [(0, .pure), (1, .pure), (2, .pure), (3, .pure), (4, .eff), (5, .eff)]) mixed (by kernel_rfl) ?_
  refine Rg.pure rfl rfl rfl (Pv.move rfl) ?_
  refine Rg.pure rfl rfl rfl (Pv.nilp rfl) ?_
  refine Rg.pure rfl rfl rfl (Pv.fa rfl) ?_
  refine Rg.pure rfl rfl rfl (Pv.move rfl) ?_
  refine Rg.callP rfl rfl rfl (run_callF rfl) (b32_spec _ _) ?_
  rintro _ rfl
  refine Rg.atStore rfl rfl rfl rfl rfl rfl rfl ?_
  refine Rg.nil ?_
  exact Vc.fin (Vc.retsH rfl .nil (rfl) pulled)
theorem bswap_spec (x : Bool) : Spec Try.prog 52 #[.pointer (some ⟨db, 6, none⟩), .bool x] F [(db, dkO mb room used ops armed keep down)] fun v s => v = .bool down ∧ s = [(db, dkO mb room used ops armed keep x)] := by
  refine Spec.of (n := 12) (vs := [.pointer (some ⟨db, 6, none⟩), .bool x]) Try.func52 rfl Try.ntmps52 rfl ?_
  refine Vc.seq ?_
  refine Vc.text (List.range 1) (sd [(0, .pure)]) rfl ?_
  refine Rg.pure rfl rfl rfl (Pv.assign rfl) ?_
  refine Rg.nil ?_
  refine Vc.seq ?_
  refine Vc.draw [5] (sd [(0, .pure), (1, .pure), (2, .pure), (3, .pure), (4, .eff), (5, .eff), (6, .pure), (7, .pure)]) mixed (by kernel_rfl) ?_
  refine Rg.pure rfl rfl rfl (Pv.move rfl) ?_
  refine Rg.pure rfl rfl rfl (Pv.nilp rfl) ?_
  refine Rg.pure rfl rfl rfl (Pv.fa rfl) ?_
  refine Rg.pure rfl rfl rfl (Pv.move rfl) ?_
  refine Rg.callP rfl rfl rfl (run_callF rfl) (b32_spec _ _) ?_
  rintro _ rfl
  refine Rg.atSwap rfl rfl rfl rfl rfl rfl rfl rfl ?_
  refine Rg.pure rfl rfl rfl (Pv.neq rfl rfl) ?_
  refine Rg.pure rfl rfl rfl (Pv.assign rfl) ?_
  refine Rg.nil ?_
  exact Vc.ret (Vc.retsH rfl (.cons (.tmp rfl) (.nil)) (⟨congrArg Value.bool (bit_ne down), rfl⟩) pulled)
theorem iadd_spec (x : Int) : Spec Try.prog 77 #[.pointer (some ⟨db, 3, none⟩), .int .i64 x] F [(db, dkO mb room used ops armed keep down)] fun v s => s = [(db, dkO mb room used (IntKind.wrap .i64 (ops + x)) armed keep down)] := by
  refine Spec.of (n := 10) (vs := [.pointer (some ⟨db, 3, none⟩), .int .i64 x]) Try.func77 rfl Try.ntmps77 rfl ?_
  refine Vc.seq ?_
  refine Vc.text (List.range 1) (sd [(0, .pure)]) rfl ?_
  refine Rg.pure rfl rfl rfl (Pv.assign rfl) ?_
  refine Rg.nil ?_
  refine Vc.seq ?_
  refine Vc.text (List.range 6) (sd [(0, .pure), (1, .pure), (2, .pure), (3, .pure), (4, .eff), (5, .pure)]) rfl ?_
  refine Rg.pure rfl rfl rfl (Pv.move rfl) ?_
  refine Rg.pure rfl rfl rfl (Pv.nilp rfl) ?_
  refine Rg.pure rfl rfl rfl (Pv.fa rfl) ?_
  refine Rg.pure rfl rfl rfl (Pv.move rfl) ?_
  refine Rg.atAdd rfl rfl rfl rfl rfl rfl rfl ?_
  refine Rg.pure rfl rfl rfl (Pv.assign rfl) ?_
  refine Rg.nil ?_
  exact Vc.ret (Vc.retsH rfl (.cons (.tmp rfl) (.nil)) (rfl) pulled)

theorem down_spec [h1 : Fat F db (dkO mb room used ops armed keep down)] : Spec Try.prog 20 #[.pointer (some ⟨db, 0, none⟩)] F [] fun v _ => v = .bool down := by
  refine Spec.of (n := 7) (vs := [.pointer (some ⟨db, 0, none⟩)]) Try.func20 rfl Try.ntmps20 rfl ?_
  refine Vc.seq ?_
  refine Vc.text (List.range 1) (sd [(0, .pure)]) rfl ?_
  refine Rg.pure rfl rfl rfl (Pv.assign rfl) ?_
  refine Rg.nil ?_
  refine Vc.seq ?_
  refine Vc.text (List.range 5) (sd [(0, .pure), (1, .pure), (2, .pure), (3, .eff), (4, .pure)]) rfl ?_
  refine Rg.pure rfl rfl rfl (Pv.move rfl) ?_
  refine Rg.pure rfl rfl rfl (Pv.nilp rfl) ?_
  refine Rg.pure rfl rfl rfl (Pv.fa rfl) ?_
  refine Rg.callP rfl rfl rfl (run_callF rfl) (bload_spec (mb := mb) (room := room) (used := used) (ops := ops) (armed := armed) (keep := keep) (down := down) (h1 := ⟨.inr h1.at_⟩)) ?_
  rintro _ rfl
  refine Rg.pure rfl rfl rfl (Pv.assign rfl) ?_
  refine Rg.nil ?_
  refine Vc.ret (Vc.rets rfl (.cons (.tmp rfl) (.nil)) ?_)
  rfl
theorem ops_spec [h1 : Fat F db (dkO mb room used ops armed keep down)] : Spec Try.prog 21 #[.pointer (some ⟨db, 0, none⟩)] F [] fun v _ => v = .int .i64 ops := by
  refine Spec.of (n := 7) (vs := [.pointer (some ⟨db, 0, none⟩)]) Try.func21 rfl Try.ntmps21 rfl ?_
  refine Vc.seq ?_
  refine Vc.text (List.range 1) (sd [(0, .pure)]) rfl ?_
  refine Rg.pure rfl rfl rfl (Pv.assign rfl) ?_
  refine Rg.nil ?_
  refine Vc.seq ?_
  refine Vc.text (List.range 5) (sd [(0, .pure), (1, .pure), (2, .pure), (3, .eff), (4, .pure)]) rfl ?_
  refine Rg.pure rfl rfl rfl (Pv.move rfl) ?_
  refine Rg.pure rfl rfl rfl (Pv.nilp rfl) ?_
  refine Rg.pure rfl rfl rfl (Pv.fa rfl) ?_
  refine Rg.callP rfl rfl rfl (run_callF rfl) (iload_spec (mb := mb) (room := room) (used := used) (ops := ops) (armed := armed) (keep := keep) (down := down) (h1 := ⟨.inr h1.at_⟩)) ?_
  rintro _ rfl
  refine Rg.pure rfl rfl rfl (Pv.assign rfl) ?_
  refine Rg.nil ?_
  refine Vc.ret (Vc.rets rfl (.cons (.tmp rfl) (.nil)) ?_)
  rfl
theorem used_spec [h1 : Fat F db (dkO mb room used ops armed keep down)] : Spec Try.prog 17 #[.pointer (some ⟨db, 0, none⟩)] F [] fun v _ => v = .int .i64 used := by
  refine Spec.of (n := 7) (vs := [.pointer (some ⟨db, 0, none⟩)]) Try.func17 rfl Try.ntmps17 rfl ?_
  refine Vc.seq ?_
  refine Vc.text (List.range 1) (sd [(0, .pure)]) rfl ?_
  refine Rg.pure rfl rfl rfl (Pv.assign rfl) ?_
  refine Rg.nil ?_
  refine Vc.seq ?_
  refine Vc.text (List.range 5) (sd [(0, .pure), (1, .pure), (2, .pure), (3, .read), (4, .pure)]) rfl ?_
  refine Rg.pure rfl rfl rfl (Pv.move rfl) ?_
  refine Rg.pure rfl rfl rfl (Pv.nilp rfl) ?_
  refine Rg.pure rfl rfl rfl (Pv.fa rfl) ?_
  refine Rg.read rfl rfl rfl (Ev.ld rfl rfl) ?_
  refine Rg.pure rfl rfl rfl (Pv.assign rfl) ?_
  refine Rg.nil ?_
  refine Vc.ret (Vc.rets rfl (.cons (.tmp rfl) (.nil)) ?_)
  rfl
theorem room_spec [h1 : Fat F db (dkO mb room used ops armed keep down)] : Spec Try.prog 18 #[.pointer (some ⟨db, 0, none⟩)] F [] fun v _ => v = .int .i64 room := by
  refine Spec.of (n := 7) (vs := [.pointer (some ⟨db, 0, none⟩)]) Try.func18 rfl Try.ntmps18 rfl ?_
  refine Vc.seq ?_
  refine Vc.text (List.range 1) (sd [(0, .pure)]) rfl ?_
  refine Rg.pure rfl rfl rfl (Pv.assign rfl) ?_
  refine Rg.nil ?_
  refine Vc.seq ?_
  refine Vc.text (List.range 5) (sd [(0, .pure), (1, .pure), (2, .pure), (3, .read), (4, .pure)]) rfl ?_
  refine Rg.pure rfl rfl rfl (Pv.move rfl) ?_
  refine Rg.pure rfl rfl rfl (Pv.nilp rfl) ?_
  refine Rg.pure rfl rfl rfl (Pv.fa rfl) ?_
  refine Rg.read rfl rfl rfl (Ev.ld rfl rfl) ?_
  refine Rg.pure rfl rfl rfl (Pv.assign rfl) ?_
  refine Rg.nil ?_
  refine Vc.ret (Vc.rets rfl (.cons (.tmp rfl) (.nil)) ?_)
  rfl
theorem restart_spec : Spec Try.prog 22 #[.pointer (some ⟨db, 0, none⟩)] F [(db, dkO mb room used ops armed keep down)] fun _ s => s = [(db, dkO mb room used ops armed keep false)] := by
  refine Spec.of (n := 6) (vs := [.pointer (some ⟨db, 0, none⟩)]) Try.func22 rfl Try.ntmps22 rfl ?_
  refine Vc.text (List.range 4) (sd [(0, .pure), (1, .pure), (2, .pure), (3, .eff)]) rfl ?_
  refine Rg.pure rfl rfl rfl (Pv.move rfl) ?_
  refine Rg.pure rfl rfl rfl (Pv.nilp rfl) ?_
  refine Rg.pure rfl rfl rfl (Pv.fa rfl) ?_
  refine Rg.callH rfl rfl rfl (run_callF rfl) (fun F' hF' => bstore_spec (mb := mb) (room := room) (used := used) (ops := ops) (armed := armed) (keep := keep) (down := down) false) rfl ?_
  rintro v5 _ rfl
  refine Rg.nil ?_
  exact Vc.fin (Vc.retsH rfl .nil (rfl) pulled)
end

/-- how many sectors so many bytes need -/
def secs (n : Nat) : Nat := (n + 15) / 16
theorem sectors_spec (F : Fm) (n : Nat) (hn : n < 4294967296) : Spec Try.prog 57 #[.int .i64 (n : Int)] F [] fun v _ => v = .int .i64 (secs n : Nat) := by
  refine Spec.of (n := 7) (vs := [.int .i64 (n : Int)]) Try.func57 rfl Try.ntmps57 rfl ?_
  refine Vc.seq ?_
  refine Vc.text (List.range 1) (sd [(0, .pure)]) rfl ?_
  refine Rg.pure rfl rfl rfl (Pv.assign rfl) ?_
  refine Rg.nil ?_
  refine Vc.seq ?_
  refine Vc.text (List.range 5) (sd [(0, .pure), (1, .pure), (2, .pure), (3, .pure), (4, .pure)]) rfl ?_
  refine Rg.pure rfl rfl rfl (Pv.move rfl) ?_
  refine Rg.pure rfl rfl rfl (Pv.add rfl rfl (by omega)) ?_
  refine Rg.pure rfl rfl rfl (Pv.sub rfl rfl (by omega)) ?_
  refine Rg.pure rfl rfl rfl (Pv.asI (secs n) (Pv.quo rfl rfl (by omega)) (by unfold secs; omega)) ?_
  refine Rg.pure rfl rfl rfl (Pv.assign rfl) ?_
  refine Rg.nil ?_
  refine Vc.ret (Vc.rets rfl (.cons (.tmp rfl) (.nil)) ?_)
  rfl
end Go.Proofs.Ytmocncadncgaaaa

namespace Go.Proofs.Ytmocncadncgaaaa
set_option linter.unusedVariables false

abbrev byteE : Enc UInt8 := byteEnc 5
instance : RowTy Try.prog byteE 5 := ⟨Try.sizeOf5, .inr ⟨Try.isAgg5, rfl, fun _ => rfl⟩⟩
instance : TySl Try.prog 29 byteE 1 := ⟨Try.underlying29, Try.t5, .int .u8 0, by kernel_rfl, by kernel_rfl, rfl, rfl, rfl⟩
instance : TyZero Try.prog byteE.tid (byteE.val 0) := inferInstanceAs (TyZero Try.prog 5 (.int .u8 0))
def boolE : Enc Bool where
  k := 1
  tid := 4
  cells := fun b => [.bool b]
  val := fun b => .bool b
  pos := by decide
  len := fun _ => rfl
  one := fun x v hv => by simp at hv; subst hv; rfl
  vc := fun _ => rfl
instance : RowTy Try.prog boolE 4 := ⟨Try.sizeOf4, .inr ⟨Try.isAgg4, rfl, fun _ => rfl⟩⟩
instance : TySl Try.prog 38 boolE 1 := ⟨Try.underlying38, Try.t4, .bool false, by kernel_rfl, by kernel_rfl, rfl, rfl, rfl⟩

theorem clone_spec {F : Fm} {va : Value} {xs : List UInt8} (ha : Arg byteE F va xs) (hN : xs.length < 4294967296) :
    Spec Try.prog 58 #[va] F [] fun v s => Own byteE v xs s := by
  obtain ⟨p, c, rfl⟩ := ha.shape
  refine Spec.of (n := 8) (vs := [.slice p xs.length c]) Try.func58 rfl Try.ntmps58 rfl ?_
  refine Vc.seq ?_
  refine Vc.text (List.range 1) (sd [(0, .pure)]) rfl ?_
  refine Rg.pure rfl rfl rfl (Pv.assign rfl) ?_
  refine Rg.nil ?_
  refine Vc.seq ?_
  refine Vc.seq ?_
  refine Vc.text (List.range 2) (sd [(0, .pure), (1, .pure)]) rfl ?_
  refine Rg.pure rfl rfl rfl (Pv.move rfl) ?_
  refine Rg.pure rfl rfl rfl (Pv.eqlNilS rfl rfl) ?_
  refine Rg.nil ?_
  refine Vc.cond rfl (fun h4 => ?_) (fun h4 => ?_)
  ·
    obtain rfl : p = none := by cases p with | none => rfl | some a => cases h4
    obtain rfl : xs = [] := by
      rcases ha with ⟨_, e⟩ | ⟨_, _, _, e, _⟩
      · exact e
      · cases e
    refine Vc.seq ?_
    refine Vc.text (List.range 1) (sd [(0, .pure)]) rfl ?_
    refine Rg.pure rfl rfl rfl (Pv.assign rfl) ?_
    refine Rg.nil ?_
    refine Vc.ret (Vc.rets rfl (.cons (.tmp rfl) (.nil)) ?_)
    exact Own.nil
  ·
    refine Vc.skip ?_
    refine Vc.seq ?_
    refine Vc.text (List.range 4) (sd [(0, .eff), (1, .pure), (2, .eff), (3, .pure)]) rfl ?_
    refine Rg.bslice0 (E := byteE) rfl rfl rfl (fun b5 own5 => ?_)
    refine Rg.pure rfl rfl rfl (Pv.move rfl) ?_
    refine Rg.append rfl rfl rfl rfl rfl own5 ha.src (by simp <;> omega) (by simp [maxLen] <;> omega) rfl (fun v7 s7 own7 => ?_)
    refine Rg.pure rfl rfl rfl (Pv.assign rfl) ?_
    refine Rg.nil ?_
    exact Vc.ret (Vc.retsH rfl (.cons (.tmp rfl) (.nil)) (own7) pulled)
theorem cloneB_spec {F : Fm} {va : Value} {xs : List Bool} (ha : Arg boolE F va xs) (hN : xs.length < 4294967296) :
    Spec Try.prog 48 #[va] F [] fun v s => Own boolE v xs s := by
  obtain ⟨p, c, rfl⟩ := ha.shape
  refine Spec.of (n := 8) (vs := [.slice p xs.length c]) Try.func48 rfl Try.ntmps48 rfl ?_
  refine Vc.seq ?_
  refine Vc.text (List.range 1) (sd [(0, .pure)]) rfl ?_
  refine Rg.pure rfl rfl rfl (Pv.assign rfl) ?_
  refine Rg.nil ?_
  refine Vc.seq ?_
  refine Vc.seq ?_
  refine Vc.text (List.range 2) (sd [(0, .pure), (1, .pure)]) rfl ?_
  refine Rg.pure rfl rfl rfl (Pv.move rfl) ?_
  refine Rg.pure rfl rfl rfl (Pv.eqlNilS rfl rfl) ?_
  refine Rg.nil ?_
  refine Vc.cond rfl (fun h4 => ?_) (fun h4 => ?_)
  ·
    obtain rfl : p = none := by cases p with | none => rfl | some a => cases h4
    obtain rfl : xs = [] := by
      rcases ha with ⟨_, e⟩ | ⟨_, _, _, e, _⟩
      · exact e
      · cases e
    refine Vc.seq ?_
    refine Vc.text (List.range 1) (sd [(0, .pure)]) rfl ?_
    refine Rg.pure rfl rfl rfl (Pv.assign rfl) ?_
    refine Rg.nil ?_
    refine Vc.ret (Vc.rets rfl (.cons (.tmp rfl) (.nil)) ?_)
    exact Own.nil
  ·
    refine Vc.skip ?_
    refine Vc.seq ?_
    refine Vc.text (List.range 4) (sd [(0, .eff), (1, .pure), (2, .eff), (3, .pure)]) rfl ?_
    refine Rg.bslice0 (E := boolE) rfl rfl rfl (fun b5 own5 => ?_)
    refine Rg.pure rfl rfl rfl (Pv.move rfl) ?_
    refine Rg.append rfl rfl rfl rfl rfl own5 ha.src (by simp <;> omega) (by simp [maxLen] <;> omega) rfl (fun v7 s7 own7 => ?_)
    refine Rg.pure rfl rfl rfl (Pv.assign rfl) ?_
    refine Rg.nil ?_
    exact Vc.ret (Vc.retsH rfl (.cons (.tmp rfl) (.nil)) (own7) pulled)

/-- may a name be? -/
def mayN (s : ByteArray) : Bool := decide (1 ≤ s.size) && decide (s.size ≤ 24)
theorem size_zero {s : ByteArray} : s = ⟨#[]⟩ ↔ s.size = 0 := by
  obtain ⟨a⟩ := s
  constructor
  · intro h; cases h; rfl
  · intro h
    have : a = #[] := Array.eq_empty_of_size_eq_zero h
    rw [this]
theorem may_spec (F : Fm) (s : ByteArray) : Spec Try.prog 46 #[.string s] F [] fun v _ => v = .bool (mayN s) := by
  refine Spec.of (n := 10) (vs := [.string s]) Try.func46 rfl Try.ntmps46 rfl ?_
  refine Vc.seq ?_
  refine Vc.text (List.range 1) (sd [(0, .pure)]) rfl ?_
  refine Rg.pure rfl rfl rfl (Pv.assign rfl) ?_
  refine Rg.nil ?_
  refine Vc.seq ?_
  refine Vc.text (List.range 8) (sd [(0, .pure), (1, .pure), (2, .pure), (3, .pure), (4, .pure), (5, .pure), (6, .pure), (7, .pure)]) rfl ?_
  refine Rg.pure rfl rfl rfl (Pv.move rfl) ?_
  refine Rg.pure rfl rfl rfl (Pv.neqS rfl rfl) ?_
  refine Rg.pure rfl rfl rfl (Pv.move rfl) ?_
  refine Rg.split (t := 5) rfl (fun h5 => ?_) (fun h5 => ?_)
  ·
    simp only [Bool.not_eq_true', decide_eq_false_iff_not] at h5
    rw [size_zero] at h5
    refine Rg.pure rfl rfl rfl (Pv.move rfl) ?_
    refine Rg.pure rfl rfl rfl (Pv.lenStr rfl) ?_
    refine Rg.pure rfl rfl rfl (Pv.leq rfl rfl) ?_
    refine Rg.pure rfl rfl rfl (Pv.pickT rfl rfl) ?_
    refine Rg.pure rfl rfl rfl (Pv.assign rfl) ?_
    refine Rg.nil ?_
    refine Vc.ret (Vc.rets rfl (.cons (.tmp rfl) (.nil)) ?_)
    exact congrArg Value.bool (by rw [mayN, decide_eq_true (show 1 ≤ s.size by omega), Bool.true_and]; rw [Bool.eq_iff_iff]; simp; omega)
  ·
    simp only [Bool.not_eq_false', decide_eq_true_eq] at h5
    rw [size_zero] at h5
    iterate 3 (first | refine Rg.skipP rfl rfl rfl ?_ | refine Rg.skipR rfl rfl rfl ?_ | refine Rg.skipE rfl rfl rfl ?_)
    refine Rg.pure rfl rfl rfl (Pv.pickF rfl rfl) ?_
    refine Rg.pure rfl rfl rfl (Pv.assign rfl) ?_
    refine Rg.nil ?_
    refine Vc.ret (Vc.rets rfl (.cons (.tmp rfl) (.nil)) ?_)
    exact congrArg Value.bool (by rw [mayN, decide_eq_false (show ¬ 1 ≤ s.size by omega)]; rfl)

/-- bytes at a place -/
def putAt (now : List UInt8) (k : Nat) (bs : List UInt8) : List UInt8 := now.take k ++ bs ++ now.drop (k + bs.length)
theorem putAt_length {now bs : List UInt8} {k : Nat} (hk : k ≤ now.length) : (putAt now k bs).length = max now.length (k + bs.length) := by
  simp [putAt]; omega
theorem putAt_of {now bs : List UInt8} {k : Nat} (hk : k ≤ now.length) :
    let ys := now ++ List.replicate (max now.length (k + bs.length) - now.length) 0
    ys.take k ++ bs.take (min bs.length (ys.length - k)) ++ ys.drop (k + min bs.length (ys.length - k)) = putAt now k bs := by
  intro ys
  have hyl : ys.length = max now.length (k + bs.length) := by simp [ys]; omega
  have hm : min bs.length (ys.length - k) = bs.length := by rw [hyl]; omega
  rw [hm, List.take_length, putAt]
  have h1 : ys.take k = now.take k := by simp [ys, List.take_append_of_le_length hk]
  rw [h1]
  congr 1
  by_cases h : k + bs.length ≤ now.length
  · have : max now.length (k + bs.length) - now.length = 0 := by omega
    simp [ys, this]
  · rw [List.drop_eq_nil_of_le (by omega), List.drop_eq_nil_of_le (by omega)]
/-- What writing answers, and makes: an error, how many sectors are used, the file's bytes. -/
def wrG (room used : Int) (now : List UInt8) (at_ : Int) (bs : List UInt8) : Int × Int × List UInt8 :=
  if at_ < 0 ∨ (now.length : Int) < at_ then (1, used, now)
  else if room < used + ((secs (max now.length (at_.toNat + bs.length)) : Int) - (secs now.length : Int)) then (6, used, now)
  else (0, used + ((secs (max now.length (at_.toNat + bs.length)) : Int) - (secs now.length : Int)), putAt now at_.toNat bs)

set_option maxHeartbeats 1000000 in
theorem writes_spec {F : Fm} {db mb fb : Nat} {room used ops armed : Int} {keep vn vs : Value} {down : Bool} {now bs : List UInt8} {s1 : Hl} {vb : Value} (own : Own byteE vn now s1) (hb : Arg byteE F vb bs) (at_ : Int)
    (hn : now.length < 1073741824) (hbl : bs.length < 1073741824) (hu : 0 ≤ used ∧ used ≤ 1099511627776) :
    Spec Try.prog 47 #[.pointer (some ⟨db, 0, none⟩), .pointer (some ⟨fb, 0, none⟩), .int .i64 at_, vb] F ((db, dkO mb room used ops armed keep down) :: (fb, cellsO [vn, vs] 81) :: s1)
      fun v s => v = .int .i64 (wrG room used now at_ bs).1 ∧ ∃ vn' s1', Own byteE vn' (wrG room used now at_ bs).2.2 s1' ∧ s = (db, dkO mb room (wrG room used now at_ bs).2.1 ops armed keep down) :: (fb, cellsO [vn', vs] 81) :: s1' := by
  obtain ⟨pb, cb, rfl⟩ := hb.shape
  obtain ⟨pn, cn, rfl⟩ := own.shape
  refine Spec.of (n := 83) (vs := [.pointer (some ⟨db, 0, none⟩), .pointer (some ⟨fb, 0, none⟩), .int .i64 at_, .slice pb bs.length cb]) Try.func47 rfl Try.ntmps47 rfl ?_
  refine Vc.seq ?_
  refine Vc.text (List.range 1) (sd [(0, .pure)]) rfl ?_
  refine Rg.pure rfl rfl rfl (Pv.assign rfl) ?_
  refine Rg.nil ?_
  refine Vc.seq ?_
  refine Vc.seq ?_
  refine Vc.text (List.range 11) (sd [(0, .pure), (1, .pure), (2, .pure), (3, .pure), (4, .pure), (5, .pure), (6, .pure), (7, .read), (8, .pure), (9, .pure), (10, .pure)]) rfl ?_
  refine Rg.pure rfl rfl rfl (Pv.move rfl) ?_
  refine Rg.pure rfl rfl rfl (Pv.lss rfl rfl) ?_
  refine Rg.pure rfl rfl rfl (Pv.move rfl) ?_
  refine Rg.split (t := 13) rfl (fun h13 => ?_) (fun h13 => ?_)
  ·
    simp only [decide_eq_true_eq] at h13
    iterate 7 (first | refine Rg.skipP rfl rfl rfl ?_ | refine Rg.skipR rfl rfl rfl ?_ | refine Rg.skipE rfl rfl rfl ?_)
    refine Rg.pure rfl rfl rfl (Pv.pickT rfl rfl) ?_
    refine Rg.nil ?_
    refine Vc.condT rfl ?_
    refine Vc.seq ?_
    refine Vc.text (List.range 1) (sd [(0, .pure)]) rfl ?_
    refine Rg.pure rfl rfl rfl (Pv.assign rfl) ?_
    refine Rg.nil ?_
    exact Vc.ret (Vc.retsH rfl (.cons (.tmp rfl) (.nil)) (⟨congrArg (Value.int .i64) (by rw [wrG, if_pos (.inl h13)]), _, s1, by rw [wrG, if_pos (.inl h13)]; exact own, by rw [wrG, if_pos (.inl h13)]⟩) pulled)
  ·
    simp only [decide_eq_false_iff_not] at h13
    refine Rg.pure rfl rfl rfl (Pv.move rfl) ?_
    refine Rg.pure rfl rfl rfl (Pv.move rfl) ?_
    refine Rg.pure rfl rfl rfl (Pv.nilp rfl) ?_
    refine Rg.pure rfl rfl rfl (Pv.fa rfl) ?_
    refine Rg.read rfl rfl rfl (Ev.ld rfl rfl) ?_
    refine Rg.pure rfl rfl rfl (Pv.lenS rfl) ?_
    refine Rg.pure rfl rfl rfl (Pv.gtr rfl rfl) ?_
    refine Rg.pure rfl rfl rfl (Pv.pickF rfl rfl) ?_
    refine Rg.nil ?_
    refine Vc.cond rfl (fun h21 => ?_) (fun h21 => ?_)
    ·
      simp only [decide_eq_true_eq] at h21
      refine Vc.seq ?_
      refine Vc.text (List.range 1) (sd [(0, .pure)]) rfl ?_
      refine Rg.pure rfl rfl rfl (Pv.assign rfl) ?_
      refine Rg.nil ?_
      exact Vc.ret (Vc.retsH rfl (.cons (.tmp rfl) (.nil)) (⟨congrArg (Value.int .i64) (by rw [wrG, if_pos (.inr h21)]), _, s1, by rw [wrG, if_pos (.inr h21)]; exact own, by rw [wrG, if_pos (.inr h21)]⟩) pulled)
    ·
      simp only [decide_eq_false_iff_not] at h21
      obtain ⟨k, rfl⟩ : ∃ k : Nat, at_ = k := ⟨at_.toNat, by omega⟩
      have hk : k ≤ now.length := by omega
      obtain ⟨size, hsz⟩ : ∃ s, s = max now.length (k + bs.length) := ⟨_, rfl⟩
      have hpa := putAt_of (bs := bs) hk
      have hpl := putAt_length (bs := bs) hk
      rw [← hsz] at hpa hpl
      refine Vc.skip ?_
      refine Vc.seq ?_
      refine Vc.text (List.range 11) (sd [(0, .pure), (1, .pure), (2, .pure), (3, .read), (4, .pure), (5, .pure), (6, .pure), (7, .pure), (8, .pure), (9, .pure), (10, .pure)]) rfl ?_
      refine Rg.pure rfl rfl rfl (Pv.move rfl) ?_
      refine Rg.pure rfl rfl rfl (Pv.nilp rfl) ?_
      refine Rg.pure rfl rfl rfl (Pv.fa rfl) ?_
      refine Rg.read rfl rfl rfl (Ev.ld rfl rfl) ?_
      refine Rg.pure rfl rfl rfl (Pv.lenS rfl) ?_
      refine Rg.pure rfl rfl rfl (Pv.move rfl) ?_
      refine Rg.pure rfl rfl rfl (Pv.move rfl) ?_
      refine Rg.pure rfl rfl rfl (Pv.lenS rfl) ?_
      refine Rg.pure rfl rfl rfl (Pv.add rfl rfl (by omega)) ?_
      refine Rg.pure rfl rfl rfl (Pv.asI (size) (Pv.max rfl rfl) (by omega)) ?_
      refine Rg.pure rfl rfl rfl (Pv.assign rfl) ?_
      refine Rg.nil ?_
      refine Vc.seq ?_
      refine Vc.draw [] (sd [(0, .pure), (2, .pure), (3, .pure), (4, .pure), (5, .read), (6, .pure), (1, .eff), (7, .eff), (8, .pure), (9, .pure)]) mixed (by kernel_rfl) ?_
      refine Rg.pure rfl rfl rfl (Pv.move rfl) ?_
      refine Rg.pure rfl rfl rfl (Pv.move rfl) ?_
      refine Rg.pure rfl rfl rfl (Pv.nilp rfl) ?_
      refine Rg.pure rfl rfl rfl (Pv.fa rfl) ?_
      refine Rg.read rfl rfl rfl (Ev.ld rfl rfl) ?_
      refine Rg.pure rfl rfl rfl (Pv.lenS rfl) ?_
      refine Rg.callP rfl rfl rfl (run_callF rfl) (sectors_spec _ size (by omega)) ?_
      rintro _ rfl
      refine Rg.callP rfl rfl rfl (run_callF rfl) (sectors_spec _ now.length (by omega)) ?_
      rintro _ rfl
      refine Rg.pure rfl rfl rfl (Pv.sub rfl rfl (by have : secs size ≤ 1099511627776 := (by unfold secs; omega); have : secs now.length ≤ 1099511627776 := (by unfold secs; omega); omega)) ?_
      have hs1 : secs size ≤ 1099511627776 := by unfold secs; omega
      have hs2 : secs now.length ≤ 1099511627776 := by unfold secs; omega
      refine Rg.pure rfl rfl rfl (Pv.assign rfl) ?_
      refine Rg.nil ?_
      refine Vc.seq ?_
      refine Vc.seq ?_
      refine Vc.draw [] (sd [(0, .pure), (1, .pure), (2, .pure), (3, .read), (4, .pure), (5, .pure), (6, .pure), (7, .pure), (8, .pure), (9, .read), (10, .pure)]) mixed (by kernel_rfl) ?_
      refine Rg.pure rfl rfl rfl (Pv.move rfl) ?_
      refine Rg.pure rfl rfl rfl (Pv.nilp rfl) ?_
      refine Rg.pure rfl rfl rfl (Pv.fa rfl) ?_
      refine Rg.read rfl rfl rfl (Ev.ld rfl rfl) ?_
      refine Rg.pure rfl rfl rfl (Pv.move rfl) ?_
      refine Rg.pure rfl rfl rfl (Pv.add rfl rfl (by omega)) ?_
      refine Rg.pure rfl rfl rfl (Pv.move rfl) ?_
      refine Rg.pure rfl rfl rfl (Pv.nilp rfl) ?_
      refine Rg.pure rfl rfl rfl (Pv.fa rfl) ?_
      refine Rg.read rfl rfl rfl (Ev.ld rfl rfl) ?_
      refine Rg.pure rfl rfl rfl (Pv.gtr rfl rfl) ?_
      refine Rg.nil ?_
      refine Vc.cond rfl (fun h51 => ?_) (fun h51 => ?_)
      ·
        simp only [decide_eq_true_eq] at h51
        refine Vc.seq ?_
        refine Vc.text (List.range 1) (sd [(0, .pure)]) rfl ?_
        refine Rg.pure rfl rfl rfl (Pv.assign rfl) ?_
        refine Rg.nil ?_
        exact Vc.ret (Vc.retsH rfl (.cons (.tmp rfl) (.nil)) (⟨congrArg (Value.int .i64) (by rw [wrG, if_neg (by omega), Int.toNat_natCast, ← hsz, if_pos h51]), _, s1, by rw [wrG, if_neg (by omega), Int.toNat_natCast, ← hsz, if_pos h51]; exact own, by rw [wrG, if_neg (by omega), Int.toNat_natCast, ← hsz, if_pos h51]⟩) pulled)
      ·
        simp only [decide_eq_false_iff_not] at h51
        refine Vc.skip ?_
        refine Vc.seq ?_
        refine Vc.text (List.range 9) (sd [(0, .pure), (1, .pure), (2, .pure), (3, .read), (4, .pure), (5, .pure), (6, .pure), (7, .pure), (8, .eff)]) rfl ?_
        refine Rg.pure rfl rfl rfl (Pv.move rfl) ?_
        refine Rg.pure rfl rfl rfl (Pv.nilp rfl) ?_
        refine Rg.pure rfl rfl rfl (Pv.fa rfl) ?_
        refine Rg.read rfl rfl rfl (Ev.ld rfl rfl) ?_
        refine Rg.pure rfl rfl rfl (Pv.move rfl) ?_
        refine Rg.pure rfl rfl rfl (Pv.add rfl rfl (by omega)) ?_
        refine Rg.pure rfl rfl rfl (Pv.nilp rfl) ?_
        refine Rg.pure rfl rfl rfl (Pv.fa rfl) ?_
        refine Rg.store rfl rfl rfl rfl rfl rfl rfl rfl ?_
        refine Rg.nil ?_
        refine Vc.seq ?_
        refine Vc.draw [12, 15] (sd [(0, .pure), (1, .pure), (2, .pure), (3, .pure), (4, .read), (5, .pure), (6, .pure), (7, .pure), (8, .pure), (9, .read), (10, .pure), (11, .pure), (12, .eff), (13, .pure), (14, .pure), (15, .eff)]) mixed (by kernel_rfl) ?_
        refine Rg.pure rfl rfl rfl (Pv.move rfl) ?_
        refine Rg.pure rfl rfl rfl (Pv.move rfl) ?_
        refine Rg.pure rfl rfl rfl (Pv.nilp rfl) ?_
        refine Rg.pure rfl rfl rfl (Pv.fa rfl) ?_
        refine Rg.read rfl rfl rfl (Ev.ld rfl rfl) ?_
        refine Rg.pure rfl rfl rfl (Pv.move rfl) ?_
        refine Rg.pure rfl rfl rfl (Pv.move rfl) ?_
        refine Rg.pure rfl rfl rfl (Pv.nilp rfl) ?_
        refine Rg.pure rfl rfl rfl (Pv.fa rfl) ?_
        refine Rg.read rfl rfl rfl (Ev.ld rfl rfl) ?_
        refine Rg.pure rfl rfl rfl (Pv.lenS rfl) ?_
        refine Rg.pure rfl rfl rfl (Pv.asI (size - now.length) (Pv.sub rfl rfl (by omega)) (by omega)) ?_
        refine Rg.appendZ (E := byteE) 0 (size - now.length) rfl rfl rfl rfl rfl own (by omega) (by rw [show maxLen = 9223372036854775807 from rfl]; omega) rfl (fun v72 s72 own72 => ?_)
        have hyl : (now ++ List.replicate (size - now.length) (0 : UInt8)).length = size := by simp; omega
        obtain ⟨p72, c72, rfl⟩ := own72.shape
        refine Rg.pure rfl rfl rfl (Pv.nilp rfl) ?_
        refine Rg.pure rfl rfl rfl (Pv.fa rfl) ?_
        refine Rg.store rfl rfl rfl rfl rfl rfl rfl rfl ?_
        refine Rg.nil ?_
        refine Vc.seq ?_
        refine Vc.text (List.range 8) (sd [(0, .pure), (1, .pure), (2, .pure), (3, .read), (4, .pure), (5, .pure), (6, .pure), (7, .eff)]) rfl ?_
        refine Rg.pure rfl rfl rfl (Pv.move rfl) ?_
        refine Rg.pure rfl rfl rfl (Pv.nilp rfl) ?_
        refine Rg.pure rfl rfl rfl (Pv.fa rfl) ?_
        refine Rg.read rfl rfl rfl (Ev.ld rfl rfl) ?_
        refine Rg.pure rfl rfl rfl (Pv.move rfl) ?_
        refine Rg.pure rfl rfl rfl (Pv.sl (lv := none) (hv := none) k (now ++ List.replicate (size - now.length) (0 : UInt8)).length rfl rfl rfl (by omega) (Arg.own (F := frz F s72) own72 fun b o hb => Or.inl hb).cap.2 (fun _ => (Arg.own (F := frz F s72) own72 fun b o hb => Or.inl hb).cap.2)) ?_
        refine Rg.pure rfl rfl rfl (Pv.move rfl) ?_
        refine Rg.copyTo (E := byteE) (zs := bs) k rfl rfl rfl rfl rfl own72 hb.src (by omega) rfl (fun s82 own82 => ?_)
        rw [hpa] at own82
        refine Rg.nil ?_
        refine Vc.seq ?_
        refine Vc.text (List.range 1) (sd [(0, .pure)]) rfl ?_
        refine Rg.pure rfl rfl rfl (Pv.assign rfl) ?_
        refine Rg.nil ?_
        exact Vc.ret (Vc.retsH rfl (.cons (.tmp rfl) (.nil)) (⟨congrArg (Value.int .i64) (by rw [wrG, if_neg (by omega), Int.toNat_natCast, ← hsz, if_neg h51]), _, s82, by rw [wrG, if_neg (by omega), Int.toNat_natCast, ← hsz, if_neg h51]; exact own82, by rw [wrG, if_neg (by omega), Int.toNat_natCast, ← hsz, if_neg h51]⟩) pulled)
end Go.Proofs.Ytmocncadncgaaaa

namespace Go.Proofs.Ytmocncadncgaaaa
set_option linter.unusedVariables false

theorem Arg.from {α : Type} {E : Enc α} {F : Fm} {p : Option Addr} {m c : Nat} {xs : List α} (h : Arg E F (.slice p m c) xs) {i : Nat} (hi : i ≤ xs.length) : Arg E F (.slice (if c = i then p else p.map (·.add (i * E.k))) (m - i) (c - i)) (xs.drop i) := by
  obtain ⟨hm, hc⟩ := h.cap
  by_cases h0 : xs.length = 0
  · obtain rfl : xs = [] := List.length_eq_zero_iff.1 h0
    obtain rfl : i = 0 := by simpa using hi
    rw [hm]
    exact Arg.nil
  · obtain ⟨b, off, c', e, _⟩ := h.block (by omega)
    cases e
    have := h.sub i xs.length hi (Nat.le_refl _)
    rw [List.take_of_length_le (by simp)] at this
    by_cases hci : c = i
    · rw [if_pos hci] at this ⊢; exact this
    · rw [if_neg hci] at this ⊢
      simpa [addr_add] using this
theorem equal_spec {F : Fm} {va vb : Value} {xs ys : List UInt8} (ha : Arg byteE F va xs) (hb : Arg byteE F vb ys) :
    Spec Try.prog 76 #[va, vb] F [] fun v _ => v = .bool (decide (xs = ys)) := by
  obtain ⟨p, c, rfl⟩ := ha.shape
  obtain ⟨q, d, rfl⟩ := hb.shape
  refine Spec.of (n := 10) (vs := [.slice p xs.length c, .slice q ys.length d]) Try.func76 rfl Try.ntmps76 rfl ?_
  refine Vc.seq ?_
  refine Vc.text (List.range 1) (sd [(0, .pure)]) rfl ?_
  refine Rg.pure rfl rfl rfl (Pv.assign rfl) ?_
  refine Rg.nil ?_
  refine Vc.seq ?_
  refine Vc.text (List.range 6) (sd [(0, .pure), (1, .read), (2, .pure), (3, .read), (4, .pure), (5, .pure)]) rfl ?_
  refine Rg.pure rfl rfl rfl (Pv.move rfl) ?_
  refine Rg.read rfl rfl rfl (Ev.str (ha.src) rfl) ?_
  refine Rg.pure rfl rfl rfl (Pv.move rfl) ?_
  refine Rg.read rfl rfl rfl (Ev.str (hb.src) rfl) ?_
  refine Rg.pure rfl rfl rfl (Pv.eqlS rfl rfl) ?_
  refine Rg.pure rfl rfl rfl (Pv.assign rfl) ?_
  refine Rg.nil ?_
  refine Vc.ret (Vc.rets rfl (.cons (.tmp rfl) (.nil)) ?_)
  exact congrArg Value.bool (by rw [Bool.eq_iff_iff]; simp)
/-- the next truth; false behind the last one -/
def hdB (ks : List Bool) : Bool := ks.headD false
theorem next_spec {F : Fm} {kb : Nat} {kv : Value} {ks : List Bool} (K : Fm → Prop) (hKF : K F) (hka : ∀ F', K F' → Arg boolE F' kv ks) :
    Spec Try.prog 53 #[.pointer (some ⟨kb, 0, none⟩)] F [(kb, cellsO [kv] 38)] fun v s => v = .bool (hdB ks) ∧ ∃ kv', (∀ F', K F' → Arg boolE F' kv' (ks.drop 1)) ∧ s = [(kb, cellsO [kv'] 38)] := by
  have hk := hka F hKF
  obtain ⟨p, c, rfl⟩ := hk.shape
  refine Spec.of (n := 12) (vs := [.pointer (some ⟨kb, 0, none⟩)]) Try.func53 rfl Try.ntmps53 rfl ?_
  refine Vc.seq ?_
  refine Vc.text (List.range 1) (sd [(0, .pure)]) rfl ?_
  refine Rg.pure rfl rfl rfl (Pv.assign rfl) ?_
  refine Rg.nil ?_
  refine Vc.seq ?_
  refine Vc.seq ?_
  refine Vc.text (List.range 3) (sd [(0, .read), (1, .pure), (2, .pure)]) rfl ?_
  refine Rg.read rfl rfl rfl (Ev.ld rfl rfl) ?_
  refine Rg.pure rfl rfl rfl (Pv.lenS rfl) ?_
  refine Rg.pure rfl rfl rfl (Pv.eql rfl rfl) ?_
  refine Rg.nil ?_
  refine Vc.cond rfl (fun h5 => ?_) (fun h5 => ?_)
  ·
    simp only [beq_iff_eq] at h5
    obtain rfl : ks = [] := List.length_eq_zero_iff.1 (by omega)
    refine Vc.seq ?_
    refine Vc.text (List.range 1) (sd [(0, .pure)]) rfl ?_
    refine Rg.pure rfl rfl rfl (Pv.assign rfl) ?_
    refine Rg.nil ?_
    exact Vc.ret (Vc.retsH rfl (.cons (.tmp rfl) (.nil)) (⟨rfl, .slice p 0 c, fun F' h => Arg.nil, rfl⟩) pulled)
  ·
    simp only [beq_eq_false_iff_ne, ne_eq] at h5
    obtain ⟨b, off, c', e, hcc⟩ := hk.block (by omega)
    cases e
    obtain ⟨x, l, rfl⟩ : ∃ x l, ks = x :: l := by cases ks with | nil => exact absurd rfl h5 | cons x l => exact ⟨x, l, rfl⟩
    refine Vc.skip ?_
    refine Vc.seq ?_
    refine Vc.text (List.range 4) (sd [(0, .read), (1, .pure), (2, .read), (3, .pure)]) rfl ?_
    refine Rg.read rfl rfl rfl (Ev.ld rfl rfl) ?_
    refine Rg.pure rfl rfl rfl (Pv.ixA 0 rfl rfl rfl (by simp)) ?_
    refine Rg.read rfl rfl rfl (Ev.as (.bool x) (Ev.ldS (E := boolE) 0 hk.src rfl rfl (by simp) (by simp)) rfl) ?_
    refine Rg.pure rfl rfl rfl (Pv.assign rfl) ?_
    refine Rg.nil ?_
    refine Vc.seq ?_
    refine Vc.text (List.range 3) (sd [(0, .read), (1, .pure), (2, .eff)]) rfl ?_
    refine Rg.read rfl rfl rfl (Ev.ld rfl rfl) ?_
    refine Rg.pure rfl rfl rfl (Pv.slFrom 1 rfl rfl (by simp) hcc) ?_
    refine Rg.store rfl rfl rfl rfl rfl rfl rfl rfl ?_
    refine Rg.nil ?_
    refine Vc.seq ?_
    refine Vc.text (List.range 2) (sd [(0, .pure), (1, .pure)]) rfl ?_
    refine Rg.pure rfl rfl rfl (Pv.move rfl) ?_
    refine Rg.pure rfl rfl rfl (Pv.assign rfl) ?_
    refine Rg.nil ?_
    exact Vc.ret (Vc.retsH rfl (.cons (.tmp rfl) (.nil)) (⟨rfl, .slice (some ⟨b, if c = 1 then off else off + 1 * 1, none⟩) ((x :: l).length - 1) (c - 1), fun F' h => by
      have := (hka F' h).sub 1 (x :: l).length (by simp) (Nat.le_refl _)
      rw [List.take_of_length_le (by simp)] at this
      exact this, rfl⟩) pulled)
end Go.Proofs.Ytmocncadncgaaaa

namespace Go.Proofs.Ytmocncadncgaaaa
set_option linter.unusedVariables false

/-- where a sector ends -/
def secTo (now : List UInt8) (i : Nat) : Nat := min (16 * i + 16) now.length
/-- a piece of bytes -/
def piece (l : List UInt8) (a b : Nat) : List UInt8 := (l.drop a).take (b - a)
/-- does a sector stay as it was synced? -/
def sameSec (now synced : List UInt8) (i : Nat) : Bool := decide (secTo now i ≤ synced.length) && decide (piece now (16 * i) (secTo now i) = piece synced (16 * i) (secTo now i))
/-- so many bytes at least -/
def padTo (l : List UInt8) (n : Nat) : List UInt8 := l ++ List.replicate (n - l.length) 0
def tornStep (now synced : List UInt8) (st : List UInt8 × List Bool) (i : Nat) : List UInt8 × List Bool :=
  if sameSec now synced i = true then st
  else if hdB st.2 = true then (putAt (padTo st.1 (secTo now i)) (16 * i) (piece now (16 * i) (secTo now i)), st.2.drop 1) else (st.1, st.2.drop 1)
def tornG (now synced : List UInt8) (ks : List Bool) (n : Nat) : List UInt8 × List Bool := (List.range n).foldl (tornStep now synced) (synced, ks)
theorem tornG_succ (now synced : List UInt8) (ks : List Bool) (n : Nat) : tornG now synced ks (n + 1) = tornStep now synced (tornG now synced ks n) n := by simp [tornG, List.range_succ]
theorem tornStep_len {now synced : List UInt8} {st : List UInt8 × List Bool} {i m : Nat} (h : st.1.length ≤ m) (hm : now.length ≤ m) (hi : 16 * i ≤ now.length) : (tornStep now synced st i).1.length ≤ m := by
  unfold tornStep
  split
  · exact h
  · split
    · have ht : secTo now i ≤ now.length := Nat.min_le_right _ _
      have hp : 16 * i ≤ (padTo st.1 (secTo now i)).length := by simp [padTo, secTo]; omega
      rw [putAt_length hp]
      simp [padTo, piece, secTo]
      omega
    · exact h
theorem tornG_len {now synced : List UInt8} {ks : List Bool} {m : Nat} (hs : synced.length ≤ m) (hm : now.length ≤ m) : ∀ n, (n = 0 ∨ 16 * (n - 1) ≤ now.length) → (tornG now synced ks n).1.length ≤ m
  | 0, _ => hs
  | n + 1, h => by
    have h' : 16 * n ≤ now.length := by simpa using h
    rw [tornG_succ]
    exact tornStep_len (tornG_len hs hm n (by omega)) hm h'

set_option maxHeartbeats 2000000 in
theorem torn_spec {F : Fm} {fb kb : Nat} {vn vs kv : Value} {now synced : List UInt8} {ks : List Bool} {s1 s2 : Hl} (own1 : Own byteE vn now s1) (own2 : Own byteE vs synced s2) (K : Fm → Prop) (hKF : ∀ F' : Fm, (∀ b o, F.at_ b o → F'.at_ b o) → K F') (hk : ∀ F', K F' → Arg boolE F' kv ks)
    (hn : now.length < 1073741824) (hs : synced.length < 1073741824) :
    Spec Try.prog 56 #[.pointer (some ⟨fb, 0, none⟩), .func (.func 53) #[] #[.pointer (some ⟨kb, 0, none⟩)]] F ((fb, cellsO [vn, vs] 81) :: (kb, cellsO [kv] 38) :: (s1 ++ s2))
      fun _ s => ∃ vn' vs' kv' s1' s2', Own byteE vn' (tornG now synced ks (secs now.length)).1 s1' ∧ Own byteE vs' (tornG now synced ks (secs now.length)).1 s2' ∧ (∀ F' : Fm, K F' → Arg boolE F' kv' (tornG now synced ks (secs now.length)).2) ∧
        s = (fb, cellsO [vn', vs'] 81) :: (kb, cellsO [kv'] 38) :: (s1' ++ s2') := by
  obtain ⟨pn, cn, rfl⟩ := own1.shape
  obtain ⟨ps, cs, rfl⟩ := own2.shape
  have hcn : now.length ≤ cn := (Arg.own (F := frz F s1) own1 fun b o hb => Or.inl hb).cap.2
  have hcs : synced.length ≤ cs := (Arg.own (F := frz F s2) own2 fun b o hb => Or.inl hb).cap.2
  refine Spec.of (n := 88) (vs := [.pointer (some ⟨fb, 0, none⟩), .func (.func 53) #[] #[.pointer (some ⟨kb, 0, none⟩)]]) Try.func56 rfl Try.ntmps56 rfl ?_
  refine Vc.seq ?_
  refine Vc.text (List.range 6) (sd [(0, .pure), (1, .pure), (2, .pure), (3, .read), (4, .eff), (5, .pure)]) rfl ?_
  refine Rg.pure rfl rfl rfl (Pv.move rfl) ?_
  refine Rg.pure rfl rfl rfl (Pv.nilp rfl) ?_
  refine Rg.pure rfl rfl rfl (Pv.fa rfl) ?_
  refine Rg.read rfl rfl rfl (Ev.ld rfl rfl) ?_
  refine Rg.callA rfl rfl rfl (run_callF rfl) (clone_spec (Arg.own own2 frz_sb) (by omega)) ?_
  rintro _ s11 own11
  refine Rg.pure rfl rfl rfl (Pv.assign rfl) ?_
  refine Rg.nil ?_
  refine Vc.seq ?_
  refine Vc.seq ?_
  refine Vc.text (List.range 1) (sd [(0, .pure)]) rfl ?_
  refine Rg.pure rfl rfl rfl (Pv.assign rfl) ?_
  refine Rg.nil ?_
  refine Vc.block ?_
  refine Vc.loop5 (fun (i : Nat) (kv v : Value) (sg : Hl) (st : List UInt8 × List Bool) => st = tornG now synced ks i ∧ (i = 0 ∨ 16 * (i - 1) < now.length) ∧ (∀ F' : Fm, K F' → Arg boolE F' kv st.2) ∧ Own byteE v st.1 sg ∧ st.1.length < 1073741824) (fun i kv v sg st => [(0, .pointer (some ⟨fb, 0, none⟩)), (1, .func (.func 53) #[] #[.pointer (some ⟨kb, 0, none⟩)]), (4, v), (5, .int .i64 ((16 * i : Nat) : Int))]) (fun i kv v sg st => (fb, cellsO [.slice pn now.length cn, .slice ps synced.length cs] 81) :: (kb, cellsO [kv] 38) :: (sg ++ (s1 ++ s2))) (fun i kv v sg st => now.length + 16 - 16 * i) 0 kv _ s11 (synced, ks) ⟨rfl, .inl rfl, hk, own11, hs⟩ (.cons rfl (.cons rfl (.cons rfl (.cons rfl .nil)))) pulled ?_
  rintro i kv v sg st ⟨hst, hi0, hkv, own, hsl⟩
  obtain ⟨pv, cv, rfl⟩ := own.shape
  refine Vc.seq ?_
  refine Vc.seq ?_
  refine Vc.text (List.range 7) (sd [(0, .pure), (1, .pure), (2, .pure), (3, .pure), (4, .read), (5, .pure), (6, .pure)]) rfl ?_
  refine Rg.pure rfl rfl rfl (Pv.move rfl) ?_
  refine Rg.pure rfl rfl rfl (Pv.move rfl) ?_
  refine Rg.pure rfl rfl rfl (Pv.nilp rfl) ?_
  refine Rg.pure rfl rfl rfl (Pv.fa rfl) ?_
  refine Rg.read rfl rfl rfl (Ev.ld rfl rfl) ?_
  refine Rg.pure rfl rfl rfl (Pv.lenS rfl) ?_
  refine Rg.pure rfl rfl rfl (Pv.lss rfl rfl) ?_
  refine Rg.nil ?_
  refine Vc.cond rfl (fun h18 => ?_) (fun h18 => ?_)
  ·
    simp only [decide_eq_true_eq] at h18
    have hi : 16 * i < now.length := by omega
    have hto : secTo now i ≤ now.length ∧ 16 * i ≤ secTo now i := by unfold secTo; omega
    have hsucc := tornG_succ now synced ks i
    have hlen := tornG_len (now := now) (synced := synced) (ks := ks) (m := 1073741823) (by omega) (by omega) (i + 1) (.inr (by simp; omega))
    rw [hsucc, ← hst] at hlen
    rw [← hst] at hsucc
    have hkb := hkv
    refine Vc.skip ?_
    refine Vc.seq ?_
    refine Vc.block ?_
    refine Vc.seq ?_
    refine Vc.text (List.range 9) (sd [(0, .pure), (1, .pure), (2, .pure), (3, .pure), (4, .pure), (5, .read), (6, .pure), (7, .pure), (8, .pure)]) rfl ?_
    refine Rg.pure rfl rfl rfl (Pv.move rfl) ?_
    refine Rg.pure rfl rfl rfl (Pv.asI (16 * i + 16) (Pv.add rfl rfl (by omega)) (by omega)) ?_
    refine Rg.pure rfl rfl rfl (Pv.move rfl) ?_
    refine Rg.pure rfl rfl rfl (Pv.nilp rfl) ?_
    refine Rg.pure rfl rfl rfl (Pv.fa rfl) ?_
    refine Rg.read rfl rfl rfl (Ev.ld rfl rfl) ?_
    refine Rg.pure rfl rfl rfl (Pv.lenS rfl) ?_
    refine Rg.pure rfl rfl rfl (Pv.asI (secTo now i) (Pv.min rfl rfl) (by unfold secTo; omega)) ?_
    refine Rg.pure rfl rfl rfl (Pv.assign rfl) ?_
    refine Rg.nil ?_
    refine Vc.seq ?_
    refine Vc.seq ?_
    refine Vc.cut3 (fun (bb : Bool) (kv' : Value) (ks' : List Bool) => (bb = true → tornStep now synced st i = (st.1, ks')) ∧ (bb = false → tornStep now synced st i = (putAt (padTo st.1 (secTo now i)) (16 * i) (piece now (16 * i) (secTo now i)), ks')) ∧ (∀ F' : Fm, K F' → Arg boolE F' kv' ks')) (fun bb kv' ks' => [(57, .bool bb), (0, .pointer (some ⟨fb, 0, none⟩)), (1, .func (.func 53) #[] #[.pointer (some ⟨kb, 0, none⟩)]), (4, .slice pv st.1.length cv), (5, .int .i64 ((16 * i : Nat) : Int)), (6, .int .i64 ((secTo now i : Nat) : Int))]) (fun bb kv' ks' => (fb, cellsO [.slice pn now.length cn, .slice ps synced.length cs] 81) :: (kb, cellsO [kv'] 38) :: (sg ++ (s1 ++ s2))) ?_ ?_
    ·
      refine Vc.draw [26] (sd [(0, .pure), (1, .pure), (2, .pure), (3, .pure), (4, .read), (5, .pure), (6, .pure), (7, .pure), (8, .pure), (9, .pure), (10, .pure), (11, .read), (12, .pure), (13, .pure), (14, .pure), (15, .pure), (16, .pure), (17, .pure), (18, .read), (19, .pure), (20, .pure), (21, .pure), (22, .eff), (23, .pure), (24, .pure), (25, .pure), (26, .eff), (27, .pure), (28, .pure)]) mixed (by kernel_rfl) ?_
      refine Rg.pure rfl rfl rfl (Pv.move rfl) ?_
      refine Rg.pure rfl rfl rfl (Pv.move rfl) ?_
      refine Rg.pure rfl rfl rfl (Pv.nilp rfl) ?_
      refine Rg.pure rfl rfl rfl (Pv.fa rfl) ?_
      refine Rg.read rfl rfl rfl (Ev.ld rfl rfl) ?_
      refine Rg.pure rfl rfl rfl (Pv.lenS rfl) ?_
      refine Rg.pure rfl rfl rfl (Pv.leq rfl rfl) ?_
      refine Rg.pure rfl rfl rfl (Pv.move rfl) ?_
      refine Rg.split (t := 36) rfl (fun h36 => ?_) (fun h36 => ?_)
      ·
        simp only [decide_eq_true_eq] at h36
        have hle : secTo now i ≤ synced.length := by omega
        refine Rg.pure rfl rfl rfl (Pv.move rfl) ?_
        refine Rg.pure rfl rfl rfl (Pv.nilp rfl) ?_
        refine Rg.pure rfl rfl rfl (Pv.fa rfl) ?_
        refine Rg.read rfl rfl rfl (Ev.ld rfl rfl) ?_
        refine Rg.pure rfl rfl rfl (Pv.move rfl) ?_
        refine Rg.pure rfl rfl rfl (Pv.move rfl) ?_
        refine Rg.pure rfl rfl rfl (Pv.sl (lv := some (.int .i64 ((16 * i : Nat) : Int))) (hv := some (.int .i64 ((secTo now i : Nat) : Int))) (16 * i) (secTo now i) rfl rfl rfl (by omega) (by omega) (by simp)) ?_
        refine Rg.pure rfl rfl rfl (Pv.move rfl) ?_
        refine Rg.pure rfl rfl rfl (Pv.nilp rfl) ?_
        refine Rg.pure rfl rfl rfl (Pv.fa rfl) ?_
        refine Rg.read rfl rfl rfl (Ev.ld rfl rfl) ?_
        refine Rg.pure rfl rfl rfl (Pv.move rfl) ?_
        refine Rg.pure rfl rfl rfl (Pv.move rfl) ?_
        refine Rg.pure rfl rfl rfl (Pv.sl (lv := some (.int .i64 ((16 * i : Nat) : Int))) (hv := some (.int .i64 ((secTo now i : Nat) : Int))) (16 * i) (secTo now i) rfl rfl rfl (by omega) (by omega) (by simp)) ?_
        refine Rg.callP rfl rfl rfl (run_callF rfl) (equal_spec (((Arg.own own1 frz_sb).from (i := 16 * i) (by omega)).take (k := secTo now i - 16 * i) (by simp; omega)) (((Arg.own own2 frz_sb).from (i := 16 * i) (by omega)).take (k := secTo now i - 16 * i) (by simp; omega))) ?_
        rintro _ rfl
        refine Rg.pure rfl rfl rfl (Pv.pickT rfl rfl) ?_
        refine Rg.pure rfl rfl rfl (Pv.move rfl) ?_
        refine Rg.split (t := 53) rfl (fun h53 => ?_) (fun h53 => ?_)
        ·
          iterate 3 (first | refine Rg.skipP rfl rfl rfl ?_ | refine Rg.skipR rfl rfl rfl ?_ | refine Rg.skipE rfl rfl rfl ?_)
          refine Rg.pure rfl rfl rfl (Pv.pickT rfl rfl) ?_
          refine Rg.nil ?_
          exact Vc.inv3 true kv st.2 ⟨fun _ => by rw [tornStep, if_pos (by rw [sameSec, decide_eq_true hle, Bool.true_and]; exact h53)], fun h => (by cases h), hkv⟩ (.cons rfl (.cons rfl (.cons rfl (.cons rfl (.cons rfl (.cons rfl .nil)))))) pulled
        ·
          refine Rg.pure rfl rfl rfl (Pv.move rfl) ?_
          refine Rg.callH rfl rfl rfl (run_callV rfl rfl) (fun F' hF' => next_spec (F := F') K (hKF F' fun b o h => hF' b o (.inr h)) hkv) rfl ?_
          rintro _ _ ⟨rfl, kv2, hkv2, rfl⟩
          refine Rg.pure rfl rfl rfl (Pv.not rfl) ?_
          refine Rg.pure rfl rfl rfl (Pv.pickF rfl rfl) ?_
          refine Rg.nil ?_
          exact Vc.inv3 (!hdB st.2) kv2 (st.2.drop 1) ⟨fun h => by rw [tornStep, if_neg (by rw [sameSec, decide_eq_true hle, Bool.true_and]; intro hh; rw [show decide (piece now (16 * i) (secTo now i) = piece synced (16 * i) (secTo now i)) = false from h53] at hh; cases hh), if_neg (by simpa using h)], fun h => by rw [tornStep, if_neg (by rw [sameSec, decide_eq_true hle, Bool.true_and]; intro hh; rw [show decide (piece now (16 * i) (secTo now i) = piece synced (16 * i) (secTo now i)) = false from h53] at hh; cases hh), if_pos (by simpa using h)], hkv2⟩ (.cons rfl (.cons rfl (.cons rfl (.cons rfl (.cons rfl (.cons rfl .nil)))))) pulled
      ·
        simp only [decide_eq_false_iff_not] at h36
        iterate 15 (first | refine Rg.skipP rfl rfl rfl ?_ | refine Rg.skipR rfl rfl rfl ?_ | refine Rg.skipE rfl rfl rfl ?_)
        refine Rg.pure rfl rfl rfl (Pv.pickF rfl rfl) ?_
        refine Rg.pure rfl rfl rfl (Pv.move rfl) ?_
        refine Rg.pure rfl rfl rfl (Pv.move rfl) ?_
        refine Rg.callH rfl rfl rfl (run_callV rfl rfl) (fun F' hF' => next_spec (F := F') K (hKF F' fun b o h => hF' b o (.inr h)) hkv) rfl ?_
        rintro _ _ ⟨rfl, kv2, hkv2, rfl⟩
        refine Rg.pure rfl rfl rfl (Pv.not rfl) ?_
        refine Rg.pure rfl rfl rfl (Pv.pickF rfl rfl) ?_
        refine Rg.nil ?_
        exact Vc.inv3 (!hdB st.2) kv2 (st.2.drop 1) ⟨fun h => by rw [tornStep, if_neg (by rw [sameSec, decide_eq_false (by omega)]; simp), if_neg (by simpa using h)], fun h => by rw [tornStep, if_neg (by rw [sameSec, decide_eq_false (by omega)]; simp), if_pos (by simpa using h)], hkv2⟩ (.cons rfl (.cons rfl (.cons rfl (.cons rfl (.cons rfl (.cons rfl .nil)))))) pulled
    ·
      rintro bb kv2 ks2 ⟨hb1, hb2, hkv2⟩
      refine Vc.cond rfl (fun h57 => ?_) (fun h57 => ?_)
      ·
        rw [hb1 h57] at hsucc
        refine Vc.exit rfl ?_
        refine Vc.text (List.range 3) (sd [(0, .pure), (1, .pure), (2, .pure)]) rfl ?_
        refine Rg.pure rfl rfl rfl (Pv.move rfl) ?_
        refine Rg.pure rfl rfl rfl (Pv.asI (16 * (i + 1)) (Pv.add rfl rfl (by omega)) (by omega)) ?_
        refine Rg.pure rfl rfl rfl (Pv.assign rfl) ?_
        refine Rg.nil ?_
        exact Vc.inv5 (i + 1) kv2 _ sg (st.1, ks2) ⟨⟨hsucc.symm, .inr (by simpa using hi), hkv2, own, hsl⟩, by omega⟩ (.cons rfl (.cons rfl (.cons rfl (.cons rfl .nil)))) pulled
      ·
        have hst2 := hb2 h57
        rw [hst2] at hsucc hlen
        have hzl : (piece now (16 * i) (secTo now i)).length = secTo now i - 16 * i := by simp [piece]; omega
        refine Vc.skip ?_
        refine Vc.seq ?_
        refine Vc.seq ?_
        refine Vc.text (List.range 4) (sd [(0, .pure), (1, .pure), (2, .pure), (3, .pure)]) rfl ?_
        refine Rg.pure rfl rfl rfl (Pv.move rfl) ?_
        refine Rg.pure rfl rfl rfl (Pv.move rfl) ?_
        refine Rg.pure rfl rfl rfl (Pv.lenS rfl) ?_
        refine Rg.pure rfl rfl rfl (Pv.gtr rfl rfl) ?_
        refine Rg.nil ?_
        refine Vc.cut2 (fun (v : Value) (sg : Hl) => Own byteE v (padTo st.1 (secTo now i)) sg) (fun v sg => [(0, .pointer (some ⟨fb, 0, none⟩)), (1, .func (.func 53) #[] #[.pointer (some ⟨kb, 0, none⟩)]), (4, v), (5, .int .i64 ((16 * i : Nat) : Int)), (6, .int .i64 ((secTo now i : Nat) : Int))]) (fun v sg => (fb, cellsO [.slice pn now.length cn, .slice ps synced.length cs] 81) :: (kb, cellsO [kv2] 38) :: (sg ++ (s1 ++ s2))) ?_ ?_
        ·
          refine Vc.cond rfl (fun h61 => ?_) (fun h61 => ?_)
          ·
            simp only [decide_eq_true_eq] at h61
            refine Vc.text (List.range 7) (sd [(0, .pure), (1, .pure), (2, .pure), (3, .pure), (4, .pure), (5, .eff), (6, .pure)]) rfl ?_
            refine Rg.pure rfl rfl rfl (Pv.move rfl) ?_
            refine Rg.pure rfl rfl rfl (Pv.move rfl) ?_
            refine Rg.pure rfl rfl rfl (Pv.move rfl) ?_
            refine Rg.pure rfl rfl rfl (Pv.lenS rfl) ?_
            refine Rg.pure rfl rfl rfl (Pv.asI (secTo now i - st.1.length) (Pv.sub rfl rfl (by omega)) (by omega)) ?_
            refine Rg.appendZ (E := byteE) 0 (secTo now i - st.1.length) rfl rfl rfl rfl rfl own (by omega) (by rw [show maxLen = 9223372036854775807 from rfl]; omega) rfl (fun v67 s67 own67 => ?_)
            refine Rg.pure rfl rfl rfl (Pv.assign rfl) ?_
            refine Rg.nil ?_
            exact Vc.inv2 v67 s67 own67 (.cons rfl (.cons rfl (.cons rfl (.cons rfl (.cons rfl .nil))))) pulled
          ·
            simp only [decide_eq_false_iff_not] at h61
            refine Vc.skip ?_
            exact Vc.inv2 _ sg (by rw [padTo, show secTo now i - st.1.length = 0 by omega, List.replicate_zero, List.append_nil]; exact own) (.cons rfl (.cons rfl (.cons rfl (.cons rfl (.cons rfl .nil))))) pulled
        ·
          rintro v sg ownp
          obtain ⟨pp, cp, rfl⟩ := ownp.shape
          have hpl : secTo now i ≤ (padTo st.1 (secTo now i)).length := by simp [padTo]; omega
          have hcp : (padTo st.1 (secTo now i)).length ≤ cp := (Arg.own (F := frz F sg) ownp fun b o hb => Or.inl hb).cap.2
          have hput : (padTo st.1 (secTo now i)).take (16 * i) ++ (piece now (16 * i) (secTo now i)).take (min (piece now (16 * i) (secTo now i)).length ((padTo st.1 (secTo now i)).length - 16 * i)) ++ (padTo st.1 (secTo now i)).drop (16 * i + min (piece now (16 * i) (secTo now i)).length ((padTo st.1 (secTo now i)).length - 16 * i)) = putAt (padTo st.1 (secTo now i)) (16 * i) (piece now (16 * i) (secTo now i)) := by
            rw [Nat.min_eq_left (by omega), List.take_length, putAt]
          refine Vc.draw [10] (sd [(0, .pure), (1, .pure), (2, .pure), (3, .pure), (4, .pure), (5, .pure), (6, .read), (7, .pure), (8, .pure), (9, .pure), (10, .eff)]) mixed (by kernel_rfl) ?_
          refine Rg.pure rfl rfl rfl (Pv.move rfl) ?_
          refine Rg.pure rfl rfl rfl (Pv.move rfl) ?_
          refine Rg.pure rfl rfl rfl (Pv.sl (lv := none) (hv := none) (16 * i) (padTo st.1 (secTo now i)).length rfl rfl rfl (by omega) hcp (fun _ => hcp)) ?_
          refine Rg.pure rfl rfl rfl (Pv.move rfl) ?_
          refine Rg.pure rfl rfl rfl (Pv.nilp rfl) ?_
          refine Rg.pure rfl rfl rfl (Pv.fa rfl) ?_
          refine Rg.read rfl rfl rfl (Ev.ld rfl rfl) ?_
          refine Rg.pure rfl rfl rfl (Pv.move rfl) ?_
          refine Rg.pure rfl rfl rfl (Pv.move rfl) ?_
          refine Rg.pure rfl rfl rfl (Pv.sl (lv := some (.int .i64 ((16 * i : Nat) : Int))) (hv := some (.int .i64 ((secTo now i : Nat) : Int))) (16 * i) (secTo now i) rfl rfl rfl (by omega) (by omega) (by simp)) ?_
          refine Rg.copyTo (E := byteE) (zs := piece now (16 * i) (secTo now i)) (16 * i) rfl rfl rfl rfl rfl ownp (((Arg.own (F := frz F s1) own1 fun b o hb => Or.inl hb).from (i := 16 * i) (by omega)).take (k := secTo now i - 16 * i) (by simp; omega)).srcF (by omega) rfl (fun s78 own78 => ?_)
          rw [hput] at own78
          have hplen : (padTo st.1 (secTo now i)).length = (putAt (padTo st.1 (secTo now i)) (16 * i) (piece now (16 * i) (secTo now i))).length := by rw [putAt_length (by omega)]; omega
          refine Rg.nil ?_
          refine Vc.blk ?_
          refine Vc.text (List.range 3) (sd [(0, .pure), (1, .pure), (2, .pure)]) rfl ?_
          refine Rg.pure rfl rfl rfl (Pv.move rfl) ?_
          refine Rg.pure rfl rfl rfl (Pv.asI (16 * (i + 1)) (Pv.add rfl rfl (by omega)) (by omega)) ?_
          refine Rg.pure rfl rfl rfl (Pv.assign rfl) ?_
          refine Rg.nil ?_
          exact Vc.inv5 (i + 1) kv2 _ s78 (putAt (padTo st.1 (secTo now i)) (16 * i) (piece now (16 * i) (secTo now i)), ks2) ⟨⟨hsucc.symm, .inr (by simpa using hi), hkv2, own78, by omega⟩, by omega⟩ (.cons rfl (.cons rfl (.cons rfl (.cons rfl .nil)))) pulled
  ·
    simp only [decide_eq_false_iff_not] at h18
    have hsec : i = secs now.length := by unfold secs; omega
    rw [hsec] at hst
    refine Vc.exit rfl ?_
    refine Vc.text (List.range 11) (sd [(0, .pure), (1, .pure), (2, .pure), (3, .pure), (4, .eff), (5, .pure), (6, .pure), (7, .eff), (8, .pure), (9, .pure), (10, .eff)]) rfl ?_
    refine Rg.pure rfl rfl rfl (Pv.move rfl) ?_
    refine Rg.pure rfl rfl rfl (Pv.move rfl) ?_
    refine Rg.pure rfl rfl rfl (Pv.move rfl) ?_
    refine Rg.pure rfl rfl rfl (Pv.move rfl) ?_
    refine Rg.callA rfl rfl rfl (run_callF rfl) (clone_spec (Arg.own own frz_sb) (by omega)) ?_
    rintro v83 s83 own83
    refine Rg.pure rfl rfl rfl (Pv.nilp rfl) ?_
    refine Rg.pure rfl rfl rfl (Pv.fa rfl) ?_
    refine Rg.store rfl rfl rfl rfl rfl rfl rfl rfl ?_
    refine Rg.pure rfl rfl rfl (Pv.nilp rfl) ?_
    refine Rg.pure rfl rfl rfl (Pv.fa rfl) ?_
    refine Rg.store rfl rfl rfl rfl rfl own83.one rfl rfl ?_
    refine Rg.nil ?_
    exact Vc.fin (Vc.retsH rfl .nil (⟨_, v83, kv, sg, s83, by rw [← hst]; exact own, by rw [← hst]; exact own83, by rw [← hst]; exact hkv, rfl⟩) pulled)
end Go.Proofs.Ytmocncadncgaaaa

namespace Go.Proofs.Ytmocncadncgaaaa
set_option linter.unusedVariables false

abbrev kS : List UInt8 → Value := encStr
instance : KeyTy Try.prog 9 kS := KeyTy.of ⟨.string, Try.underlying9, fun _ => trivial⟩ (fun a b h => by simpa [kS, encStr] using h)
def strE : Enc (List UInt8) where
  k := 1
  tid := 9
  cells := fun s => [kS s]
  val := kS
  pos := by decide
  len := fun _ => rfl
  one := fun x v hv => by simp at hv; subst hv; rfl
  vc := fun _ => rfl
instance : RowTy Try.prog strE 9 := ⟨Try.sizeOf9, .inr ⟨Try.isAgg9, rfl, fun _ => rfl⟩⟩
instance : TySl Try.prog 30 strE 16 := ⟨Try.underlying30, Try.t9, .string ⟨#[]⟩, by kernel_rfl, by kernel_rfl, rfl, rfl, rfl⟩

theorem keysF_spec {F : Fm} {mb : Nat} : Spec Try.prog 55 #[.map (some mb)] F [] fun v s => ∃ bx, v = .func (.func 75) #[] #[.pointer (some ⟨bx, 0, none⟩)] ∧ s = [(bx, cellsO [.map (some mb)] 65)] := by
  refine Spec.of (n := 4) (vs := [.map (some mb)]) Try.func55 rfl Try.ntmps55 rfl ?_
  refine Vc.seq ?_
  refine Vc.text (List.range 2) (sd [(0, .eff), (1, .pure)]) rfl ?_
  refine Rg.box rfl rfl rfl rfl rfl (fun b1 => ?_)
  refine Rg.pure rfl rfl rfl (Pv.assign rfl) ?_
  refine Rg.nil ?_
  refine Vc.seq ?_
  refine Vc.text (List.range 2) (sd [(0, .pure), (1, .pure)]) rfl ?_
  refine Rg.pure rfl rfl rfl (Pv.mkF rfl rfl) ?_
  refine Rg.pure rfl rfl rfl (Pv.assign rfl) ?_
  refine Rg.nil ?_
  exact Vc.ret (Vc.retsH rfl (.cons (.tmp rfl) (.nil)) (⟨b1, rfl, rfl⟩) pulled)

section
variable {κ : Type}
theorem me_inj {ms : List (Me κ)} (hb : (ms.map (·.born)).Nodup) {x y : Me κ} (hx : x ∈ ms) (hy : y ∈ ms) (h : x.born = y.born) : x = y := by
  induction ms with
  | nil => cases hx
  | cons a ms ih =>
    rw [List.map_cons, List.nodup_cons] at hb
    rcases List.mem_cons.1 hx with rfl | hx'
    · rcases List.mem_cons.1 hy with rfl | hy'
      · rfl
      · exact absurd (List.mem_map.2 ⟨y, hy', h.symm⟩) hb.1
    · rcases List.mem_cons.1 hy with rfl | hy'
      · exact absurd (List.mem_map.2 ⟨x, hx', h⟩) hb.1
      · exact ih hb.2 hx' hy'
theorem me_seen {ms dn : List (Me κ)} {seen : Array Nat} {e : Me κ} (hb : (ms.map (·.born)).Nodup) (he : e ∈ ms) (h : ∀ x ∈ ms, seen.contains x.born = true ↔ x ∈ dn) :
    ∀ x ∈ ms, (seen.push e.born).contains x.born = true ↔ x ∈ dn ++ [e] := fun x hx => by
  rw [Array.contains_push, Bool.or_eq_true, h x hx, List.mem_append, List.mem_singleton]
  constructor
  · rintro (h | h)
    · exact .inl h
    · exact .inr (me_inj hb hx he (by simpa using h))
  · rintro (h | h)
    · exact .inl h
    · exact .inr (by rw [h]; simp)
theorem me_nodup {ms : List (Me κ)} (hb : (ms.map (·.born)).Nodup) : ms.Nodup := by
  induction ms with
  | nil => exact .nil
  | cons a ms ih =>
    rw [List.map_cons, List.nodup_cons] at hb
    exact List.nodup_cons.2 ⟨fun h => hb.1 (List.mem_map.2 ⟨a, h, rfl⟩), ih hb.2⟩
end
theorem keys_iter {F : Fm} {mb mc bx : Nat} {ms : List (Me (List UInt8))} (hmap : F.at_ mb (mapO kS ms mc)) (hold : ∀ m ∈ ms, m.born < mc) (hbn : (ms.map (·.born)).Nodup) :
    Iter Try.prog 75 [.pointer (some ⟨bx, 0, none⟩)] F (fun k => [kS k]) (fun pre => pre.length ≤ ms.length) (fun ys => ys.Perm (ms.map (·.k))) [(bx, cellsO [.map (some mb)] 65)] := by
  intro lr J F1 hF1 hY hc0 hJ0
  have f3 : Fat F1 mb (mapO kS ms mc) := ⟨hF1 _ _ hmap⟩
  have hnd := me_nodup hbn
  refine Spec.of (n := 14) (vs := [.func (.yield lr) #[] #[], .pointer (some ⟨bx, 0, none⟩)]) Try.func75 rfl Try.ntmps75 rfl ?_
  refine Vc.seq ?_
  refine Vc.text (List.range 2) (sd [(0, .read), (1, .eff)]) rfl ?_
  refine Rg.read rfl rfl rfl (Ev.ld rfl rfl) ?_
  refine Rg.range rfl rfl rfl rfl (fun b5 => ?_)
  refine Rg.nil ?_
  refine Vc.block ?_
  refine Vc.loop4 (fun (dn rs : List (Me (List UInt8))) (seen : Array Nat) (hc : Hl) => ms.Perm (dn ++ rs) ∧ (∀ e ∈ ms, seen.contains e.born = true ↔ e ∈ dn) ∧ J (dn.map (·.k)) hc) (fun dn rs seen hc => [(0, .func (.yield lr) #[] #[]), (5, .pointer (some ⟨b5, 0, none⟩))]) (fun dn rs seen hc => (b5, .mapIter (some mb) mc seen mc) :: hc) (fun dn rs seen hc => rs.length) [] ms #[] hc0 ⟨.refl _, fun e he => by simp, hJ0⟩ (.cons rfl (.cons rfl .nil)) pulled ?_
  rintro dn rs seen hc ⟨hp, hseen, hJ⟩
  refine Vc.seq ?_
  refine Vc.text (List.range 2) (sd [(0, .eff), (1, .pure)]) rfl ?_
  refine Rg.next rfl rfl rfl rfl (hold) (Nat.le_refl _) rfl (fun all6 => ?_) (fun m6 mem6 new6 => ?_)
  ·
    have hrs : rs = [] := List.eq_nil_iff_forall_not_mem.2 fun e he => by
      have hees : e ∈ ms := hp.mem_iff.2 (List.mem_append_right _ he)
      have hd := (hseen e hees).1 (all6 e hees)
      exact (List.nodup_append.1 (hp.nodup_iff.1 hnd)).2.2 e hd e he rfl
    subst hrs
    rw [List.append_nil] at hp
    refine Rg.pure rfl rfl rfl (Pv.extract rfl rfl) ?_
    refine Rg.nil ?_
    refine Vc.seq ?_
    refine Vc.condF rfl ?_
    refine Vc.exit rfl ?_
    exact Vc.fin (Vc.retsH rfl .nil (⟨dn.map (·.k), (hp.map _).symm, hJ⟩) pulled)
  ·
    have hers : m6 ∈ rs := by
      rcases List.mem_append.1 (hp.mem_iff.1 mem6) with h | h
      · rw [(hseen m6 mem6).2 h] at new6; cases new6
      · exact h
    obtain ⟨A, B, rfl⟩ := List.append_of_mem hers
    have hpl := hp.length_eq
    simp only [List.length_append, List.length_cons] at hpl
    refine Rg.pure rfl rfl rfl (Pv.extract rfl rfl) ?_
    refine Rg.nil ?_
    refine Vc.seq ?_
    refine Vc.condT rfl ?_
    refine Vc.skip ?_
    refine Vc.block ?_
    refine Vc.seq ?_
    refine Vc.text (List.range 3) (sd [(0, .read), (1, .pure), (2, .pure)]) rfl ?_
    refine Rg.read rfl rfl rfl (Ev.entry (m6) rfl (mem6) (hbn)) ?_
    refine Rg.pure rfl rfl rfl (Pv.extract rfl rfl) ?_
    refine Rg.pure rfl rfl rfl (Pv.assign rfl) ?_
    refine Rg.nil ?_
    refine Vc.seq ?_
    refine Vc.text (List.range 4) (sd [(0, .pure), (1, .pure), (2, .eff), (3, .pure)]) rfl ?_
    refine Rg.pure rfl rfl rfl (Pv.move rfl) ?_
    refine Rg.pure rfl rfl rfl (Pv.move rfl) ?_
    refine Rg.yieldH rfl rfl rfl rfl rfl (fun F' hF' => hY (dn.map (·.k)) m6.k (by simp; omega) hc hJ F' (fun b o h => hF' b o (.inr h))) rfl ?_
    rintro _ hc' ⟨rfl, hJ'⟩
    refine Rg.pure rfl rfl rfl (Pv.not rfl) ?_
    refine Rg.nil ?_
    refine Vc.cond rfl (fun h13 => absurd h13 (by simp)) (fun h13 => ?_)
    refine Vc.skip ?_
    refine Vc.blk ?_
    exact Vc.inv4 (dn ++ [m6]) (A ++ B) (seen.push m6.born) hc' ⟨⟨hp.trans (by rw [List.append_assoc]; exact (List.perm_middle (l₁ := A) (l₂ := B)).append_left dn), me_seen hbn mem6 hseen, by rw [List.map_append]; exact hJ'⟩, by simp⟩ (.cons rfl (.cons rfl .nil)) pulled
end Go.Proofs.Ytmocncadncgaaaa

namespace Go.Proofs.Ytmocncadncgaaaa
set_option linter.unusedVariables false

theorem appendSeqS_spec {F : Fm} {gf : Nat} [TyCall Try.prog gf] {lb : List Value} {Sp S : List (List UInt8) → Prop} {hi : Hl} (hit : ∀ F', (∀ b o, F.at_ b o → F'.at_ b o) → Iter Try.prog gf lb F' (fun x => [strE.val x]) Sp S hi) (hS : ∀ pre x, Sp (pre ++ [x]) → pre.length < 1073741824) :
    Spec Try.prog 78 #[.slice none 0 0, .func (.func gf) #[] lb.toArray] F hi fun v s => ∃ ys, S ys ∧ Own strE v ys s := by
  refine Spec.of (n := 13) (vs := [.slice none 0 0, .func (.func gf) #[] lb.toArray]) Try.func78 rfl Try.ntmps78 rfl ?_
  refine Vc.seq ?_
  refine Vc.text (List.range 2) (sd [(0, .eff), (1, .pure)]) rfl ?_
  refine Rg.box rfl rfl rfl rfl rfl (fun b2 => ?_)
  refine Rg.pure rfl rfl rfl (Pv.assign rfl) ?_
  refine Rg.nil ?_
  refine Vc.seq ?_
  refine Vc.seq ?_
  refine Vc.text (List.range 1) (sd [(0, .pure)]) rfl ?_
  refine Rg.pure rfl rfl rfl (Pv.move rfl) ?_
  refine Rg.nil ?_
  refine Vc.block ?_
  refine Vc.rangeFunc (enc := fun x => [strE.val x]) (Sp := Sp) (S := S) (hi := hi) (rest := []) (fun pre hc => ∃ v sg, Own strE v pre sg ∧ hc = (b2, cellsO [v] 30) :: sg) [(b2, cellsO [.slice none 0 0] 30)] rfl rfl (fun _ => rfl) rfl pulled (fun F1 hF1 => hit F1 fun b o h => hF1 b o (.inr h)) ⟨_, [], Own.nil, rfl⟩ ?_ ?_
  ·
    rintro lr rc pre x hc F1 hF1 hpre ⟨v, sg, own, rfl⟩
    have hpl := hS pre x hpre
    refine Vc.text (List.range 1) (sd [(0, .pure)]) rfl ?_
    refine Rg.pure rfl rfl rfl (Pv.assign rfl) ?_
    refine Rg.nil ?_
    refine Vc.begin ?_
    refine Vc.block ?_
    refine Vc.text (List.range 5) (sd [(0, .read), (1, .pure), (2, .eff), (3, .eff), (4, .eff)]) rfl ?_
    refine Rg.read rfl rfl rfl (Ev.ld rfl rfl) ?_
    refine Rg.pure rfl rfl rfl (Pv.move rfl) ?_
    refine Rg.bslice1 rfl rfl rfl rfl rfl rfl rfl (fun b10 => ?_)
    refine Rg.append rfl rfl rfl rfl rfl own (Src.one (y := x) rfl) (by simp <;> omega) (by simp [maxLen] <;> omega) rfl (fun v11 s11 own11 => ?_)
    refine Rg.store rfl rfl rfl rfl rfl own11.one rfl rfl ?_
    refine Rg.nil ?_
    refine Vc.blk ?_
    exact Vc.finR ((b2, cellsO [v11] 30) :: s11) ⟨v11, s11, own11, rfl⟩ pulled
  ·
    rintro D ys hc hD hSy ⟨v, sg, own, rfl⟩
    refine Vc.blk ?_
    refine Vc.seq ?_
    refine Vc.text (List.range 2) (sd [(0, .read), (1, .pure)]) rfl ?_
    refine Rg.read rfl rfl rfl (Ev.ld rfl rfl) ?_
    refine Rg.pure rfl rfl rfl (Pv.assign rfl) ?_
    refine Rg.nil ?_
    exact Vc.ret (Vc.retsM (hl' := sg) (Mk.one hD) rfl (.cons (.tmp rfl) .nil) ⟨ys, hSy, own⟩ pulled)
theorem collectS_spec {F : Fm} {gf : Nat} [TyCall Try.prog gf] {lb : List Value} {Sp S : List (List UInt8) → Prop} {hi : Hl} (hit : ∀ F', (∀ b o, F.at_ b o → F'.at_ b o) → Iter Try.prog gf lb F' (fun x => [strE.val x]) Sp S hi) (hS : ∀ pre x, Sp (pre ++ [x]) → pre.length < 1073741824) :
    Spec Try.prog 73 #[.func (.func gf) #[] lb.toArray] F hi fun v s => ∃ ys, S ys ∧ Own strE v ys s := by
  refine Spec.of (n := 5) (vs := [.func (.func gf) #[] lb.toArray]) Try.func73 rfl Try.ntmps73 rfl ?_
  refine Vc.seq ?_
  refine Vc.text (List.range 1) (sd [(0, .pure)]) rfl ?_
  refine Rg.pure rfl rfl rfl (Pv.assign rfl) ?_
  refine Rg.nil ?_
  refine Vc.seq ?_
  refine Vc.text (List.range 3) (sd [(0, .pure), (1, .eff), (2, .pure)]) rfl ?_
  refine Rg.pure rfl rfl rfl (Pv.move rfl) ?_
  refine Rg.callH rfl rfl rfl (run_callF rfl) (fun F' hF' => appendSeqS_spec (F := F') (Sp := Sp) (S := S) (fun F'' h => hit F'' fun b o hb => h b o (hF' b o (.inr hb))) hS) rfl ?_
  rintro v4 s4 ⟨ys, hSy, own⟩
  refine Rg.pure rfl rfl rfl (Pv.assign rfl) ?_
  refine Rg.nil ?_
  exact Vc.ret (Vc.retsH rfl (.cons (.tmp rfl) (.nil)) (⟨ys, hSy, own⟩) pulled)
end Go.Proofs.Ytmocncadncgaaaa

namespace Go.Proofs.Ytmocncadncgaaaa
set_option linter.unusedVariables false

structure Fl where
  now : List UInt8
  synced : List UInt8
  deriving Inhabited
/-- The blocks of a map's files. -/
inductive FilesAt : List (Me (List UInt8)) → List (List UInt8 × Fl) → Hl → Prop
  | nil : FilesAt [] [] []
  | cons {ms : List (Me (List UInt8))} {fs : List (List UInt8 × Fl)} {hl s1 s2 : Hl} {k : List UInt8} {f : Fl} {b born : Nat} {vn vs : Value} (h : FilesAt ms fs hl) (own1 : Own byteE vn f.now s1) (own2 : Own byteE vs f.synced s2) :
      FilesAt (⟨k, .pointer (some ⟨b, 0, none⟩), born⟩ :: ms) ((k, f) :: fs) ((b, cellsO [vn, vs] 81) :: (s1 ++ (s2 ++ hl)))
theorem FilesAt.keys {ms : List (Me (List UInt8))} {fs : List (List UInt8 × Fl)} {hl : Hl} (h : FilesAt ms fs hl) : ms.map (·.k) = fs.map (·.1) := by
  induction h with
  | nil => rfl
  | cons h own1 own2 ih => simp [ih]
/-- a file has other bytes -/
def setF (fs : List (List UInt8 × Fl)) (k : List UInt8) (f : Fl) : List (List UInt8 × Fl) := fs.map fun p => if p.1 = k then (k, f) else p
def findF (fs : List (List UInt8 × Fl)) (k : List UInt8) : Option Fl := (fs.find? fun p => decide (p.1 = k)).map (·.2)
theorem setF_none {fs : List (List UInt8 × Fl)} {k : List UInt8} {f : Fl} (h : ∀ p ∈ fs, p.1 ≠ k) : setF fs k f = fs := by
  unfold setF
  conv => rhs; rw [← List.map_id fs]
  exact List.map_congr_left fun p hp => by rw [if_neg (h p hp)]; rfl
theorem perm_move {α : Type} (x y : α) (s1 s2 t1 t2 rest : List α) : (x :: (s1 ++ (s2 ++ (y :: (t1 ++ (t2 ++ rest)))))).Perm (y :: (t1 ++ (t2 ++ (x :: (s1 ++ (s2 ++ rest)))))) := by
  have e1 : (x :: (s1 ++ (s2 ++ (y :: (t1 ++ (t2 ++ rest)))))) = (x :: (s1 ++ s2)) ++ ((y :: (t1 ++ t2)) ++ rest) := by simp
  have e2 : (y :: (t1 ++ (t2 ++ (x :: (s1 ++ (s2 ++ rest)))))) = (y :: (t1 ++ t2)) ++ ((x :: (s1 ++ s2)) ++ rest) := by simp
  rw [e1, e2, ← List.append_assoc, ← List.append_assoc]
  exact List.perm_append_comm.append_right rest
theorem FilesAt.get {ms : List (Me (List UInt8))} {fs : List (List UInt8 × Fl)} {hl : Hl} (h : FilesAt ms fs hl) (hn : (ms.map (·.k)).Nodup) {m : Me (List UInt8)} (hm : m ∈ ms) :
    ∃ b f vn vs s1 s2 rest, m.v = .pointer (some ⟨b, 0, none⟩) ∧ findF fs m.k = some f ∧ hl.Perm ((b, cellsO [vn, vs] 81) :: (s1 ++ (s2 ++ rest))) ∧ Own byteE vn f.now s1 ∧ Own byteE vs f.synced s2 ∧
      ∀ (f' : Fl) vn' vs' s1' s2', Own byteE vn' f'.now s1' → Own byteE vs' f'.synced s2' → ∃ hl', hl'.Perm ((b, cellsO [vn', vs'] 81) :: (s1' ++ (s2' ++ rest))) ∧ FilesAt ms (setF fs m.k f') hl' := by
  induction h with
  | nil => cases hm
  | @cons ms fs hl s1 s2 k f b born vn vs h own1 own2 ih =>
    rw [List.map_cons, List.nodup_cons] at hn
    have hks := h.keys
    rcases List.mem_cons.1 hm with rfl | hm'
    · refine ⟨b, f, vn, vs, s1, s2, hl, rfl, by simp [findF], .refl _, own1, own2, fun f' vn' vs' s1' s2' o1 o2 => ⟨_, .refl _, ?_⟩⟩
      have hno : ∀ p ∈ fs, p.1 ≠ k := fun p hp e => hn.1 (by rw [hks]; exact List.mem_map.2 ⟨p, hp, e⟩)
      have e : setF ((k, f) :: fs) k f' = (k, f') :: fs := by
        have := setF_none (f := f') hno
        simp only [setF] at this ⊢
        rw [List.map_cons, this, if_pos rfl]
      show FilesAt _ (setF ((k, f) :: fs) k f') _
      rw [e]
      exact .cons h o1 o2
    · obtain ⟨b2, f2, vn2, vs2, t1, t2, rest, e1, e2, hp, o1, o2, hset⟩ := ih hn.2 hm'
      have hne : k ≠ m.k := fun e => hn.1 (List.mem_map.2 ⟨m, hm', e.symm⟩)
      refine ⟨b2, f2, vn2, vs2, t1, t2, (b, cellsO [vn, vs] 81) :: (s1 ++ (s2 ++ rest)), e1, ?_, ?_, o1, o2, fun f' vn' vs' s1' s2' p1 p2 => ?_⟩
      · simp only [findF, List.find?_cons] at e2 ⊢
        rw [decide_eq_false hne]
        exact e2
      · refine ((hp.append_left s2).append_left s1).cons _ |>.trans ?_
        exact perm_move _ _ _ _ _ _ _
      · obtain ⟨hl', hp', h'⟩ := hset f' vn' vs' s1' s2' p1 p2
        refine ⟨(b, cellsO [vn, vs] 81) :: (s1 ++ (s2 ++ hl')), ((hp'.append_left s2).append_left s1).cons _ |>.trans (perm_move _ _ _ _ _ _ _), ?_⟩
        have e : setF ((k, f) :: fs) m.k f' = (k, f) :: setF fs m.k f' := by simp only [setF, List.map_cons]; rw [if_neg hne]
        rw [e]
        exact .cons h' own1 own2
end Go.Proofs.Ytmocncadncgaaaa

namespace Go.Proofs.Ytmocncadncgaaaa
set_option linter.unusedVariables false

structure Dk where
  files : List (List UInt8 × Fl)
  room : Int
  used : Int
  ops : Int
  armed : Int
  keep : List Bool
  down : Bool
/-- A disk, at pointer db. -/
def DiskAt (db : Nat) (D : Dk) (hl : Hl) : Prop := ∃ mb mc ms hf kv sk, FilesAt ms D.files hf ∧ (ms.map (·.k)).Nodup ∧ (ms.map (·.born)).Nodup ∧ (∀ m ∈ ms, m.born < mc) ∧ Own boolE kv D.keep sk ∧
  hl.Perm ((db, dkO mb D.room D.used D.ops D.armed kv D.down) :: (mb, mapO kS ms mc) :: (hf ++ sk))
theorem Spec.perm {P : Program} {f : Nat} {args : Array Value} {F : Fm} {h1 h2 : Hl} {post : Value → Hl → Prop} (h : Spec P f args F h2 post) (hp : h1.Perm h2) : Spec P f args F h1 post := fun w hw => h w (hw.perm hp)

theorem new_spec (F : Fm) (room : Int) : Spec Try.prog 13 #[.int .i64 room] F [] fun v s => ∃ db, v = .pointer (some ⟨db, 0, none⟩) ∧ DiskAt db ⟨[], max room 0, 0, 0, 0, [], false⟩ s := by
  refine Spec.of (n := 8) (vs := [.int .i64 room]) Try.func13 rfl Try.ntmps13 rfl ?_
  refine Vc.seq ?_
  refine Vc.text (List.range 1) (sd [(0, .pure)]) rfl ?_
  refine Rg.pure rfl rfl rfl (Pv.assign rfl) ?_
  refine Rg.nil ?_
  refine Vc.seq ?_
  refine Vc.text (List.range 6) (sd [(0, .eff), (1, .pure), (2, .pure), (3, .pure), (4, .eff), (5, .pure)]) rfl ?_
  refine Rg.makeMap kS rfl rfl rfl (fun b3 => ?_)
  refine Rg.pure rfl rfl rfl (Pv.move rfl) ?_
  refine Rg.pure rfl rfl rfl (Pv.max rfl rfl) ?_
  refine Rg.pure rfl rfl rfl (Pv.build (c := #[.map (some b3), .int .i64 (max room 0), .int .i64 0, .int .i64 0, .int .i64 0, .slice none 0 0, .int .u32 0]) rfl rfl) ?_
  refine Rg.box rfl rfl rfl rfl rfl (fun b7 => ?_)
  refine Rg.pure rfl rfl rfl (Pv.assign rfl) ?_
  refine Rg.nil ?_
  exact Vc.ret (Vc.retsH (hl' := [(b7, cellsO [.map (some b3), .int .i64 (max room 0), .int .i64 0, .int .i64 0, .int .i64 0, .slice none 0 0, .int .u32 0] 75), (b3, mapO kS [] 0)]) rfl (.cons (.tmp rfl) .nil) ⟨b7, rfl, b3, 0, [], [], .slice none 0 0, [], .nil, .nil, .nil, (fun m hm => by cases hm), .nil, .refl _⟩ pulled)
theorem arm_spec {F : Fm} {db : Nat} {D : Dk} {s : Hl} (hD : DiskAt db D s) (n : Int) {kv : Value} {ks : List Bool} (hk : Arg boolE F kv ks) (hkl : ks.length < 4294967296) :
    Spec Try.prog 19 #[.pointer (some ⟨db, 0, none⟩), .int .i64 n, kv] F s fun _ s' => DiskAt db { D with armed := max n 0, keep := ks } s' := by
  obtain ⟨mb, mc, ms, hf, kv0, sk, hfl, hn, hbn, hold, own, hp⟩ := hD
  refine Spec.perm ?_ hp
  obtain ⟨pk, ck, rfl⟩ := hk.shape
  refine Spec.of (n := 16) (vs := [.pointer (some ⟨db, 0, none⟩), .int .i64 n, .slice pk ks.length ck]) Try.func19 rfl Try.ntmps19 rfl ?_
  refine Vc.text (List.range 12) (sd [(0, .pure), (1, .pure), (2, .pure), (3, .pure), (4, .pure), (5, .eff), (6, .pure), (7, .pure), (8, .eff), (9, .pure), (10, .pure), (11, .eff)]) rfl ?_
  refine Rg.pure rfl rfl rfl (Pv.move rfl) ?_
  refine Rg.pure rfl rfl rfl (Pv.move rfl) ?_
  refine Rg.pure rfl rfl rfl (Pv.move rfl) ?_
  refine Rg.pure rfl rfl rfl (Pv.max rfl rfl) ?_
  refine Rg.pure rfl rfl rfl (Pv.move rfl) ?_
  refine Rg.callA rfl rfl rfl (run_callF rfl) (cloneB_spec (hk.mono fun b o h => Or.inr h) hkl) ?_
  rintro v11 s11 own11
  refine Rg.pure rfl rfl rfl (Pv.nilp rfl) ?_
  refine Rg.pure rfl rfl rfl (Pv.fa rfl) ?_
  refine Rg.store rfl rfl rfl rfl rfl rfl rfl rfl ?_
  refine Rg.pure rfl rfl rfl (Pv.nilp rfl) ?_
  refine Rg.pure rfl rfl rfl (Pv.fa rfl) ?_
  refine Rg.store rfl rfl rfl rfl rfl own11.one rfl rfl ?_
  refine Rg.nil ?_
  exact Vc.fin (Vc.retsH rfl .nil ((show DiskAt db { D with armed := max n 0, keep := ks } ((db, dkO mb D.room D.used D.ops (max n 0) v11 D.down) :: (mb, mapO kS ms mc) :: (hf ++ s11)) from ⟨mb, mc, ms, hf, v11, s11, hfl, hn, hbn, hold, own11, .refl _⟩)) pulled)
section
variable {F : Fm} {db : Nat} {D : Dk} {s : Hl}
theorem downD_spec (hD : DiskAt db D s) (hF : ∀ b o, (b, o) ∈ s → F.at_ b o) : Spec Try.prog 20 #[.pointer (some ⟨db, 0, none⟩)] F [] fun v _ => v = .bool D.down := by
  obtain ⟨mb, mc, ms, hf, kv, sk, hfl, hn, hbn, hold, own, hp⟩ := hD
  have : Fat F db (dkO mb D.room D.used D.ops D.armed kv D.down) := ⟨hF _ _ (hp.mem_iff.2 List.mem_cons_self)⟩
  exact down_spec (mb := mb) (room := D.room) (used := D.used) (ops := D.ops) (armed := D.armed) (keep := kv)
theorem opsD_spec (hD : DiskAt db D s) (hF : ∀ b o, (b, o) ∈ s → F.at_ b o) : Spec Try.prog 21 #[.pointer (some ⟨db, 0, none⟩)] F [] fun v _ => v = .int .i64 D.ops := by
  obtain ⟨mb, mc, ms, hf, kv, sk, hfl, hn, hbn, hold, own, hp⟩ := hD
  have : Fat F db (dkO mb D.room D.used D.ops D.armed kv D.down) := ⟨hF _ _ (hp.mem_iff.2 List.mem_cons_self)⟩
  exact ops_spec (mb := mb) (room := D.room) (used := D.used) (armed := D.armed) (keep := kv) (down := D.down)
theorem usedD_spec (hD : DiskAt db D s) (hF : ∀ b o, (b, o) ∈ s → F.at_ b o) : Spec Try.prog 17 #[.pointer (some ⟨db, 0, none⟩)] F [] fun v _ => v = .int .i64 D.used := by
  obtain ⟨mb, mc, ms, hf, kv, sk, hfl, hn, hbn, hold, own, hp⟩ := hD
  have : Fat F db (dkO mb D.room D.used D.ops D.armed kv D.down) := ⟨hF _ _ (hp.mem_iff.2 List.mem_cons_self)⟩
  exact used_spec (mb := mb) (room := D.room) (ops := D.ops) (armed := D.armed) (keep := kv) (down := D.down)
theorem roomD_spec (hD : DiskAt db D s) (hF : ∀ b o, (b, o) ∈ s → F.at_ b o) : Spec Try.prog 18 #[.pointer (some ⟨db, 0, none⟩)] F [] fun v _ => v = .int .i64 D.room := by
  obtain ⟨mb, mc, ms, hf, kv, sk, hfl, hn, hbn, hold, own, hp⟩ := hD
  have : Fat F db (dkO mb D.room D.used D.ops D.armed kv D.down) := ⟨hF _ _ (hp.mem_iff.2 List.mem_cons_self)⟩
  exact room_spec (mb := mb) (used := D.used) (ops := D.ops) (armed := D.armed) (keep := kv) (down := D.down)
end
end Go.Proofs.Ytmocncadncgaaaa

namespace Go.Proofs.Ytmocncadncgaaaa
set_option linter.unusedVariables false

/-- names in order -/
def sortN (l : List (List UInt8)) : List (List UInt8) := l.mergeSort fun x y => decide (x ≤ y)
/-- files, sectors, truths that are left -/
structure Cr where
  files : List (List UInt8 × Fl)
  used : Int
  ks : List Bool
def crStep (st : Cr) (k : List UInt8) : Cr :=
  let f := (findF st.files k).getD ⟨[], []⟩
  let t := tornG f.now f.synced st.ks (secs f.now.length)
  ⟨setF st.files k ⟨t.1, t.1⟩, st.used + (secs t.1.length : Nat), t.2⟩
def crFold (files : List (List UInt8 × Fl)) (ks : List Bool) (names : List (List UInt8)) : Cr := names.foldl crStep ⟨files, 0, ks⟩
theorem crFold_snoc (files : List (List UInt8 × Fl)) (ks : List Bool) (names : List (List UInt8)) (k : List UInt8) : crFold files ks (names ++ [k]) = crStep (crFold files ks names) k := by simp [crFold]
/-- C2 -/
def crashD (ks : List Bool) (D : Dk) : Dk :=
  if D.down = true then D
  else
    let c := crFold D.files ks (sortN (D.files.map (·.1)))
    { D with files := c.files, used := c.used, armed := 0, down := true }
theorem setF_keys (fs : List (List UInt8 × Fl)) (k : List UInt8) (f : Fl) : (setF fs k f).map (·.1) = fs.map (·.1) := by
  simp only [setF, List.map_map]
  refine List.map_congr_left fun p hp => ?_
  simp only [Function.comp]
  split
  · rename_i h; exact h.symm
  · rfl
theorem crFold_keys (files : List (List UInt8 × Fl)) (ks : List Bool) (names : List (List UInt8)) : (crFold files ks names).files.map (·.1) = files.map (·.1) := by
  unfold crFold
  suffices h : ∀ (st : Cr), (names.foldl crStep st).files.map (·.1) = st.files.map (·.1) from h _
  induction names with
  | nil => intro st; rfl
  | cons k l ih => intro st; rw [List.foldl_cons, ih]; exact setF_keys _ _ _
/-- the begin of an operation -/
def beginsD (D : Dk) : Int × Dk :=
  let D1 := { D with ops := D.ops + 1 }
  let D2 := if 0 < D.armed then (if D.armed - 1 = 0 then crashD D.keep { D1 with armed := 0 } else { D1 with armed := D.armed - 1 }) else D1
  (if D2.down = true then 7 else 0, D2)
/-- A disk but for the truths that it keeps. -/
def Disk0 (db : Nat) (D : Dk) (kv : Value) (hl : Hl) : Prop := ∃ mb mc ms hf, FilesAt ms D.files hf ∧ (ms.map (·.k)).Nodup ∧ (ms.map (·.born)).Nodup ∧ (∀ m ∈ ms, m.born < mc) ∧
  hl.Perm ((db, dkO mb D.room D.used D.ops D.armed kv D.down) :: (mb, mapO kS ms mc) :: hf)
theorem DiskAt.parts {db : Nat} {D : Dk} {hl : Hl} (h : DiskAt db D hl) : ∃ kv sk h0, Disk0 db D kv h0 ∧ Own boolE kv D.keep sk ∧ hl.Perm (h0 ++ sk) := by
  obtain ⟨mb, mc, ms, hf, kv, sk, h1, h2, h3, h4, own, hp⟩ := h
  exact ⟨kv, sk, _, ⟨mb, mc, ms, hf, h1, h2, h3, h4, .refl _⟩, own, hp⟩
theorem DiskAt.mk {db : Nat} {D : Dk} {kv : Value} {h0 sk hl : Hl} (h : Disk0 db D kv h0) (own : Own boolE kv D.keep sk) (hp : hl.Perm (h0 ++ sk)) : DiskAt db D hl := by
  obtain ⟨mb, mc, ms, hf, h1, h2, h3, h4, hp0⟩ := h
  exact ⟨mb, mc, ms, hf, kv, sk, h1, h2, h3, h4, own, hp.trans (hp0.append_right sk)⟩
end Go.Proofs.Ytmocncadncgaaaa
