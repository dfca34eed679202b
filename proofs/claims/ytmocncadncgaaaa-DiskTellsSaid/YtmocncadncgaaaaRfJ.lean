/- DiskTells: steps, and few. -/
import Derived.Test.YtmocncadncgaaaaRfI
namespace Go.Proofs.Ytmocncadncgaaaa
set_option linter.unusedVariables false

structure DsV where
  kind : Int
  at_ : Int
  n : Int
  nm : List UInt8
  oth : List UInt8
  p : Option Addr
  m : Nat
  c : Nat
  q : Option Addr
  k : Nat
  e : Nat
  deriving Inhabited
abbrev dsC (s : DsV) : List Value := [.int .i64 s.kind, .int .i64 s.at_, .int .i64 s.n, kS s.nm, kS s.oth, .slice s.p s.m s.c, .slice s.q s.k s.e]
abbrev dsV (s : DsV) : Value := .agg #[.int .i64 s.kind, .int .i64 s.at_, .int .i64 s.n, kS s.nm, kS s.oth, .slice s.p s.m s.c, .slice s.q s.k s.e]
def dsE : Enc DsV where
  k := 7
  tid := 57
  cells := dsC
  val := dsV
  pos := by decide
  len := fun _ => rfl
  one := fun x v hv => by simp [dsC] at hv; rcases hv with rfl | rfl | rfl | rfl | rfl | rfl | rfl <;> rfl
  vc := fun _ => rfl
instance : RowTy Try.prog dsE 57 := ⟨Try.sizeOf57, .inl ⟨Try.isAgg57, fun _ => rfl⟩⟩
theorem few_spec {F : Fm} (s : DsV) (hc : s.m ≤ s.c ∧ s.k ≤ s.e) : Spec Try.prog 32 #[dsV s] F [] fun v _ => v = dsV { s with m := min s.m 60, k := min s.k 60 } := by
  obtain ⟨a, ha⟩ : ∃ a, a = min s.m 60 := ⟨_, rfl⟩
  obtain ⟨b, hb⟩ : ∃ b, b = min s.k 60 := ⟨_, rfl⟩
  refine Spec.of (n := 20) (vs := [dsV s]) Try.func32 rfl Try.ntmps32 rfl ?_
  refine Vc.seq ?_
  refine Vc.text (List.range 2) (sd [(0, .eff), (1, .eff)]) rfl ?_
  refine Rg.box rfl rfl rfl rfl rfl (fun b1 => ?_)
  refine Rg.alloc rfl rfl rfl rfl (fun b2 => ?_)
  refine Rg.nil ?_
  refine Vc.seq ?_
  refine Vc.text (List.range 9) (sd [(0, .pure), (1, .read), (2, .pure), (3, .read), (4, .pure), (5, .pure), (6, .pure), (7, .pure), (8, .eff)]) rfl ?_
  refine Rg.pure rfl rfl rfl (Pv.fa rfl) ?_
  refine Rg.read rfl rfl rfl (Ev.ld rfl rfl) ?_
  refine Rg.pure rfl rfl rfl (Pv.fa rfl) ?_
  refine Rg.read rfl rfl rfl (Ev.ld rfl rfl) ?_
  refine Rg.pure rfl rfl rfl (Pv.lenS rfl) ?_
  refine Rg.pure rfl rfl rfl (Pv.asI (a) (Pv.min rfl rfl) (by omega)) ?_
  refine Rg.pure rfl rfl rfl (Pv.slTo (a) rfl rfl (by omega)) ?_
  refine Rg.pure rfl rfl rfl (Pv.fa rfl) ?_
  refine Rg.store rfl rfl rfl rfl rfl rfl rfl rfl ?_
  refine Rg.nil ?_
  refine Vc.seq ?_
  refine Vc.text (List.range 9) (sd [(0, .pure), (1, .read), (2, .pure), (3, .read), (4, .pure), (5, .pure), (6, .pure), (7, .pure), (8, .eff)]) rfl ?_
  refine Rg.pure rfl rfl rfl (Pv.fa rfl) ?_
  refine Rg.read rfl rfl rfl (Ev.ld rfl rfl) ?_
  refine Rg.pure rfl rfl rfl (Pv.fa rfl) ?_
  refine Rg.read rfl rfl rfl (Ev.ld rfl rfl) ?_
  refine Rg.pure rfl rfl rfl (Pv.lenS rfl) ?_
  refine Rg.pure rfl rfl rfl (Pv.asI (b) (Pv.min rfl rfl) (by omega)) ?_
  refine Rg.pure rfl rfl rfl (Pv.slTo (b) rfl rfl (by omega)) ?_
  refine Rg.pure rfl rfl rfl (Pv.fa rfl) ?_
  refine Rg.store rfl rfl rfl rfl rfl rfl rfl rfl ?_
  refine Rg.nil ?_
  refine Vc.seq ?_
  refine Vc.text (List.range 2) (sd [(0, .read), (1, .eff)]) rfl ?_
  refine Rg.read rfl rfl rfl (Ev.ldA rfl rfl) ?_
  refine Rg.storeA rfl rfl rfl rfl rfl rfl rfl rfl ?_
  refine Rg.nil ?_
  refine Vc.ret (Vc.rets rfl (.cons (.cellA rfl rfl) (.nil)) ?_)
  rw [← ha, ← hb]
  rfl
end Go.Proofs.Ytmocncadncgaaaa
