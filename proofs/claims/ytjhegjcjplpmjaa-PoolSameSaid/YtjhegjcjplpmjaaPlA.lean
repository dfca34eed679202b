/- Places: pages of files; their order. -/
import Derived.Test.YtjhegjcjplpmjaaDkI
import Derived.Test.YtjhegjcjplpmjaaSlK
import Derived.Test.YtjhegjcjplpmjaaPlShelf
import Derived.Laws.StructEq
namespace Go.Proofs.Ytjhegjcjplpmjaa
set_option linter.unusedVariables false

structure Pl where
  nm : List UInt8
  k : Nat
  deriving DecidableEq, Inhabited
abbrev plV (p : Pl) : Value := .agg #[kS p.nm, .int .i64 (p.k : Int)]
abbrev plC (p : Pl) : List Value := [kS p.nm, .int .i64 (p.k : Int)]
def placeE : Enc Pl where
  k := 2
  tid := 54
  cells := plC
  val := plV
  pos := by decide
  len := fun _ => rfl
  one := fun x v hv => by simp [plC] at hv; rcases hv with rfl | rfl <;> rfl
  vc := fun _ => rfl
instance : RowTy Try.prog placeE 54 := ⟨Try.sizeOf54, .inl ⟨Try.isAgg54, fun _ => rfl⟩⟩
instance : TySl Try.prog 63 placeE 24 := ⟨Try.underlying63, Try.t54, .agg #[.string ⟨#[]⟩, .int .i64 0], by kernel_rfl, by kernel_rfl, rfl, rfl, rfl⟩

theorem kS_inj {a b : List UInt8} (h : kS a = kS b) : a = b := by simpa [kS, encStr] using h
theorem plV_inj {a b : Pl} (h : plV a = plV b) : a = b := by
  simp only [plV, Value.agg.injEq] at h
  have h1 := congrArg (·[0]!) h
  have h2 := congrArg (·[1]!) h
  simp at h2
  obtain ⟨x, i⟩ := a
  obtain ⟨y, j⟩ := b
  simp only at h1 h2
  rw [kS_inj (show kS x = kS y from h1), Int.ofNat.inj h2]
theorem eq_place (x y : Pl) (w : World) : (Op.equal 54 (plV x) (plV y)).run Try.prog w = .ok (decide (x = y)) w := by
  have h1 : ∀ d a b w, (Op.equalIn (d + 1) 3 (.int .i64 a) (.int .i64 b)).run Try.prog w = .ok (a == b) w := fun d a b w => by
    simp [Op.equalIn]
  have h2 : ∀ d (a b : List UInt8) w, (Op.equalIn (d + 1) 9 (kS a) (kS b)).run Try.prog w = .ok (decide (a = b)) w := fun d a b w => by
    simp [Op.equalIn, kS, encStr]
    rw [Bool.eq_iff_iff]
    simp [Go.MapKept.bytes_beq]
  have key : ∀ d, (Op.equalIn (d + 2) 54 (plV x) (plV y)).run Try.prog w = .ok (decide (x = y)) w := fun d => by
    rw [run_equalIn_struct w (d + 1) 54 _ _ (by kernel_rfl) Try.stoodInHeld54]
    have hf : (Try.prog.fieldsOf 54).toList = [⟨ "name", 9, 0, false, "", "cartage/pool", 0⟩, ⟨ "at", 3, 1, false, "", "cartage/pool", 16⟩] := by kernel_rfl
    rw [hf]
    simp [Op.eqFields, part, h1, h2]
    cases x; cases y
    simp only [Pl.mk.injEq]
    split
    · split <;> simp_all <;> omega
    · simp_all
  exact key 9998
instance : TyEqE Try.prog 54 placeE := ⟨fun x => ⟨_, rfl⟩, Try.eqGuardType54, eq_place⟩
theorem chk_place (e : Bool) (k : Pl) (w : World) : (Instr.checkKey e 10000 54 (plV k)).run Try.prog w = .ok () w := by
  have h1 : ∀ d a w, (Instr.checkKey e (d + 1) 3 (.int .i64 a)).run Try.prog w = .ok () w := fun d a w => by
    simp [Instr.checkKey]
  have h2 : ∀ d (a : List UInt8) w, (Instr.checkKey e (d + 1) 9 (kS a)).run Try.prog w = .ok () w := fun d a w => by
    simp [Instr.checkKey, kS, encStr]
  have key : ∀ d, (Instr.checkKey e (d + 2) 54 (plV k)).run Try.prog w = .ok () w := fun d => by
    have hf : Try.prog.underlying 54 = some (.struct #[⟨ "name", 9, 0, false, "", "cartage/pool", 0⟩, ⟨ "at", 3, 1, false, "", "cartage/pool", 16⟩]) := by kernel_rfl
    rw [Instr.checkKey]
    simp [run_underlying hf, plV, part, h1, h2]
  exact key 9998
instance : KeyTy Try.prog 54 plV := KeyTy.ofS (by kernel_rfl) (fun a b w => ⟨_, eq_place a b w, by simp⟩) chk_place (fun a b h => plV_inj h)

theorem sortP_spec {F : Fm} (cf : Pl → Pl → Int) (hO : Go.Sort.SWO (Go.Proofs.ltOf cf)) (g : Nat) (cb : Array Value) [tc : TyCall Try.prog g] {v : Value} {xs : List Pl} {sg : Hl} (own : Own placeE v xs sg) (hsz : xs.length < 4611686018427387904)
    (hcmp : ∀ F' : Fm, (∀ b o, F.at_ b o → F'.at_ b o) → ∀ x ∈ xs, ∀ y ∈ xs, Spec Try.prog g (#[plV x, plV y] ++ cb) F' [] fun v _ => v = .int .i64 (cf x y)) :
    Spec Try.prog 48 #[v, .func (.func g) #[] cb] F sg fun _ s => ∃ ys, Own placeE v ys s ∧ ys.Perm xs ∧ ys.Pairwise fun x y => ¬ cf y x < 0 := by
  cases own with
  | nil => exact fun w hw => (AnyF.slices_SortFunc_none { Try.sortP with } none 0 (.func (.func g) #[] cb) w).mono fun e w' ⟨he, hw'⟩ => ⟨_, _, he, ⟨[], .nil, .refl _, .nil⟩, by rw [hw']; exact hw⟩
  | blk b cap _ sp hc hm =>
    refine (sort_genK Try.sortP placeE (Try.isAgg54) (Try.sizeOf54) (fun _ => rfl) cf hO g cb (fun args w => tc.call args w) F b cap xs sp hsz hcmp).mono fun u s ⟨ys, e, hp, hs⟩ => ⟨ys, ?_, hp, hs⟩
    subst e
    have hl := hp.length_eq
    have := Own.blk' (E := placeE) b cap xs.length ys sp hl.symm hc hm
    exact this
theorem swoI {α : Type} (f : α → Int) : Go.Sort.SWO (Go.Proofs.ltOf fun x y => f x - f y) := by
  exact ⟨fun x => by simp only [Go.Proofs.ltOf, decide_eq_false_iff_not]; omega, fun x y z => by simp only [Go.Proofs.ltOf, decide_eq_true_eq]; omega, fun x y z => by simp only [Go.Proofs.ltOf, decide_eq_false_iff_not]; omega⟩
end Go.Proofs.Ytjhegjcjplpmjaa
