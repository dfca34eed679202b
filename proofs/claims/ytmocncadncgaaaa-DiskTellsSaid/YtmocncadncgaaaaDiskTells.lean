/- Proved here: for every input, the law DiskTells returns true, and each argument reads behind the call as it read before it. Conditions: none. -/
import Derived.Test.YtmocncadncgaaaaRfL
namespace Go.Proofs.Ytmocncadncgaaaa
open Go.ChangeShapes Go.WideShapes Go.RowKit

set_option maxRecDepth 100000 in
theorem DiskTells_contract (H : Type) (enc : TypeId × Value → H) (W : World) (base : Nat) (args : Array Value) (ds gs : List (DataW H)) (before : List MemPlace)
    (hval0 : ∀ (j : Nat) t v, Try.f11.params[j]? = some t → args[j]? = some v → Value.okWide Try.prog W .any base t v)
    (hW : DataW.Whole enc Try.prog Try.f11.params.toList Rows.diskTellsSpec.vars false W args.toList ds gs before) :
    Calls Try.prog 11 args W fun e W' => ∃ v, e = .returned v ∧ Rows.diskTellsSpec.post enc Try.prog Try.f11 false true false false W args v W' := by
  have hW' := hW
  obtain ⟨p, q, hA0, hV, rfl, hfz, hnd⟩ := hW
  have hA : DataW.TrodAll enc Try.prog W 0 (fun _ => true) true Try.f11.params.toList args.toList ds p := hA0
  have hval := hval0
  rw [Try.params11] at hA hval
  obtain ⟨rfl, rfl⟩ := trodVars_none hV
  obtain ⟨v0, v1, d0, d1, p0, p1, rfl, rfl, rfl, h0, h1⟩ := trodAll_two hA
  obtain ⟨k0, rfl, rfl, rfl, wk0⟩ := open_int Try.underlying3 (hval 0 _ v0 rfl rfl) h0
  obtain ⟨ls, xss, kss, ha⟩ := open_dsteps (hval 1 _ v1 rfl rfl) h1
  refine (DiskTells_spec (fmOf W) k0 v1 ls xss kss ha W (hp_start W)).mono fun e W' ⟨v, hl', he, hv, hh⟩ => ⟨v, he, ?_⟩
  subst hv
  exact post_kept laidOut rowed slicesFull (by kernel_rfl) hW' rfl rfl Try.underlying4 (by kernel_rfl) (below_end hh)

set_option maxRecDepth 100000 in
theorem DiskTells_lifted (os : Os) (started : os.Started) (H : Type) (enc : TypeId × Value → H) :
    ReturnsInHanded {} Try.checked os 11 .any (Rows.diskTellsSpec.pre6 enc Try.prog Try.f11 Rows.diskTellsRow.domain false) (Rows.diskTellsSpec.post enc Try.prog Try.f11 false true false false) := by
  refine returnsInHanded_of_change (C := Try.checked) ownKnob_none started (by kernel_rfl) Try.func11
    (ChangeSpec.witness6 (enc := enc) (C := Try.checked) false ⟨#[], #[.int .i64 0, .slice none 0 0], []⟩ 8 (by kernel_rfl) (by kernel_rfl) (by kernel_rfl) (by kernel_rfl)) ?_
  intro W base args ds gs before hval hW _ _
  exact DiskTells_contract H enc W base args ds gs before hval hW

theorem DiskTells_proved : Rows.DiskTellsSaid :=
  OpenClaim.holds_of_wide 11 Try.f11 rfl rfl rfl rfl rfl rfl rfl ⟨rfl, rfl, rfl, rfl, rfl⟩ rfl rfl rfl rfl rfl (by kernel_rfl) Try.func11 (by kernel_rfl)
    (of_decide_eq_true (by kernel_rfl)) (by unfold Func.isWrapper; first | (rw [if_pos (by decide +kernel)]; kernel_rfl) | (rw [if_neg (by decide +kernel)]; exact ⟨rfl, rfl⟩))
    (fun os started H enc _ => DiskTells_lifted os started H enc)
end Go.Proofs.Ytmocncadncgaaaa
