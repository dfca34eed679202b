/- Proved here: for every input, the law PoolKeeps returns true, and each argument reads behind the call as it read before it. Conditions: none. -/
import Derived.Test.YtjhegjcjplpmjaaPlV
namespace Go.Proofs.Ytjhegjcjplpmjaa
open Go.ChangeShapes Go.WideShapes Go.RowKit

set_option maxRecDepth 100000 in
theorem PoolKeeps_contract (H : Type) (enc : TypeId × Value → H) (W : World) (base : Nat) (args : Array Value) (ds gs : List (DataW H)) (before : List MemPlace)
    (hval0 : ∀ (j : Nat) t v, Try.f3.params[j]? = some t → args[j]? = some v → Value.okWide Try.prog W .any base t v)
    (hW : DataW.Whole enc Try.prog Try.f3.params.toList Rows.poolKeepsSpec.vars false W args.toList ds gs before) :
    Calls Try.prog 3 args W fun e W' => ∃ v, e = .returned v ∧ Rows.poolKeepsSpec.post enc Try.prog Try.f3 false true false false W args v W' := by
  have hW' := hW
  obtain ⟨p, q, hA0, hV, rfl, hfz, hnd⟩ := hW
  have hA : DataW.TrodAll enc Try.prog W 0 (fun _ => true) true Try.f3.params.toList args.toList ds p := hA0
  have hval := hval0
  rw [Try.params3] at hA hval
  obtain ⟨rfl, rfl⟩ := trodVars_none hV
  obtain ⟨v0, v1, v2, v3, d0, d1, d2, d3, p0, p1, p2, p3, rfl, rfl, rfl, h0, h1, h2, h3⟩ := trodAll_four hA
  obtain ⟨k0, rfl, rfl, rfl, wk0⟩ := open_int Try.underlying3 (hval 0 _ v0 rfl rfl) h0
  obtain ⟨k1, rfl, rfl, rfl, wk1⟩ := open_int Try.underlying3 (hval 1 _ v1 rfl rfl) h1
  obtain ⟨k2, rfl, rfl, rfl, wk2⟩ := open_int Try.underlying3 (hval 2 _ v2 rfl rfl) h2
  obtain ⟨ls, xss, ha⟩ := open_steps (hval 3 _ v3 rfl rfl) h3
  refine (PoolKeeps_spec (fmOf W) k0 k1 k2 v3 ls xss ha W (hp_start W)).mono fun e W' ⟨v, hl', he, hv, hh⟩ => ⟨v, he, ?_⟩
  subst hv
  exact post_kept laidOut rowed slicesFull (by kernel_rfl) hW' rfl rfl Try.underlying4 (by kernel_rfl) (below_end hh)

set_option maxRecDepth 100000 in
theorem PoolKeeps_lifted (os : Os) (started : os.Started) (H : Type) (enc : TypeId × Value → H) :
    ReturnsInHanded {} Try.checked os 3 .any (Rows.poolKeepsSpec.pre6 enc Try.prog Try.f3 Rows.poolKeepsRow.domain false) (Rows.poolKeepsSpec.post enc Try.prog Try.f3 false true false false) := by
  refine returnsInHanded_of_change (C := Try.checked) ownKnob_none started (by kernel_rfl) Try.func3
    (ChangeSpec.witness6 (enc := enc) (C := Try.checked) false ⟨#[], #[.int .i64 0, .int .i64 0, .int .i64 0, .slice none 0 0], []⟩ 8 (by kernel_rfl) (by kernel_rfl) (by kernel_rfl) (by kernel_rfl)) ?_
  intro W base args ds gs before hval hW _ _
  exact PoolKeeps_contract H enc W base args ds gs before hval hW

theorem PoolKeeps_proved : Rows.PoolKeepsSaid :=
  OpenClaim.holds_of_wide 3 Try.f3 rfl rfl rfl rfl rfl rfl rfl ⟨rfl, rfl, rfl, rfl, rfl⟩ rfl rfl rfl rfl rfl (by kernel_rfl) Try.func3 (by kernel_rfl)
    (of_decide_eq_true (by kernel_rfl)) (by unfold Func.isWrapper; first | (rw [if_pos (by decide +kernel)]; kernel_rfl) | (rw [if_neg (by decide +kernel)]; exact ⟨rfl, rfl⟩))
    (fun os started H enc _ => PoolKeeps_lifted os started H enc)
end Go.Proofs.Ytjhegjcjplpmjaa
