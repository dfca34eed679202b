/- Disks: a crash. -/
import Derived.Test.YtmocncadncgaaaaDkJ
namespace Go.Proofs.Ytmocncadncgaaaa
set_option linter.unusedVariables false

theorem sortN_perm {a b : List (List UInt8)} (h : a.Perm b) : Go.Proofs.Ytmocncadncgaaaa.sortN a = Go.Proofs.Ytmocncadncgaaaa.sortN b := by
  have tr : ∀ x y z : List UInt8, decide (x ≤ y) = true → decide (y ≤ z) = true → decide (x ≤ z) = true := fun x y z h1 h2 => by
    simp only [decide_eq_true_eq] at *; exact List.le_trans h1 h2
  have to : ∀ x y : List UInt8, (decide (x ≤ y) || decide (y ≤ x)) = true := fun x y => by
    simp only [Bool.or_eq_true, decide_eq_true_eq]; exact List.le_total x y
  have p1 := List.pairwise_mergeSort tr to a
  have p2 := List.pairwise_mergeSort tr to b
  have hp : (a.mergeSort fun x y => decide (x ≤ y)).Perm (b.mergeSort fun x y => decide (x ≤ y)) := (List.mergeSort_perm a _).trans (h.trans (List.mergeSort_perm b _).symm)
  exact hp.eq_of_pairwise (fun x y _ _ h1 h2 => List.le_antisymm (by simpa using h1) (by simpa using h2)) p1 p2
/-- files whose bytes are few -/
def FewB (fs : List (List UInt8 × Fl)) : Prop := ∀ p ∈ fs, p.2.now.length ≤ 1000000 ∧ p.2.synced.length ≤ 1000000
theorem FewB.find {fs : List (List UInt8 × Fl)} (h : FewB fs) {k : List UInt8} {f : Fl} (hf : findF fs k = some f) : f.now.length ≤ 1000000 ∧ f.synced.length ≤ 1000000 := by
  unfold findF at hf
  cases hx : fs.find? fun p => decide (p.1 = k) with
  | none => rw [hx] at hf; cases hf
  | some p =>
    rw [hx] at hf
    simp only [Option.map_some, Option.some.injEq] at hf
    rw [← hf]
    exact h p (List.mem_of_find?_eq_some hx)
theorem FewB.set {fs : List (List UInt8 × Fl)} (h : FewB fs) {k : List UInt8} {f : Fl} (h1 : f.now.length ≤ 1000000) (h2 : f.synced.length ≤ 1000000) : FewB (setF fs k f) := fun p hp => by
  obtain ⟨q, hq, rfl⟩ := List.mem_map.1 hp
  split
  · exact ⟨h1, h2⟩
  · exact h q hq
theorem torn_few {f : Fl} {ks : List Bool} (h1 : f.now.length ≤ 1000000) (h2 : f.synced.length ≤ 1000000) : (tornG f.now f.synced ks (secs f.now.length)).1.length ≤ 1000000 :=
  tornG_len h2 h1 _ (by unfold secs; omega)
end Go.Proofs.Ytmocncadncgaaaa
