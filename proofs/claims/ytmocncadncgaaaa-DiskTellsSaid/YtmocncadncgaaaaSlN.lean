/- Slices made with a length; three-index slices. -/
import Derived.Test.YtmocncadncgaaaaSlG
import Derived.Test.YtmocncadncgaaaaSlM
namespace Go.Proofs.Ytmocncadncgaaaa
set_option linter.unusedVariables false

theorem flat_rep {α : Type} (E : Enc α) (z : α) (m : Nat) : flat E (List.replicate m z) = (List.replicate m (E.cells z)).flatten := by
  induction m with
  | zero => rfl
  | succ m ih => rw [List.replicate_succ, List.replicate_succ, List.flatten_cons, ← ih]; rfl

section
variable {P : Program} {n : Nf} {F : Fm} {l : Env} {hl : Hl} {d : Option Tmp} {ty : TypeId} {pos : String} {af : Array Edge} {g : Option (Nat × Bool)} {α : Type} {E : Enc α}
variable {Qf : Exit → Act → World → Prop} {ks : List KItem} {ops : List Oper} {clr : List Nat} {hs : Hl} {r : Sd} {i : Nat}

/-- make([]T, m) -/
theorem Rg.makeN (E : Enc α) (z : α) {t0 t B m : Nat} {x y : Operand} {kl kc : IntKind} [hT : TySl P t E B] [hz : TyZero P E.tid (E.val z)] (ho : nth ops i = some ⟨some t0, .makeSlice t x y, ty, pos, af, g⟩) (hg : wantB ops l g = some true) (ht0 : Nat.blt t0 n.n = true)
    (hx : ev l x = some (.int kl (m : Int))) (hy : ev l y = some (.int kc (m : Int))) (hc : B * m ≤ 281474976710656 ∧ m ≤ maxLen)
    (h : ∀ b, Own E (.slice (some ⟨b, 0, none⟩) m m) (List.replicate m z) [(b, rowS E (List.replicate m z) [])] → Rg P Qf n F ks ops clr ((b, rowS E (List.replicate m z) []) :: hl) r ((t0, .slice (some ⟨b, 0, none⟩) m m) :: l) ((b, rowS E (List.replicate m z) []) :: hl)) : Rg P Qf n F ks ops clr hl (.st i .eff r) l hl :=
  Rg.run ho hg fun a w hf hh => by
    obtain ⟨inf, z', hi, hz', hsz, hby, hzs⟩ := hT.info
    have hzz : z' = E.val z := by
      have h1 := hz.zero w
      have h2 : (zeroValue E.tid).run P w = .ok z' w := by simp [zeroValue, typeInfo, hi, hz']
      rw [h2] at h1
      cases h1; rfl
    subst hzz
    have hm : (maxLen : Int) ≤ 9223372036854775807 := by simp [maxLen]
    have hb' : (inf.bytes : Int) * (m : Int) ≤ 281474976710656 := by
      have h : ((inf.bytes * m : Nat) : Int) ≤ 281474976710656 := by rw [hby]; omega
      rwa [Int.natCast_mul] at h
    have hr := run_make (P := P) w t E.tid inf (E.val z) hT.under hi hz' kl kc m m (by omega) (Int.le_refl _) hb' (by omega)
    simp only [Int.toNat_natCast] at hr
    have hcell : (E.val z).cells = (E.cells z).toArray := by rw [← E.vc]
    have e1 : madeCells (E.val z).cells (m * inf.size) = (flat E (List.replicate m z) ++ []).toArray := by
      have h4 := rep_cells (E.cells z) (by rw [E.len]; exact E.pos) m
      rw [E.len] at h4
      unfold madeCells
      rw [hsz, hcell, h4, flat_rep, List.append_nil]
    have e : w.alloc (.cells (madeCells (E.val z).cells (m * inf.size)) E.tid) = { w with heap := w.heap.push (rowS E (List.replicate m z) []) } := by
      rw [e1]; rfl
    rw [e] at hr
    refine ⟨_, (t0, .slice (some ⟨w.heap.size, 0, none⟩) m m) :: l, (w.heap.size, rowS E (List.replicate m z) []) :: hl, _, .inl ⟨_, by simp [execOp, hf.ev hx, hf.ev hy, hr], hf.put ht0 _⟩, hh.alloc _, (hh.alloc _).st, .one, h _ ?_⟩
    exact Own.blk' (E := E) w.heap.size m m (List.replicate m z) [] (by simp) (by simp) hc.2

/-- x[i:j:k] -/
theorem Pv.sl3 {t e k m c b off : Nat} {x y z u : Operand} (i j q : Nat) [ht : TyUnder P t (.slice e)] [hs : TySize P e k] (hx : ev l x = some (.slice (some ⟨b, off, none⟩) m c)) (hy : ev l y = some (.int .i64 (i : Int))) (hz : ev l z = some (.int .i64 (j : Int))) (hu : ev l u = some (.int .i64 (q : Int))) (hij : i ≤ j) (hj : j ≤ q) (hq : q ≤ c) :
    Pv P n l ⟨d, .slice t x (some y) (some z) (some u), ty, pos, af, g⟩ (.slice (some ⟨b, if q = i then off else off + i * k, none⟩) (j - i) (q - i)) := fun a w hf => by
  simp [execOp, Instr.sliceAt, Instr.slice, Instr.sliceBounds, Instr.sliceBound, run_underlying ht.under, hf.ev hx, hf.ev hy, hf.ev hz, hf.ev hu, hs.size, asIntOf, hij, hj, hq]
  split <;> simp [addr_add]
end
end Go.Proofs.Ytmocncadncgaaaa
