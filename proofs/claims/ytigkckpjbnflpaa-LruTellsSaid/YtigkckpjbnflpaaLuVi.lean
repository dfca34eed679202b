/- Use, where what it does is known. -/
import Derived.Test.YtigkckpjbnflpaaLuUi
import Derived.Test.YtigkckpjbnflpaaLuVs
namespace Go.Proofs.Ytigkckpjbnflpaa
set_option linter.unusedVariables false
theorem use_somei (F : Fm) {cb fr ck : Nat} {L : List (KTi × Nat)} {s : Hl} (hh : Cachei cb fr ck L s) (key : KTi) (hck : ck < 1073741824) (hN : L.length < 1073741824) {M : List (KTi × Nat)} {q : Nat} {g : KTi} {is : Bool} (h : useK zi fr L key = some (M, q, g, is)) :
    Spec Try.prog 26 #[.pointer (some ⟨cb, 0, none⟩), kvi key] F s fun v s' => v = .tuple #[kvi g, .bool is, .int .i64 0] ∧ Cachei cb fr (ck + 1) (M ++ [(key, q)]) s' :=
  (use_speci F hh key hck hN).mono fun v s' hv => by
    rcases hv with ⟨h1, _⟩ | ⟨M', q', g', is', h1, h2, h3⟩
    · rw [h] at h1; cases h1
    · rw [h] at h1
      cases h1
      exact ⟨h2, h3⟩
theorem use_nonei (F : Fm) {cb fr ck : Nat} {L : List (KTi × Nat)} {s : Hl} (hh : Cachei cb fr ck L s) (key : KTi) (hck : ck < 1073741824) (hN : L.length < 1073741824) (h : useK zi fr L key = none) :
    Spec Try.prog 26 #[.pointer (some ⟨cb, 0, none⟩), kvi key] F s fun v s' => v = .tuple #[kvi zi, .bool false, .int .i64 8] ∧ Cachei cb fr ck L s' :=
  (use_speci F hh key hck hN).mono fun v s' hv => by
    rcases hv with ⟨_, h2, h3⟩ | ⟨M', q', g', is', h1, _⟩
    · exact ⟨h2, h3⟩
    · rw [h] at h1; cases h1
end Go.Proofs.Ytigkckpjbnflpaa
