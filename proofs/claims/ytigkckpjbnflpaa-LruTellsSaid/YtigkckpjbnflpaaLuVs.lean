/- Use, where what it does is known. -/
import Derived.Test.YtigkckpjbnflpaaLuUs
namespace Go.Proofs.Ytigkckpjbnflpaa
set_option linter.unusedVariables false
theorem use_somes (F : Fm) {cb fr ck : Nat} {L : List (KTs × Nat)} {s : Hl} (hh : Caches cb fr ck L s) (key : KTs) (hck : ck < 1073741824) (hN : L.length < 1073741824) {M : List (KTs × Nat)} {q : Nat} {g : KTs} {is : Bool} (h : useK zs fr L key = some (M, q, g, is)) :
    Spec Try.prog 13 #[.pointer (some ⟨cb, 0, none⟩), kvs key] F s fun v s' => v = .tuple #[kvs g, .bool is, .int .i64 0] ∧ Caches cb fr (ck + 1) (M ++ [(key, q)]) s' :=
  (use_specs F hh key hck hN).mono fun v s' hv => by
    rcases hv with ⟨h1, _⟩ | ⟨M', q', g', is', h1, h2, h3⟩
    · rw [h] at h1; cases h1
    · rw [h] at h1
      cases h1
      exact ⟨h2, h3⟩
theorem use_nones (F : Fm) {cb fr ck : Nat} {L : List (KTs × Nat)} {s : Hl} (hh : Caches cb fr ck L s) (key : KTs) (hck : ck < 1073741824) (hN : L.length < 1073741824) (h : useK zs fr L key = none) :
    Spec Try.prog 13 #[.pointer (some ⟨cb, 0, none⟩), kvs key] F s fun v s' => v = .tuple #[kvs zs, .bool false, .int .i64 8] ∧ Caches cb fr ck L s' :=
  (use_specs F hh key hck hN).mono fun v s' hv => by
    rcases hv with ⟨_, h2, h3⟩ | ⟨M', q', g', is', h1, _⟩
    · exact ⟨h2, h3⟩
    · rw [h] at h1; cases h1
end Go.Proofs.Ytigkckpjbnflpaa
