/- Use, where what it does is known. -/
import Derived.Test.YtjhegjcjplpmjaaLuUp
namespace Go.Proofs.Ytjhegjcjplpmjaa
set_option linter.unusedVariables false
theorem use_somep (F : Fm) {cb fr ck : Nat} {L : List (KTp × Nat)} {s : Hl} (hh : Cachep cb fr ck L s) (key : KTp) (hck : ck < 1073741824) (hN : L.length < 1073741824) {M : List (KTp × Nat)} {q : Nat} {g : KTp} {is : Bool} (h : useK zp fr L key = some (M, q, g, is)) :
    Spec Try.prog 63 #[.pointer (some ⟨cb, 0, none⟩), kvp key] F s fun v s' => v = .tuple #[kvp g, .bool is, .int .i64 0] ∧ Cachep cb fr (ck + 1) (M ++ [(key, q)]) s' :=
  (use_specp F hh key hck hN).mono fun v s' hv => by
    rcases hv with ⟨h1, _⟩ | ⟨M', q', g', is', h1, h2, h3⟩
    · rw [h] at h1; cases h1
    · rw [h] at h1
      cases h1
      exact ⟨h2, h3⟩
theorem use_nonep (F : Fm) {cb fr ck : Nat} {L : List (KTp × Nat)} {s : Hl} (hh : Cachep cb fr ck L s) (key : KTp) (hck : ck < 1073741824) (hN : L.length < 1073741824) (h : useK zp fr L key = none) :
    Spec Try.prog 63 #[.pointer (some ⟨cb, 0, none⟩), kvp key] F s fun v s' => v = .tuple #[kvp zp, .bool false, .int .i64 8] ∧ Cachep cb fr ck L s' :=
  (use_specp F hh key hck hN).mono fun v s' hv => by
    rcases hv with ⟨_, h2, h3⟩ | ⟨M', q', g', is', h1, _⟩
    · exact ⟨h2, h3⟩
    · rw [h] at h1; cases h1
end Go.Proofs.Ytjhegjcjplpmjaa
