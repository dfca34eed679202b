/- Disks: a file of a disk, opened; Size. -/
import Derived.Test.YtmocncadncgaaaaDkN
namespace Go.Proofs.Ytmocncadncgaaaa
set_option linter.unusedVariables false

theorem perm_open {α : Type} (a b x : α) (A sk hf s1 s2 rest : List α) (h : hf.Perm (x :: (s1 ++ (s2 ++ rest)))) (hA : A = a :: b :: (hf ++ sk)) : A.Perm (x :: (s1 ++ (s2 ++ (a :: b :: (rest ++ sk))))) := by
  subst hA
  refine (((h.append_right sk).cons b).cons a).trans ?_
  have e1 : a :: b :: ((x :: (s1 ++ (s2 ++ rest))) ++ sk) = ([a, b] ++ (x :: (s1 ++ s2))) ++ (rest ++ sk) := by simp
  have e2 : x :: (s1 ++ (s2 ++ (a :: b :: (rest ++ sk)))) = ((x :: (s1 ++ s2)) ++ [a, b]) ++ (rest ++ sk) := by simp
  rw [e1, e2]
  exact List.perm_append_comm.append_right _
/-- A file of a disk, with a way back. -/
theorem FileOf.open_ {db : Nat} {D : Dk} {k : List UInt8} {fb : Nat} {hl : Hl} (h : FileOf db D k fb hl) :
    ∃ mb mo kv f vn vs s1 s2 rest, findF D.files k = some f ∧ Own byteE vn f.now s1 ∧ Own byteE vs f.synced s2 ∧
      hl.Perm ((fb, cellsO [vn, vs] 81) :: (s1 ++ (s2 ++ ((db, dkO mb D.room D.used D.ops D.armed kv D.down) :: (mb, mo) :: rest)))) ∧
      ∀ (f' : Fl) (used' : Int) vn' vs' s1' s2' hl', Own byteE vn' f'.now s1' → Own byteE vs' f'.synced s2' → hl'.Perm ((fb, cellsO [vn', vs'] 81) :: (s1' ++ (s2' ++ ((db, dkO mb D.room used' D.ops D.armed kv D.down) :: (mb, mo) :: rest)))) →
        DiskAt db { D with files := setF D.files k f', used := used' } hl' := by
  obtain ⟨mb, mc, ms, hf, kv, sk, m, hfl, hn, hbn, hold, own, hmm, hmk, hmv, hp⟩ := h
  obtain ⟨fb2, f, vn, vs, s1, s2, rest, hmv2, hff, hperm, o1, o2, hset⟩ := hfl.get hn hmm
  rw [hmv] at hmv2
  cases hmv2
  rw [hmk] at hff hset
  refine ⟨mb, mapO kS ms mc, kv, f, vn, vs, s1, s2, rest ++ sk, hff, o1, o2, hp.trans (perm_open _ _ _ _ _ _ _ _ _ hperm rfl), fun f' used' vn' vs' s1' s2' hl' p1 p2 hp' => ?_⟩
  obtain ⟨hf', hperm', hfl'⟩ := hset f' vn' vs' s1' s2' p1 p2
  exact ⟨mb, mc, ms, hf', kv, sk, hfl', hn, hbn, hold, own, hp'.trans (perm_open _ _ _ _ _ _ _ _ _ hperm' rfl).symm⟩
end Go.Proofs.Ytmocncadncgaaaa
