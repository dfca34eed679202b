/- Disks: files among blocks. -/
import Derived.Test.YtmocncadncgaaaaDkF
namespace Go.Proofs.Ytmocncadncgaaaa
set_option linter.unusedVariables false

structure Fl where
  now : List UInt8
  synced : List UInt8
  deriving Inhabited
/-- The blocks of a map's files. -/
inductive FilesAt : List (Me (List UInt8)) → List (List UInt8 × Fl) → Hl → Prop
  | nil : FilesAt [] [] []
  | cons {ms : List (Me (List UInt8))} {fs : List (List UInt8 × Fl)} {hl s1 s2 : Hl} {k : List UInt8} {f : Fl} {b born : Nat} {vn vs : Value} (h : FilesAt ms fs hl) (own1 : Own byteE vn f.now s1) (own2 : Own byteE vs f.synced s2) :
      FilesAt (⟨k, .pointer (some ⟨b, 0, none⟩), born⟩ :: ms) ((k, f) :: fs) ((b, cellsO [vn, vs] 81) :: (s1 ++ (s2 ++ hl)))
theorem FilesAt.keys {ms : List (Me (List UInt8))} {fs : List (List UInt8 × Fl)} {hl : Hl} (h : FilesAt ms fs hl) : ms.map (·.k) = fs.map (·.1) := by
  induction h with
  | nil => rfl
  | cons h own1 own2 ih => simp [ih]
/-- a file has other bytes -/
def setF (fs : List (List UInt8 × Fl)) (k : List UInt8) (f : Fl) : List (List UInt8 × Fl) := fs.map fun p => if p.1 = k then (k, f) else p
def findF (fs : List (List UInt8 × Fl)) (k : List UInt8) : Option Fl := (fs.find? fun p => decide (p.1 = k)).map (·.2)
theorem setF_none {fs : List (List UInt8 × Fl)} {k : List UInt8} {f : Fl} (h : ∀ p ∈ fs, p.1 ≠ k) : setF fs k f = fs := by
  unfold setF
  conv => rhs; rw [← List.map_id fs]
  exact List.map_congr_left fun p hp => by rw [if_neg (h p hp)]; rfl
theorem perm_move {α : Type} (x y : α) (s1 s2 t1 t2 rest : List α) : (x :: (s1 ++ (s2 ++ (y :: (t1 ++ (t2 ++ rest)))))).Perm (y :: (t1 ++ (t2 ++ (x :: (s1 ++ (s2 ++ rest)))))) := by
  have e1 : (x :: (s1 ++ (s2 ++ (y :: (t1 ++ (t2 ++ rest)))))) = (x :: (s1 ++ s2)) ++ ((y :: (t1 ++ t2)) ++ rest) := by simp
  have e2 : (y :: (t1 ++ (t2 ++ (x :: (s1 ++ (s2 ++ rest)))))) = (y :: (t1 ++ t2)) ++ ((x :: (s1 ++ s2)) ++ rest) := by simp
  rw [e1, e2, ← List.append_assoc, ← List.append_assoc]
  exact List.perm_append_comm.append_right rest
theorem FilesAt.get {ms : List (Me (List UInt8))} {fs : List (List UInt8 × Fl)} {hl : Hl} (h : FilesAt ms fs hl) (hn : (ms.map (·.k)).Nodup) {m : Me (List UInt8)} (hm : m ∈ ms) :
    ∃ b f vn vs s1 s2 rest, m.v = .pointer (some ⟨b, 0, none⟩) ∧ findF fs m.k = some f ∧ hl.Perm ((b, cellsO [vn, vs] 81) :: (s1 ++ (s2 ++ rest))) ∧ Own byteE vn f.now s1 ∧ Own byteE vs f.synced s2 ∧
      ∀ (f' : Fl) vn' vs' s1' s2', Own byteE vn' f'.now s1' → Own byteE vs' f'.synced s2' → ∃ hl', hl'.Perm ((b, cellsO [vn', vs'] 81) :: (s1' ++ (s2' ++ rest))) ∧ FilesAt ms (setF fs m.k f') hl' := by
  induction h with
  | nil => cases hm
  | @cons ms fs hl s1 s2 k f b born vn vs h own1 own2 ih =>
    rw [List.map_cons, List.nodup_cons] at hn
    have hks := h.keys
    rcases List.mem_cons.1 hm with rfl | hm'
    · refine ⟨b, f, vn, vs, s1, s2, hl, rfl, by simp [findF], .refl _, own1, own2, fun f' vn' vs' s1' s2' o1 o2 => ⟨_, .refl _, ?_⟩⟩
      have hno : ∀ p ∈ fs, p.1 ≠ k := fun p hp e => hn.1 (by rw [hks]; exact List.mem_map.2 ⟨p, hp, e⟩)
      have e : setF ((k, f) :: fs) k f' = (k, f') :: fs := by
        have := setF_none (f := f') hno
        simp only [setF] at this ⊢
        rw [List.map_cons, this, if_pos rfl]
      show FilesAt _ (setF ((k, f) :: fs) k f') _
      rw [e]
      exact .cons h o1 o2
    · obtain ⟨b2, f2, vn2, vs2, t1, t2, rest, e1, e2, hp, o1, o2, hset⟩ := ih hn.2 hm'
      have hne : k ≠ m.k := fun e => hn.1 (List.mem_map.2 ⟨m, hm', e.symm⟩)
      refine ⟨b2, f2, vn2, vs2, t1, t2, (b, cellsO [vn, vs] 81) :: (s1 ++ (s2 ++ rest)), e1, ?_, ?_, o1, o2, fun f' vn' vs' s1' s2' p1 p2 => ?_⟩
      · simp only [findF, List.find?_cons] at e2 ⊢
        rw [decide_eq_false hne]
        exact e2
      · refine ((hp.append_left s2).append_left s1).cons _ |>.trans ?_
        exact perm_move _ _ _ _ _ _ _
      · obtain ⟨hl', hp', h'⟩ := hset f' vn' vs' s1' s2' p1 p2
        refine ⟨(b, cellsO [vn, vs] 81) :: (s1 ++ (s2 ++ hl')), ((hp'.append_left s2).append_left s1).cons _ |>.trans (perm_move _ _ _ _ _ _ _), ?_⟩
        have e : setF ((k, f) :: fs) m.k f' = (k, f) :: setF fs m.k f' := by simp only [setF, List.map_cons]; rw [if_neg hne]
        rw [e]
        exact .cons h' own1 own2
end Go.Proofs.Ytmocncadncgaaaa
