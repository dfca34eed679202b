/- Disks: what a crash makes; the begin of an operation. -/
import Derived.Test.YtmocncadncgaaaaDkH
namespace Go.Proofs.Ytmocncadncgaaaa
set_option linter.unusedVariables false

/-- names in order -/
def sortN (l : List (List UInt8)) : List (List UInt8) := l.mergeSort fun x y => decide (x ≤ y)
/-- files, sectors, truths that are left -/
structure Cr where
  files : List (List UInt8 × Fl)
  used : Int
  ks : List Bool
def crStep (st : Cr) (k : List UInt8) : Cr :=
  let f := (findF st.files k).getD ⟨[], []⟩
  let t := tornG f.now f.synced st.ks (secs f.now.length)
  ⟨setF st.files k ⟨t.1, t.1⟩, st.used + (secs t.1.length : Nat), t.2⟩
def crFold (files : List (List UInt8 × Fl)) (ks : List Bool) (names : List (List UInt8)) : Cr := names.foldl crStep ⟨files, 0, ks⟩
theorem crFold_snoc (files : List (List UInt8 × Fl)) (ks : List Bool) (names : List (List UInt8)) (k : List UInt8) : crFold files ks (names ++ [k]) = crStep (crFold files ks names) k := by simp [crFold]
/-- C2 -/
def crashD (ks : List Bool) (D : Dk) : Dk :=
  if D.down = true then D
  else
    let c := crFold D.files ks (sortN (D.files.map (·.1)))
    { D with files := c.files, used := c.used, armed := 0, down := true }
theorem setF_keys (fs : List (List UInt8 × Fl)) (k : List UInt8) (f : Fl) : (setF fs k f).map (·.1) = fs.map (·.1) := by
  simp only [setF, List.map_map]
  refine List.map_congr_left fun p hp => ?_
  simp only [Function.comp]
  split
  · rename_i h; exact h.symm
  · rfl
theorem crFold_keys (files : List (List UInt8 × Fl)) (ks : List Bool) (names : List (List UInt8)) : (crFold files ks names).files.map (·.1) = files.map (·.1) := by
  unfold crFold
  suffices h : ∀ (st : Cr), (names.foldl crStep st).files.map (·.1) = st.files.map (·.1) from h _
  induction names with
  | nil => intro st; rfl
  | cons k l ih => intro st; rw [List.foldl_cons, ih]; exact setF_keys _ _ _
/-- the begin of an operation -/
def beginsD (D : Dk) : Int × Dk :=
  let D1 := { D with ops := D.ops + 1 }
  let D2 := if 0 < D.armed then (if D.armed - 1 = 0 then crashD D.keep { D1 with armed := 0 } else { D1 with armed := D.armed - 1 }) else D1
  (if D2.down = true then 7 else 0, D2)
/-- A disk but for the truths that it keeps. -/
def Disk0 (db : Nat) (D : Dk) (kv : Value) (hl : Hl) : Prop := ∃ mb mc ms hf, FilesAt ms D.files hf ∧ (ms.map (·.k)).Nodup ∧ (ms.map (·.born)).Nodup ∧ (∀ m ∈ ms, m.born < mc) ∧
  hl.Perm ((db, dkO mb D.room D.used D.ops D.armed kv D.down) :: (mb, mapO kS ms mc) :: hf)
theorem DiskAt.parts {db : Nat} {D : Dk} {hl : Hl} (h : DiskAt db D hl) : ∃ kv sk h0, Disk0 db D kv h0 ∧ Own boolE kv D.keep sk ∧ hl.Perm (h0 ++ sk) := by
  obtain ⟨mb, mc, ms, hf, kv, sk, h1, h2, h3, h4, own, hp⟩ := h
  exact ⟨kv, sk, _, ⟨mb, mc, ms, hf, h1, h2, h3, h4, .refl _⟩, own, hp⟩
theorem DiskAt.mk {db : Nat} {D : Dk} {kv : Value} {h0 sk hl : Hl} (h : Disk0 db D kv h0) (own : Own boolE kv D.keep sk) (hp : hl.Perm (h0 ++ sk)) : DiskAt db D hl := by
  obtain ⟨mb, mc, ms, hf, h1, h2, h3, h4, hp0⟩ := h
  exact ⟨mb, mc, ms, hf, kv, sk, h1, h2, h3, h4, own, hp.trans (hp0.append_right sk)⟩
end Go.Proofs.Ytmocncadncgaaaa
