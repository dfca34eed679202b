/- Disks: what lasts of a disk over its operations, in plain words; a crash in order of the names. Disks: Restart, Crash over a whole disk; Rename; List. Disks: the operations, over a disk of which the bounds are known; disks with one file. -/
import Derived.Test.YtmocncadncgaaaaDkY
namespace Go.Proofs.Ytmocncadncgaaaa
set_option linter.unusedVariables false

/-- how many sectors files have -/
def usedN (fs : List (List UInt8 × Fl)) : Nat := (fs.map fun p => secs p.2.now.length).sum
theorem usedN_cons (p : List UInt8 × Fl) (fs : List (List UInt8 × Fl)) : usedN (p :: fs) = secs p.2.now.length + usedN fs := by simp [usedN]
theorem usedN_append (a b : List (List UInt8 × Fl)) : usedN (a ++ b) = usedN a + usedN b := by simp [usedN]
theorem usedN_perm {a b : List (List UInt8 × Fl)} (h : a.Perm b) : usedN a = usedN b := by
  induction h with
  | nil => rfl
  | cons x _ ih => rw [usedN_cons, usedN_cons, ih]
  | swap x y l => simp only [usedN_cons]; omega
  | trans _ _ h1 h2 => exact h1.trans h2
theorem secs_mono {a b : Nat} (h : a ≤ b) : secs a ≤ secs b := by unfold secs; omega
theorem usedN_le {fs : List (List UInt8 × Fl)} {B : Nat} (h : ∀ p ∈ fs, p.2.now.length ≤ B) : usedN fs ≤ fs.length * secs B := by
  induction fs with
  | nil => simp [usedN]
  | cons p fs ih =>
    have h1 := secs_mono (h p (by simp))
    have h2 := ih fun q hq => h q (by simp [hq])
    rw [usedN_cons, List.length_cons, Nat.add_mul]
    omega

/-! ### Files by their names -/
theorem findF_some {fs : List (List UInt8 × Fl)} {k : List UInt8} {f : Fl} (h : findF fs k = some f) : (k, f) ∈ fs := by
  unfold findF at h
  cases hx : fs.find? fun p => decide (p.1 = k) with
  | none => rw [hx] at h; cases h
  | some p =>
    rw [hx] at h
    simp only [Option.map_some, Option.some.injEq] at h
    have h1 := List.find?_some hx
    simp only [decide_eq_true_eq] at h1
    have h2 := List.mem_of_find?_eq_some hx
    rw [← h, ← h1]
    exact h2
theorem findF_mem {fs : List (List UInt8 × Fl)} (hn : (fs.map (·.1)).Nodup) {k : List UInt8} {f : Fl} (h : (k, f) ∈ fs) : findF fs k = some f := by
  induction fs with
  | nil => cases h
  | cons p fs ih =>
    rw [List.map_cons, List.nodup_cons] at hn
    unfold findF
    rw [List.find?_cons]
    rcases List.mem_cons.1 h with rfl | h'
    · simp
    · have hne : p.1 ≠ k := fun e => hn.1 (List.mem_map.2 ⟨(k, f), h', e.symm⟩)
      simp only [hne, decide_false]
      exact ih hn.2 h'
theorem findF_perm {a b : List (List UInt8 × Fl)} (h : a.Perm b) (hn : (a.map (·.1)).Nodup) (k : List UInt8) : findF a k = findF b k := by
  have hn2 : (b.map (·.1)).Nodup := ((h.map _).nodup_iff).1 hn
  cases hb : findF b k with
  | some f => exact findF_mem hn (h.mem_iff.2 (findF_some hb))
  | none =>
    cases ha : findF a k with
    | none => rfl
    | some f => rw [findF_mem hn2 (h.mem_iff.1 (findF_some ha))] at hb; cases hb
theorem setF_perm {a b : List (List UInt8 × Fl)} (h : a.Perm b) (k : List UInt8) (f : Fl) : (setF a k f).Perm (setF b k f) := h.map _
theorem setF_append (a b : List (List UInt8 × Fl)) (k : List UInt8) (f : Fl) : setF (a ++ b) k f = setF a k f ++ setF b k f := List.map_append ..
theorem setF_cons_eq (k : List UInt8) (f f' : Fl) (b : List (List UInt8 × Fl)) : setF ((k, f) :: b) k f' = (k, f') :: setF b k f' := by simp [setF]
theorem setF_mid {a b : List (List UInt8 × Fl)} {k : List UInt8} {f f' : Fl} (hn : ((a ++ (k, f) :: b).map (·.1)).Nodup) : setF (a ++ (k, f) :: b) k f' = a ++ (k, f') :: b := by
  rw [List.map_append, List.map_cons, List.nodup_append, List.nodup_cons] at hn
  rw [setF_append, setF_cons_eq, setF_none fun p hp e => hn.2.2 p.1 (List.mem_map.2 ⟨p, hp, rfl⟩) k (by simp) e, setF_none fun p hp e => hn.2.1.1 (List.mem_map.2 ⟨p, hp, e⟩)]
theorem split_of {fs : List (List UInt8 × Fl)} {k : List UInt8} {f : Fl} (h : findF fs k = some f) : ∃ a b, fs = a ++ (k, f) :: b := List.append_of_mem (findF_some h)
theorem usedN_set {fs : List (List UInt8 × Fl)} (hn : (fs.map (·.1)).Nodup) {k : List UInt8} {f : Fl} (h : findF fs k = some f) (f' : Fl) : usedN (setF fs k f') + secs f.now.length = usedN fs + secs f'.now.length := by
  obtain ⟨a, b, rfl⟩ := split_of h
  rw [setF_mid hn, usedN_append, usedN_append, usedN_cons, usedN_cons]
  show _ + (secs f'.now.length + _) + _ = _ + (secs f.now.length + _) + _
  omega
theorem cutF_mid {a b : List (List UInt8 × Fl)} {k : List UInt8} {f : Fl} (hn : ((a ++ (k, f) :: b).map (·.1)).Nodup) : cutF (a ++ (k, f) :: b) k = a ++ b := by
  rw [List.map_append, List.map_cons, List.nodup_append, List.nodup_cons] at hn
  have h1 := cutF_of (fs := a) (k := k) fun p hp e => hn.2.2 p.1 (List.mem_map.2 ⟨p, hp, rfl⟩) k (by simp) e
  have h2 := cutF_of (fs := b) (k := k) fun p hp e => hn.2.1.1 (List.mem_map.2 ⟨p, hp, e⟩)
  unfold cutF at *
  rw [List.filter_append, h1, List.filter_cons, h2]
  simp
theorem usedN_cut {fs : List (List UInt8 × Fl)} (hn : (fs.map (·.1)).Nodup) {k : List UInt8} {f : Fl} (h : findF fs k = some f) : usedN (cutF fs k) + secs f.now.length = usedN fs := by
  obtain ⟨a, b, rfl⟩ := split_of h
  rw [cutF_mid hn, usedN_append, usedN_append, usedN_cons]
  show _ = _ + (secs f.now.length + _)
  omega

/-! ### A crash, file by file -/
def crL : List (List UInt8 × Fl) → List Bool → List (List UInt8 × Fl) × List Bool
  | [], ks => ([], ks)
  | (k, f) :: r, ks =>
    let t := tornG f.now f.synced ks (secs f.now.length)
    let q := crL r t.2
    ((k, ⟨t.1, t.1⟩) :: q.1, q.2)
theorem crL_keys : ∀ (ls : List (List UInt8 × Fl)) (ks : List Bool), (crL ls ks).1.map (·.1) = ls.map (·.1)
  | [], _ => rfl
  | (k, f) :: r, ks => by simp only [crL, List.map_cons, crL_keys r]
theorem crFold_crL : ∀ (ls dn : List (List UInt8 × Fl)) (st : Cr), st.files.Perm (dn ++ ls) → ((dn ++ ls).map (·.1)).Nodup →
    ((ls.map (·.1)).foldl crStep st).files.Perm (dn ++ (crL ls st.ks).1) ∧ ((ls.map (·.1)).foldl crStep st).used = st.used + (usedN (crL ls st.ks).1 : Nat) ∧ ((ls.map (·.1)).foldl crStep st).ks = (crL ls st.ks).2
  | [], dn, st, hp, hn => by simpa [crL, usedN] using hp
  | (k, f) :: r, dn, st, hp, hn => by
    have hnf : (st.files.map (·.1)).Nodup := ((hp.map _).nodup_iff).2 hn
    have hff : findF st.files k = some f := findF_mem hnf (hp.mem_iff.2 (by simp))
    obtain ⟨t, ht⟩ : ∃ t, t = tornG f.now f.synced st.ks (secs f.now.length) := ⟨_, rfl⟩
    have hst : crStep st k = ⟨setF st.files k ⟨t.1, t.1⟩, st.used + (secs t.1.length : Nat), t.2⟩ := by simp only [crStep, hff, Option.getD_some, ← ht]
    have hp2 : (crStep st k).files.Perm ((dn ++ [(k, ⟨t.1, t.1⟩)]) ++ r) := by
      rw [hst, List.append_assoc]
      have := setF_perm hp k ⟨t.1, t.1⟩
      rw [setF_mid hn] at this
      exact this
    have hn2 : (((dn ++ [(k, (⟨t.1, t.1⟩ : Fl))]) ++ r).map (·.1)).Nodup := by
      rw [List.append_assoc]
      simpa using hn
    obtain ⟨h1, h2, h3⟩ := crFold_crL r (dn ++ [(k, ⟨t.1, t.1⟩)]) (crStep st k) hp2 hn2
    rw [List.map_cons, List.foldl_cons]
    have hks : (crStep st k).ks = t.2 := by rw [hst]
    have hus : (crStep st k).used = st.used + (secs t.1.length : Nat) := by rw [hst]
    rw [hks] at h1 h2 h3
    rw [hus] at h2
    refine ⟨?_, ?_, ?_⟩
    · simp only [crL, ← ht]
      rw [List.append_assoc] at h1
      exact h1
    · rw [h2]
      simp only [crL, ← ht, usedN_cons]
      omega
    · simp only [crL, ← ht]
      exact h3
/-- files in order of their names -/
def inOrder (fs : List (List UInt8 × Fl)) : List (List UInt8 × Fl) := (Go.Proofs.Ytmocncadncgaaaa.sortN (fs.map (·.1))).map fun k => (k, (findF fs k).getD ⟨[], []⟩)
theorem inOrder_keys (fs : List (List UInt8 × Fl)) : (inOrder fs).map (·.1) = Go.Proofs.Ytmocncadncgaaaa.sortN (fs.map (·.1)) := by
  unfold inOrder
  rw [List.map_map]
  conv => rhs; rw [← List.map_id (Go.Proofs.Ytmocncadncgaaaa.sortN (fs.map (·.1)))]
  rfl
theorem inOrder_perm {fs : List (List UInt8 × Fl)} (hn : (fs.map (·.1)).Nodup) : fs.Perm (inOrder fs) := by
  have h1 : (Go.Proofs.Ytmocncadncgaaaa.sortN (fs.map (·.1))).Perm (fs.map (·.1)) := List.mergeSort_perm _ _
  have h2 := h1.map fun k => (k, (findF fs k).getD ⟨[], []⟩)
  rw [List.map_map] at h2
  have h3 : fs.map ((fun k => (k, (findF fs k).getD ⟨[], []⟩)) ∘ fun x => x.1) = fs := by
    conv => rhs; rw [← List.map_id fs]
    exact List.map_congr_left fun p hp => by
      simp only [Function.comp]
      rw [findF_mem hn (f := p.2) hp]
      rfl
  rw [h3] at h2
  exact h2.symm
theorem crash_crL {fs : List (List UInt8 × Fl)} (hn : (fs.map (·.1)).Nodup) (ks : List Bool) :
    (crFold fs ks (Go.Proofs.Ytmocncadncgaaaa.sortN (fs.map (·.1)))).files.Perm (crL (inOrder fs) ks).1 ∧ (crFold fs ks (Go.Proofs.Ytmocncadncgaaaa.sortN (fs.map (·.1)))).used = (usedN (crL (inOrder fs) ks).1 : Nat) := by
  have h := crFold_crL (inOrder fs) [] ⟨fs, 0, ks⟩ (inOrder_perm hn) (by rw [List.nil_append, inOrder_keys]; exact ((List.mergeSort_perm _ _).nodup_iff).2 hn)
  rw [inOrder_keys] at h
  refine ⟨by simpa [crFold] using h.1, ?_⟩
  have := h.2.1
  simpa [crFold] using this

/-! ### What lasts -/
/-- so many operations at most, and so many bytes -/
structure Dw (n B : Nat) (D : Dk) : Prop where
  nodup : (D.files.map (·.1)).Nodup
  cnt : D.files.length ≤ n
  few : ∀ p ∈ D.files, p.2.now.length ≤ B ∧ p.2.synced.length ≤ B
  used : D.used = (usedN D.files : Nat)
  ops : 0 ≤ D.ops ∧ D.ops ≤ n
  armed : 0 ≤ D.armed ∧ D.armed ≤ 9223372036854775807
theorem Dw.mono {n B n' B' : Nat} {D : Dk} (h : Dw n B D) (hn : n ≤ n') (hB : B ≤ B') : Dw n' B' D :=
  ⟨h.nodup, Nat.le_trans h.cnt hn, fun p hp => ⟨Nat.le_trans (h.few p hp).1 hB, Nat.le_trans (h.few p hp).2 hB⟩, h.used, ⟨h.ops.1, by have := h.ops.2; omega⟩, h.armed⟩
theorem Dw.fewB {n B : Nat} {D : Dk} (h : Dw n B D) (hB : B ≤ 1000000) : FewB D.files := fun p hp => ⟨Nat.le_trans (h.few p hp).1 hB, Nat.le_trans (h.few p hp).2 hB⟩
theorem Dw.sz {n B : Nat} {D : Dk} (h : Dw n B D) (hn : n ≤ 1000) : D.files.length ≤ 1000 := Nat.le_trans h.cnt hn
theorem Dw.ops' {n B : Nat} {D : Dk} (h : Dw n B D) (hn : n ≤ 1000) : 0 ≤ D.ops ∧ D.ops ≤ 1000000 := ⟨h.ops.1, by have := h.ops.2; omega⟩
theorem Dw.usedB {n B : Nat} {D : Dk} (h : Dw n B D) (hn : n ≤ 1000) (hB : B ≤ 1000000) : 0 ≤ D.used ∧ D.used ≤ 100000000 := by
  have h1 := usedN_le fun p hp => (h.few p hp).1
  have h2 : D.files.length * secs B ≤ 1000 * 62501 := Nat.mul_le_mul (Nat.le_trans h.cnt hn) (by unfold secs; omega)
  rw [h.used]
  omega
theorem Dw.find {n B : Nat} {D : Dk} (h : Dw n B D) {k : List UInt8} {f : Fl} (hf : findF D.files k = some f) : f.now.length ≤ B ∧ f.synced.length ≤ B := h.few (k, f) (findF_some hf)
theorem tornB {f : Fl} {B : Nat} (h : f.now.length ≤ B ∧ f.synced.length ≤ B) (ks : List Bool) : (tornG f.now f.synced ks (secs f.now.length)).1.length ≤ B := tornG_len h.2 h.1 _ (by unfold secs; omega)
theorem crL_few {B : Nat} : ∀ (ls : List (List UInt8 × Fl)) (ks : List Bool), (∀ p ∈ ls, p.2.now.length ≤ B ∧ p.2.synced.length ≤ B) → ∀ p ∈ (crL ls ks).1, p.2.now.length ≤ B ∧ p.2.synced.length ≤ B
  | [], _, _, p, hp => by simp [crL] at hp
  | (k, f) :: r, ks, h, p, hp => by
    simp only [crL, List.mem_cons] at hp
    rcases hp with rfl | hp
    · have := tornB (h (k, f) (by simp)) ks
      exact ⟨this, this⟩
    · exact crL_few r _ (fun q hq => h q (by simp [hq])) p hp
theorem Dw.crash {n B : Nat} {D : Dk} (h : Dw n B D) (ks : List Bool) : Dw n B (crashD ks D) := by
  unfold crashD
  split
  · exact h
  · obtain ⟨h1, h2⟩ := crash_crL h.nodup ks
    have hk : (crFold D.files ks (Go.Proofs.Ytmocncadncgaaaa.sortN (D.files.map (·.1)))).files.map (·.1) = D.files.map (·.1) := crFold_keys _ _ _
    have hl : (crFold D.files ks (Go.Proofs.Ytmocncadncgaaaa.sortN (D.files.map (·.1)))).files.length = D.files.length := by simpa using congrArg List.length hk
    refine ⟨?_, ?_, ?_, ?_, h.ops, (show (0 : Int) ≤ 0 ∧ (0 : Int) ≤ 9223372036854775807 by decide)⟩
    · show ((crFold D.files ks (Go.Proofs.Ytmocncadncgaaaa.sortN (D.files.map (·.1)))).files.map (·.1)).Nodup
      rw [hk]; exact h.nodup
    · show (crFold D.files ks (Go.Proofs.Ytmocncadncgaaaa.sortN (D.files.map (·.1)))).files.length ≤ n
      rw [hl]; exact h.cnt
    · intro p hp
      exact crL_few (inOrder D.files) ks (fun q hq => h.few q ((inOrder_perm h.nodup).mem_iff.2 hq)) p (h1.mem_iff.1 hp)
    · show (crFold D.files ks (Go.Proofs.Ytmocncadncgaaaa.sortN (D.files.map (·.1)))).used = (usedN (crFold D.files ks (Go.Proofs.Ytmocncadncgaaaa.sortN (D.files.map (·.1)))).files : Nat)
      rw [h2, usedN_perm h1]
theorem crash_room (ks : List Bool) (D : Dk) : (crashD ks D).room = D.room ∧ (crashD ks D).ops = D.ops ∧ (crashD ks D).keep = D.keep := by
  unfold crashD
  split <;> exact ⟨rfl, rfl, rfl⟩
theorem Dw.begins {n B : Nat} {D : Dk} (h : Dw n B D) : Dw (n + 1) B (beginsD D).2 := by
  have h1 := h.ops
  have h2 := h.armed
  have hb : ∀ a : Int, 0 ≤ a ∧ a ≤ 9223372036854775807 → Dw (n + 1) B { D with ops := D.ops + 1, armed := a } := fun a ha =>
    ⟨h.nodup, Nat.le_succ_of_le h.cnt, h.few, h.used, ⟨by show 0 ≤ D.ops + 1; omega, by show D.ops + 1 ≤ ((n + 1 : Nat) : Int); omega⟩, ha⟩
  simp only [beginsD]
  split
  · split
    · exact (hb 0 ⟨Int.le_refl _, by decide⟩).crash _
    · exact hb (D.armed - 1) ⟨by omega, by omega⟩
  · exact hb D.armed h2
theorem begins_room (D : Dk) : (beginsD D).2.room = D.room ∧ (beginsD D).2.ops = D.ops + 1 ∧ (beginsD D).2.keep = D.keep := by
  simp only [beginsD]
  split
  · split
    · exact crash_room _ _
    · exact ⟨rfl, rfl, rfl⟩
  · exact ⟨rfl, rfl, rfl⟩
theorem Dw.new (room : Int) : Dw 0 0 ⟨[], room, 0, 0, 0, [], false⟩ := ⟨.nil, Nat.le_refl _, fun p hp => (by cases hp), rfl, ⟨Int.le_refl _, Int.le_refl _⟩, (show (0 : Int) ≤ 0 ∧ (0 : Int) ≤ 9223372036854775807 by decide)⟩
theorem Dw.arm {n B : Nat} {D : Dk} (h : Dw n B D) (m : Int) (hm : m ≤ 9223372036854775807) (ks : List Bool) : Dw n B { D with armed := max m 0, keep := ks } :=
  ⟨h.nodup, h.cnt, h.few, h.used, h.ops, ⟨by show 0 ≤ max m 0; omega, by show max m 0 ≤ _; omega⟩⟩
theorem Dw.up {n B : Nat} {D : Dk} (h : Dw n B D) (b : Bool) : Dw n B { D with down := b } := ⟨h.nodup, h.cnt, h.few, h.used, h.ops, h.armed⟩
theorem keys_app_nodup {fs : List (List UInt8 × Fl)} {k : List UInt8} {f : Fl} (hn : (fs.map (·.1)).Nodup) (h : findF fs k = none) : ((fs ++ [(k, f)]).map (·.1)).Nodup := by
  rw [List.map_append, List.map_cons, List.map_nil, List.nodup_append]
  refine ⟨hn, by simp, fun a ha b hb => ?_⟩
  rw [List.mem_singleton] at hb
  subst hb
  obtain ⟨p, hp, rfl⟩ := List.mem_map.1 ha
  exact findF_none h p hp
theorem Dw.create {n B : Nat} {D : Dk} (h : Dw n B D) (k : List UInt8) (hc : (beginsD D).2.files.length ≤ n) : Dw (n + 1) B (createD D k).2 := by
  have hb := h.begins
  unfold createD
  split
  · exact hb
  · split
    · exact hb
    · split
      · exact hb
      · rename_i hf
        refine ⟨keys_app_nodup hb.nodup hf, by simp; omega, fun p hp => ?_, ?_, hb.ops, hb.armed⟩
        · rcases List.mem_append.1 hp with hp | hp
          · exact hb.few p hp
          · rw [List.mem_singleton] at hp; subst hp; exact ⟨Nat.zero_le _, Nat.zero_le _⟩
        · show (beginsD D).2.used = (usedN ((beginsD D).2.files ++ [(k, ⟨[], []⟩)]) : Nat)
          rw [usedN_append, hb.used]
          show _ = ((_ + (secs 0 + 0) : Nat) : Int)
          have : secs 0 = 0 := rfl
          omega
theorem begins_cnt (D : Dk) : (beginsD D).2.files.length = D.files.length := by
  have hc : ∀ ks D', (crashD ks D').files.length = D'.files.length := fun ks D' => by
    unfold crashD
    split
    · rfl
    · simpa using congrArg List.length (crFold_keys D'.files ks (Go.Proofs.Ytmocncadncgaaaa.sortN (D'.files.map (·.1))))
  simp only [beginsD]
  split
  · split
    · exact hc _ _
    · rfl
  · rfl
theorem Dw.create' {n B : Nat} {D : Dk} (h : Dw n B D) (k : List UInt8) : Dw (n + 1) B (createD D k).2 := h.create k (by rw [begins_cnt]; exact h.cnt)
theorem Dw.set {n B B' : Nat} {D : Dk} (h : Dw n B D) (hB : B ≤ B') {k : List UInt8} {f f' : Fl} (hf : findF D.files k = some f) (h1 : f'.now.length ≤ B' ∧ f'.synced.length ≤ B') (u : Int) (hu : u = D.used + (secs f'.now.length - secs f.now.length : Int)) : Dw n B' { D with files := setF D.files k f', used := u } := by
  refine ⟨?_, ?_, ?_, ?_, h.ops, h.armed⟩
  · show ((setF D.files k f').map (·.1)).Nodup
    rw [setF_keys]; exact h.nodup
  · show (setF D.files k f').length ≤ n
    simp only [setF, List.length_map]; exact h.cnt
  · intro p hp
    obtain ⟨q, hq, rfl⟩ := List.mem_map.1 hp
    split
    · exact h1
    · exact ⟨Nat.le_trans (h.few q hq).1 hB, Nat.le_trans (h.few q hq).2 hB⟩
  · show u = (usedN (setF D.files k f') : Nat)
    have := usedN_set h.nodup hf f'
    rw [hu, h.used]
    omega
theorem wr_len {room used : Int} {now bs : List UInt8} {at_ : Int} {B : Nat} (h : now.length ≤ B) : (wrG room used now at_ bs).2.2.length ≤ B + bs.length := by
  unfold wrG
  split
  · show now.length ≤ _; omega
  · split
    · show now.length ≤ _; omega
    · show (putAt now at_.toNat bs).length ≤ _
      rw [putAt_length (by omega)]
      omega
theorem wr_used {room used : Int} {now bs : List UInt8} {at_ : Int} : (wrG room used now at_ bs).2.1 = used + (secs (wrG room used now at_ bs).2.2.length - secs now.length : Int) := by
  unfold wrG
  split
  · show used = used + (secs now.length - secs now.length : Int); omega
  · split
    · show used = used + (secs now.length - secs now.length : Int); omega
    · show used + ((secs (max now.length (at_.toNat + bs.length)) : Int) - (secs now.length : Int)) = used + (secs (putAt now at_.toNat bs).length - secs now.length : Int)
      rw [putAt_length (by omega)]
theorem Dw.write {n B : Nat} {D : Dk} (h : Dw n B D) (k : List UInt8) (at_ : Option Int) (bs : List UInt8) : Dw (n + 1) (B + bs.length) (writeD D k at_ bs).2 := by
  have hb := h.begins
  unfold writeD
  split
  · exact hb.mono (Nat.le_refl _) (Nat.le_add_right _ _)
  · split
    · exact hb.mono (Nat.le_refl _) (Nat.le_add_right _ _)
    · rename_i f hf
      exact hb.set (f' := ⟨(wrG (beginsD D).2.room (beginsD D).2.used f.now (at_.getD f.now.length) bs).2.2, f.synced⟩) (Nat.le_add_right _ _) hf ⟨wr_len (hb.find hf).1, Nat.le_trans (hb.find hf).2 (Nat.le_add_right _ _)⟩ _ wr_used
theorem Dw.sync {n B : Nat} {D : Dk} (h : Dw n B D) (k : List UInt8) : Dw (n + 1) B (syncD D k).2 := by
  have hb := h.begins
  unfold syncD
  split
  · exact hb
  · split
    · exact hb
    · rename_i f hf
      exact hb.set (f' := ⟨f.now, f.now⟩) (Nat.le_refl _) hf ⟨(hb.find hf).1, (hb.find hf).1⟩ (beginsD D).2.used (by show (beginsD D).2.used = (beginsD D).2.used + (secs f.now.length - secs f.now.length : Int); omega)
theorem cutF_nodup {fs : List (List UInt8 × Fl)} {k : List UInt8} (h : (fs.map (·.1)).Nodup) : ((cutF fs k).map (·.1)).Nodup := h.sublist (List.filter_sublist.map _)
theorem Dw.gone {n B : Nat} {D : Dk} (h : Dw n B D) (k : List UInt8) : Dw n B (goneD D k) := by
  unfold goneD
  split
  · exact h
  · rename_i f hf
    refine ⟨cutF_nodup h.nodup, Nat.le_trans (List.length_filter_le _ _) h.cnt, fun p hp => h.few p (List.mem_filter.1 hp).1, ?_, h.ops, h.armed⟩
    show D.used - (secs f.now.length : Nat) = (usedN (cutF D.files k) : Nat)
    have := usedN_cut h.nodup hf
    rw [h.used]
    omega
theorem Dw.remove {n B : Nat} {D : Dk} (h : Dw n B D) (k : List UInt8) : Dw (n + 1) B (removeD D k).2 := by
  have hb := h.begins
  unfold removeD
  split
  · exact hb
  · split
    · exact hb
    · exact hb.gone k
end Go.Proofs.Ytmocncadncgaaaa

namespace Go.Proofs.Ytmocncadncgaaaa
set_option linter.unusedVariables false

theorem DiskAt.perm {db : Nat} {D : Dk} {h1 h2 : Hl} (h : DiskAt db D h1) (hp : h2.Perm h1) : DiskAt db D h2 := by
  obtain ⟨a, b, c, d, e, g, p1, p2, p3, p4, p5, p6⟩ := h
  exact ⟨a, b, c, d, e, g, p1, p2, p3, p4, p5, hp.trans p6⟩
theorem restartD_spec {F : Fm} {db : Nat} {D : Dk} {s : Hl} (hD : DiskAt db D s) : Spec Try.prog 22 #[.pointer (some ⟨db, 0, none⟩)] F s fun _ s' => DiskAt db { D with down := false } s' := by
  obtain ⟨mb, mc, ms, hf, kv, sk, hfl, hn, hbn, hold, own, hp⟩ := hD
  refine Spec.perm ?_ hp
  refine Spec.of (n := 6) (vs := [.pointer (some ⟨db, 0, none⟩)]) Try.func22 rfl Try.ntmps22 rfl ?_
  refine Vc.text (List.range 4) (sd [(0, .pure), (1, .pure), (2, .pure), (3, .eff)]) rfl ?_
  refine Rg.pure rfl rfl rfl (Pv.move rfl) ?_
  refine Rg.pure rfl rfl rfl (Pv.nilp rfl) ?_
  refine Rg.pure rfl rfl rfl (Pv.fa rfl) ?_
  refine Rg.callH rfl rfl rfl (run_callF rfl) (fun F' hF' => bstore_spec (mb := mb) (room := D.room) (used := D.used) (ops := D.ops) (armed := D.armed) (keep := kv) (down := D.down) false) rfl ?_
  rintro v5 _ rfl
  refine Rg.nil ?_
  exact Vc.fin (Vc.retsH rfl .nil ((show DiskAt db { D with down := false } ((db, dkO mb D.room D.used D.ops D.armed kv false) :: (mb, mapO kS ms mc) :: (hf ++ sk)) from ⟨mb, mc, ms, hf, kv, sk, hfl, hn, hbn, hold, own, .refl _⟩)) pulled)
theorem Spec.frame {P : Program} {f : Nat} {args : Array Value} {F : Fm} {h1 rest : Hl} {post : Value → Hl → Prop} (h : Spec P f args (frz F rest) h1 post) : Spec P f args F (h1 ++ rest) fun v s => ∃ s1, post v s1 ∧ s = s1 ++ rest := fun w hw => by
  obtain ⟨k1, k2, k3⟩ := Hp.frz_iff.1 hw
  exact (h w k1).mono fun e w' ⟨v, hl', he, hpost, hh⟩ => ⟨v, hl' ++ rest, he, ⟨hl', hpost, rfl⟩, Hp.frz_iff.2 ⟨hh, k2, k3⟩⟩
theorem crashD_spec {F : Fm} {db n B : Nat} {D : Dk} {s : Hl} (hD : DiskAt db D s) (hw : Dw n B D) (hn : n ≤ 1000) (hB : B ≤ 1000000) {kv : Value} {ks : List Bool} (hk : Arg boolE F kv ks) :
    Spec Try.prog 23 #[.pointer (some ⟨db, 0, none⟩), kv] F s fun _ s' => DiskAt db (crashD ks D) s' := by
  obtain ⟨kv0, sk, h0, hD0, own, hp⟩ := hD.parts
  refine (Spec.perm (Spec.frame (crash_spec (F := frz F sk) hD0 (hk.mono fun b o h => Or.inr h) (hw.sz hn) (hw.fewB hB))) hp).mono fun v s ⟨s1, h1, e⟩ => ?_
  subst e
  exact DiskAt.mk h1 (by rw [(crash_room ks D).2.2]; exact own) (.refl _)

theorem findF_cut {fs : List (List UInt8 × Fl)} {k k' : List UInt8} (h : k ≠ k') : findF (cutF fs k') k = findF fs k := by
  unfold findF cutF
  rw [List.find?_filter]
  congr 2
  funext p
  by_cases e : p.1 = k
  · simp [e, h]
  · simp [e]
def renameD (D : Dk) (k to : List UInt8) : Int × Dk := if (beginsD D).1 = 7 then (7, (beginsD D).2) else match findF (beginsD D).2.files k with
  | .none => (4, (beginsD D).2)
  | .some f => if mayN ⟨to.toArray⟩ = false then (1, (beginsD D).2) else if k = to then (0, (beginsD D).2)
    else (0, { goneD (beginsD D).2 to with files := cutF (goneD (beginsD D).2 to).files k ++ [(to, f)] })
theorem goneD_find {D : Dk} {k to : List UInt8} (h : k ≠ to) : findF (goneD D to).files k = findF D.files k := by
  unfold goneD
  split
  · rfl
  · exact findF_cut h
theorem goneD_none {D : Dk} {to : List UInt8} : findF (goneD D to).files to = none := by
  unfold goneD
  split
  · assumption
  · show findF (cutF D.files to) to = none
    unfold findF cutF
    rw [List.find?_filter, Option.map_eq_none_iff, List.find?_eq_none]
    intro p hp
    simp
theorem findF_none_cut {fs : List (List UInt8 × Fl)} {k k' : List UInt8} (h : findF fs k = none) : findF (cutF fs k') k = none := by
  by_cases e : k = k'
  · subst e
    unfold findF cutF
    rw [List.find?_filter, Option.map_eq_none_iff, List.find?_eq_none]
    intro p hp
    simp
  · rw [findF_cut e]; exact h
theorem kS_ne {a b : List UInt8} : ((⟨a.toArray⟩ : ByteArray) = ⟨b.toArray⟩) ↔ a = b := ⟨fun h => by simpa using h, fun h => by rw [h]⟩
theorem rename_spec {F : Fm} {db n B : Nat} {D : Dk} {s : Hl} (hD : DiskAt db D s) (hw : Dw n B D) (hnn : n < 1000) (hB : B ≤ 1000000) (k to : List UInt8) :
    Spec Try.prog 27 #[.pointer (some ⟨db, 0, Option.none⟩), kS k, kS to] F s fun v s' => v = .int .i64 (renameD D k to).1 ∧ DiskAt db (renameD D k to).2 s' := by
  have hwb := hw.begins
  have hub := hwb.usedB (by omega) hB
  refine Spec.of (n := 41) (vs := [.pointer (some ⟨db, 0, Option.none⟩), kS k, kS to]) Try.func27 rfl Try.ntmps27 rfl ?_
  refine Vc.seq ?_
  refine Vc.text (List.range 1) (sd [(0, .pure)]) rfl ?_
  refine Rg.pure rfl rfl rfl (Pv.assign rfl) ?_
  refine Rg.nil ?_
  refine Vc.seq ?_
  refine Vc.text (List.range 8) (sd [(0, .pure), (1, .pure), (2, .eff), (3, .pure), (4, .pure), (5, .pure), (6, .pure), (7, .pure)]) rfl ?_
  refine Rg.pure rfl rfl rfl (Pv.move rfl) ?_
  refine Rg.pure rfl rfl rfl (Pv.move rfl) ?_
  refine Rg.callH rfl rfl rfl (run_callF rfl) (fun F' hF' => on_spec (F := F') hD (hw.sz (by omega)) (hw.fewB hB) (hw.ops' (by omega)) hw.armed.2 k) rfl ?_
  rintro _ s12 ⟨p, e, rfl, hcase⟩
  refine Rg.pure rfl rfl rfl (Pv.move rfl) ?_
  refine Rg.pure rfl rfl rfl (Pv.extract rfl rfl) ?_
  refine Rg.pure rfl rfl rfl (Pv.extract rfl rfl) ?_
  refine Rg.pure rfl rfl rfl (Pv.assign rfl) ?_
  refine Rg.pure rfl rfl rfl (Pv.assign rfl) ?_
  refine Rg.nil ?_
  refine Vc.seq ?_
  refine Vc.block ?_
  refine Vc.seq ?_
  refine Vc.text (List.range 3) (sd [(0, .pure), (1, .pure), (2, .pure)]) rfl ?_
  refine Rg.pure rfl rfl rfl (Pv.move rfl) ?_
  refine Rg.pure rfl rfl rfl (Pv.neq rfl rfl) ?_
  refine Rg.pure rfl rfl rfl (Pv.assign rfl) ?_
  refine Rg.nil ?_
  refine Vc.cond rfl (fun h15 => ?_) (fun h15 => ?_)
  ·
    simp only [bne_iff_ne, ne_eq] at h15
    have hres : renameD D k to = (e, (beginsD D).2) ∧ DiskAt db (beginsD D).2 s12 := by
      rcases hcase with ⟨h1, rfl, h2⟩ | ⟨h1, rfl, h2, h3⟩ | ⟨_, h2, _⟩
      · exact ⟨by rw [renameD, if_pos h1], h2⟩
      · exact ⟨by rw [renameD, if_neg (by omega), h2], h3⟩
      · exact absurd h2 h15
    refine Vc.seq ?_
    refine Vc.text (List.range 2) (sd [(0, .pure), (1, .pure)]) rfl ?_
    refine Rg.pure rfl rfl rfl (Pv.move rfl) ?_
    refine Rg.pure rfl rfl rfl (Pv.assign rfl) ?_
    refine Rg.nil ?_
    exact Vc.ret (Vc.retsH rfl (.cons (.tmp rfl) (.nil)) (⟨by rw [hres.1]; rfl, by rw [hres.1]; exact hres.2⟩) pulled)
  ·
    simp only [bne_eq_false_iff_eq] at h15
    subst h15
    obtain ⟨hb0, _, fb, rfl, hfo⟩ := (hcase.resolve_left (fun h => by cases h.2.1)).resolve_left (fun h => by cases h.2.1)
    have hat := hfo.at
    obtain ⟨mb, mc, ms, kv, m, f, hM, hmm, hmk, hmv, hff⟩ := hfo.m
    have hrd : renameD D k to = if mayN ⟨to.toArray⟩ = false then (1, (beginsD D).2) else if k = to then (0, (beginsD D).2) else (0, { goneD (beginsD D).2 to with files := cutF (goneD (beginsD D).2 to).files k ++ [(to, f)] }) := by rw [renameD, if_neg (by omega), hff]
    refine Vc.seq ?_
    refine Vc.text (List.range 4) (sd [(0, .pure), (1, .eff), (2, .pure), (3, .pure)]) rfl ?_
    refine Rg.pure rfl rfl rfl (Pv.move rfl) ?_
    refine Rg.callP rfl rfl rfl (run_callF rfl) (may_spec _ ⟨to.toArray⟩) ?_
    rintro _ rfl
    refine Rg.pure rfl rfl rfl (Pv.not rfl) ?_
    refine Rg.pure rfl rfl rfl (Pv.assign rfl) ?_
    refine Rg.nil ?_
    refine Vc.cond rfl (fun h19 => ?_) (fun h19 => ?_)
    ·
      simp only [Bool.not_eq_true'] at h19
      refine Vc.seq ?_
      refine Vc.text (List.range 1) (sd [(0, .pure)]) rfl ?_
      refine Rg.pure rfl rfl rfl (Pv.assign rfl) ?_
      refine Rg.nil ?_
      exact Vc.ret (Vc.retsH rfl (.cons (.tmp rfl) (.nil)) (⟨by rw [hrd, if_pos h19]; rfl, by rw [hrd, if_pos h19]; exact hat⟩) pulled)
    ·
      simp only [Bool.not_eq_false'] at h19
      rw [if_neg (by rw [h19]; decide)] at hrd
      refine Vc.seq ?_
      refine Vc.text (List.range 4) (sd [(0, .pure), (1, .pure), (2, .pure), (3, .pure)]) rfl ?_
      refine Rg.pure rfl rfl rfl (Pv.move rfl) ?_
      refine Rg.pure rfl rfl rfl (Pv.move rfl) ?_
      refine Rg.pure rfl rfl rfl (Pv.eqlS rfl rfl) ?_
      refine Rg.pure rfl rfl rfl (Pv.assign rfl) ?_
      refine Rg.nil ?_
      refine Vc.cond rfl (fun h23 => ?_) (fun h23 => ?_)
      ·
        simp only [decide_eq_true_eq] at h23
        rw [kS_ne] at h23
        refine Vc.seq ?_
        refine Vc.text (List.range 1) (sd [(0, .pure)]) rfl ?_
        refine Rg.pure rfl rfl rfl (Pv.assign rfl) ?_
        refine Rg.nil ?_
        exact Vc.ret (Vc.retsH rfl (.cons (.tmp rfl) (.nil)) (⟨by rw [hrd, if_pos h23]; rfl, by rw [hrd, if_pos h23]; exact hat⟩) pulled)
      ·
        simp only [decide_eq_false_iff_not] at h23
        rw [kS_ne] at h23
        rw [if_neg h23] at hrd
        refine Vc.skip ?_
        refine Vc.blk ?_
        refine Vc.seq ?_
        refine Vc.text (List.range 3) (sd [(0, .pure), (1, .pure), (2, .eff)]) rfl ?_
        refine Rg.pure rfl rfl rfl (Pv.move rfl) ?_
        refine Rg.pure rfl rfl rfl (Pv.move rfl) ?_
        refine Rg.callH rfl rfl rfl (run_callF rfl) (fun F' hF' => gone_spec (F := F') hM (hwb.fewB hB) (by omega) to) rfl ?_
        rintro v29 s29 hM29
        obtain ⟨hf, sk, hfl, hn, hbn, hold, own, hp⟩ := hM29
        have hmm2 : m ∈ cutM ms to := List.mem_filter.2 ⟨hmm, by simpa [hmk] using h23⟩
        obtain ⟨fb2, f2, vn, vs, s1, s2, rest, hmv2, hff2, hperm, o1, o2, hc⟩ := hfl.pick hn hmm2
        rw [hmv] at hmv2
        cases hmv2
        rw [hmk, goneD_find h23, hff] at hff2
        cases hff2
        rw [hmk] at hc
        have hno : ∀ x ∈ cutM (cutM ms to) k, x.k ≠ to := fun x hx => by simpa using (List.mem_filter.1 (List.mem_filter.1 hx).1).2
        refine Rg.nil ?_
        refine Vc.seq ?_
        refine Vc.perm ((List.Perm.of_eq (List.append_nil s29)).trans hp) ?_
        refine Vc.text (List.range 6) (sd [(0, .pure), (1, .pure), (2, .pure), (3, .read), (4, .pure), (5, .eff)]) rfl ?_
        refine Rg.pure rfl rfl rfl (Pv.move rfl) ?_
        refine Rg.pure rfl rfl rfl (Pv.nilp rfl) ?_
        refine Rg.pure rfl rfl rfl (Pv.fa rfl) ?_
        refine Rg.read rfl rfl rfl (Ev.ld rfl rfl) ?_
        refine Rg.pure rfl rfl rfl (Pv.move rfl) ?_
        refine Rg.mapDel (ms := cutM ms to) (k := k) rfl rfl rfl rfl rfl ⟨m, hmm2, hmk⟩ hn rfl ?_
        refine Rg.nil ?_
        refine Vc.seq ?_
        refine Vc.text (List.range 7) (sd [(0, .pure), (1, .pure), (2, .pure), (3, .read), (4, .pure), (5, .pure), (6, .eff)]) rfl ?_
        refine Rg.pure rfl rfl rfl (Pv.move rfl) ?_
        refine Rg.pure rfl rfl rfl (Pv.nilp rfl) ?_
        refine Rg.pure rfl rfl rfl (Pv.fa rfl) ?_
        refine Rg.read rfl rfl rfl (Ev.ld rfl rfl) ?_
        refine Rg.pure rfl rfl rfl (Pv.move rfl) ?_
        refine Rg.pure rfl rfl rfl (Pv.move rfl) ?_
        refine Rg.mapPut (ms := cutM (cutM ms to) k) (k := to) rfl rfl rfl rfl rfl rfl hno (cutM_keys hn) rfl ?_
        refine Rg.nil ?_
        refine Vc.seq ?_
        refine Vc.text (List.range 1) (sd [(0, .pure)]) rfl ?_
        refine Rg.pure rfl rfl rfl (Pv.assign rfl) ?_
        refine Rg.nil ?_
        exact Vc.ret (Vc.retsH rfl (.cons (.tmp rfl) (.nil)) (⟨by rw [hrd]; rfl, (show DiskAt db (renameD D k to).2 ((db, dkO mb (goneD (beginsD D).2 to).room (goneD (beginsD D).2 to).used (goneD (beginsD D).2 to).ops (goneD (beginsD D).2 to).armed kv (goneD (beginsD D).2 to).down) :: (mb, mapO kS (cutM (cutM ms to) k ++ [⟨to, .pointer (some ⟨fb, 0, Option.none⟩), mc⟩]) (mc + 1)) :: (hf ++ sk)) from by
          rw [hrd]
          obtain ⟨hf', hpf, hfl'⟩ := hc.snoc (k := to) (f := f) (b := fb) (born := mc) (vn := vn) (vs := vs) o1 o2
          refine ⟨mb, mc + 1, _, hf', kv, sk, hfl', ?_, ?_, ?_, own, ?_⟩
          · rw [List.map_append, List.map_cons, List.map_nil, List.nodup_append]
            exact ⟨cutM_keys hn, by simp, fun a ha' b hb' => by
              obtain ⟨x, hx, rfl⟩ := List.mem_map.1 ha'
              rw [List.mem_singleton] at hb'
              subst hb'
              exact hno x hx⟩
          · rw [List.map_append, List.map_cons, List.map_nil, List.nodup_append]
            exact ⟨cutM_born hbn, by simp, fun a ha' b hb' => by
              obtain ⟨x, hx, rfl⟩ := List.mem_map.1 ha'
              rw [List.mem_singleton] at hb'
              subst hb'
              have := cutM_old hold x hx
              omega⟩
          · intro x hx
            rcases List.mem_append.1 hx with h | h
            · have := cutM_old hold x h
              omega
            · rw [List.mem_singleton] at h
              subst h
              exact Nat.lt_succ_self mc
          · exact (((hperm.trans hpf.symm).append_right sk).cons _).cons _)⟩) pulled)
theorem Dw.rename {n B : Nat} {D : Dk} (h : Dw n B D) (k to : List UInt8) : Dw (n + 1) B (renameD D k to).2 := by
  have hb := h.begins
  have hl : (beginsD D).2.files.length ≤ n := by rw [begins_cnt]; exact h.cnt
  unfold renameD
  split
  · exact hb
  · split
    · exact hb
    · rename_i f hf
      split
      · exact hb
      · split
        · exact hb
        · rename_i hne
          have hg := hb.gone to
          have hfg : findF (goneD (beginsD D).2 to).files k = some f := by rw [goneD_find hne]; exact hf
          have hno : findF (cutF (goneD (beginsD D).2 to).files k) to = none := findF_none_cut goneD_none
          have hgl : (goneD (beginsD D).2 to).files.length ≤ (beginsD D).2.files.length := by
            unfold goneD
            split
            · exact Nat.le_refl _
            · exact List.length_filter_le _ _
          refine ⟨keys_app_nodup (cutF_nodup hg.nodup) hno, ?_, fun p hp => ?_, ?_, hg.ops, hg.armed⟩
          · have := List.length_filter_le (fun p : List UInt8 × Fl => !decide (p.1 = k)) (goneD (beginsD D).2 to).files
            show (cutF (goneD (beginsD D).2 to).files k ++ [(to, f)]).length ≤ n + 1
            unfold cutF
            rw [List.length_append, List.length_singleton]
            omega
          · rcases List.mem_append.1 hp with hp | hp
            · exact hg.few p (List.mem_filter.1 hp).1
            · rw [List.mem_singleton] at hp; subst hp; exact hb.find hf
          · show (goneD (beginsD D).2 to).used = (usedN (cutF (goneD (beginsD D).2 to).files k ++ [(to, f)]) : Nat)
            have := usedN_cut hg.nodup hfg
            rw [hg.used, usedN_append, usedN_cons]
            show _ = ((_ + (secs f.now.length + 0) : Nat) : Int)
            omega
/-- the names -/
def listD (D : Dk) : List (List UInt8) × Int := if (beginsD D).1 = 7 then ([], 7) else (Go.Proofs.Ytmocncadncgaaaa.sortN ((beginsD D).2.files.map (·.1)), 0)
theorem list_spec {F : Fm} {db n B : Nat} {D : Dk} {s : Hl} (hD : DiskAt db D s) (hw : Dw n B D) (hnn : n < 1000) (hB : B ≤ 1000000) :
    Spec Try.prog 28 #[.pointer (some ⟨db, 0, Option.none⟩)] F s fun v s' => ∃ u s1 s2, v = .tuple #[u, .int .i64 (listD D).2] ∧ Own strE u (listD D).1 s1 ∧ DiskAt db (beginsD D).2 s2 ∧ s' = s1 ++ s2 := by
  have hwb := hw.begins
  have hcl := hwb.cnt
  refine Spec.of (n := 16) (vs := [.pointer (some ⟨db, 0, Option.none⟩)]) Try.func28 rfl Try.ntmps28 rfl ?_
  refine Vc.seq ?_
  refine Vc.text (List.range 2) (sd [(0, .pure), (1, .pure)]) rfl ?_
  refine Rg.pure rfl rfl rfl (Pv.assign rfl) ?_
  refine Rg.pure rfl rfl rfl (Pv.assign rfl) ?_
  refine Rg.nil ?_
  refine Vc.seq ?_
  refine Vc.seq ?_
  refine Vc.text (List.range 3) (sd [(0, .pure), (1, .eff), (2, .pure)]) rfl ?_
  refine Rg.pure rfl rfl rfl (Pv.move rfl) ?_
  refine Rg.callH rfl rfl rfl (run_callF rfl) (fun F' hF' => begins_spec (F := F') hD (hw.sz (by omega)) (hw.fewB hB) (hw.ops' (by omega)) hw.armed.2) rfl ?_
  rintro _ s6 ⟨rfl, hD6⟩
  have hb70 : (beginsD D).1 = 7 ∨ (beginsD D).1 = 0 := by show (if _ then 7 else 0 : Int) = 7 ∨ (if _ then 7 else 0 : Int) = 0; split <;> simp
  refine Rg.pure rfl rfl rfl (Pv.assign rfl) ?_
  refine Rg.nil ?_
  refine Vc.seq ?_
  refine Vc.text (List.range 2) (sd [(0, .pure), (1, .pure)]) rfl ?_
  refine Rg.pure rfl rfl rfl (Pv.move rfl) ?_
  refine Rg.pure rfl rfl rfl (Pv.neq rfl rfl) ?_
  refine Rg.nil ?_
  refine Vc.cond rfl (fun h8 => ?_) (fun h8 => ?_)
  ·
    simp only [bne_iff_ne, ne_eq] at h8
    have hb7 := hb70.resolve_right h8
    refine Vc.seq ?_
    refine Vc.text (List.range 3) (sd [(0, .pure), (1, .pure), (2, .pure)]) rfl ?_
    refine Rg.pure rfl rfl rfl (Pv.move rfl) ?_
    refine Rg.pure rfl rfl rfl (Pv.assign rfl) ?_
    refine Rg.pure rfl rfl rfl (Pv.assign rfl) ?_
    refine Rg.nil ?_
    exact Vc.ret (Vc.retsH rfl (.cons (.tmp rfl) (.cons (.tmp rfl) (.nil))) (⟨.slice Option.none 0 0, [], s6, by rw [listD, if_pos hb7, hb7]; rfl, by rw [listD, if_pos hb7]; exact .nil, hD6, rfl⟩) pulled)
  ·
    simp only [bne_eq_false_iff_eq] at h8
    obtain ⟨mb, mc, ms, hf, kv, sk, hfl, hn, hbn, hold, own, hp⟩ := hD6
    have hml : ms.length ≤ 1000 := by have := congrArg List.length hfl.keys; simp at this; omega
    refine Vc.perm ((List.Perm.of_eq (List.append_nil s6)).trans hp) ?_
    refine Vc.skip ?_
    refine Vc.seq ?_
    refine Vc.text (List.range 8) (sd [(0, .pure), (1, .pure), (2, .pure), (3, .read), (4, .eff), (5, .eff), (6, .pure), (7, .pure)]) rfl ?_
    refine Rg.pure rfl rfl rfl (Pv.move rfl) ?_
    refine Rg.pure rfl rfl rfl (Pv.nilp rfl) ?_
    refine Rg.pure rfl rfl rfl (Pv.fa rfl) ?_
    refine Rg.read rfl rfl rfl (Ev.ld rfl rfl) ?_
    refine Rg.callA rfl rfl rfl (run_callF rfl) keysF_spec ?_
    rintro _ _ ⟨bx, rfl, rfl⟩
    refine Rg.callH rfl rfl rfl (run_callF rfl) (fun F' hF' => sortedS_spec (F := F') (Sp := fun pre => pre.length ≤ ms.length) (S := fun ys => ys.Perm (ms.map (·.k))) (lb := [.pointer (some ⟨bx, 0, Option.none⟩)]) (hi := [(bx, cellsO [.map (some mb)] 65)]) (fun F'' h => keys_iter (h _ _ (hF' mb _ (.inl (by simp)))) hold hbn) (fun pre x h => by simp at h; omega) (fun ys h => by have := h.length_eq; simp at this; omega)) rfl ?_
    rintro v15 s15 ⟨ys, hys, own15⟩
    have hsn : Go.Proofs.Ytmocncadncgaaaa.sortN ys = Go.Proofs.Ytmocncadncgaaaa.sortN ((beginsD D).2.files.map (·.1)) := sortN_perm (by rw [← hfl.keys]; exact hys)
    rw [hsn] at own15
    refine Rg.pure rfl rfl rfl (Pv.assign rfl) ?_
    refine Rg.pure rfl rfl rfl (Pv.assign rfl) ?_
    refine Rg.nil ?_
    exact Vc.ret (Vc.retsH rfl (.cons (.tmp rfl) (.cons (.tmp rfl) (.nil))) (⟨v15, s15, _, by rw [listD, if_neg (by omega)]; rfl, by rw [listD, if_neg (by omega)]; exact own15, (show DiskAt db (beginsD D).2 ((db, dkO mb (beginsD D).2.room (beginsD D).2.used (beginsD D).2.ops (beginsD D).2.armed kv (beginsD D).2.down) :: (mb, mapO kS ms mc) :: (hf ++ sk)) from ⟨mb, mc, ms, hf, kv, sk, hfl, hn, hbn, hold, own, .refl _⟩), rfl⟩) pulled)
end Go.Proofs.Ytmocncadncgaaaa

namespace Go.Proofs.Ytmocncadncgaaaa
set_option linter.unusedVariables false

section
variable {F : Fm} {db n B : Nat} {D D' : Dk} {s : Hl} {e m : Int}
abbrev d0 (room ops : Int) : Dk := ⟨[], room, 0, ops, 0, [], false⟩
theorem new_w (F : Fm) (room r : Int) (hr : max room 0 = r) : Spec Try.prog 13 #[.int .i64 room] F [] fun v s => ∃ db, v = .pointer (some ⟨db, 0, none⟩) ∧ DiskAt db (d0 r 0) s ∧ Dw 0 0 (d0 r 0) :=
  (new_spec F room).mono fun v s ⟨db, h1, h2⟩ => ⟨db, h1, hr ▸ h2, Dw.new _⟩
theorem create_w (hD : DiskAt db D s) (hw : Dw n B D) (hn : n < 1000) (hB : B ≤ 1000000) (k : List UInt8) (hE : createD D k = (e, D')) :
    Spec Try.prog 14 #[.pointer (some ⟨db, 0, none⟩), kS k] F s fun v s' => v = .int .i64 e ∧ DiskAt db D' s' ∧ Dw (n + 1) B D' :=
  (create_spec hD (hw.sz (by omega)) (hw.fewB hB) (hw.ops' (by omega)) hw.armed.2 k).mono fun v s ⟨h1, h2⟩ => by
    have h3 := hw.create' k
    rw [hE] at h1 h2 h3
    exact ⟨h1, h2, h3⟩
theorem append_w (hD : DiskAt db D s) (hw : Dw n B D) (hn : n < 1000) (hB : B ≤ 1000000) (k : List UInt8) {vb : Value} {bs : List UInt8} (hb : Arg byteE F vb bs) (hbl : bs.length ≤ 1000000) (hE : writeD D k none bs = (e, D')) :
    Spec Try.prog 15 #[.pointer (some ⟨db, 0, none⟩), kS k, vb] F s fun v s' => v = .int .i64 e ∧ DiskAt db D' s' ∧ Dw (n + 1) (B + bs.length) D' :=
  (append_spec hD (hw.sz (by omega)) (hw.fewB hB) (hw.ops' (by omega)) hw.armed.2 (hw.begins.fewB hB) (by have := hw.begins.usedB (by omega) hB; omega) k hb hbl).mono fun v s ⟨h1, h2⟩ => by
    have h3 := hw.write k none bs
    rw [hE] at h1 h2 h3
    exact ⟨h1, h2, h3⟩
theorem writeAt_w (hD : DiskAt db D s) (hw : Dw n B D) (hn : n < 1000) (hB : B ≤ 1000000) (k : List UInt8) {vb : Value} {bs : List UInt8} (at_ : Int) (hb : Arg byteE F vb bs) (hbl : bs.length ≤ 1000000) (hE : writeD D k (some at_) bs = (e, D')) :
    Spec Try.prog 26 #[.pointer (some ⟨db, 0, none⟩), kS k, .int .i64 at_, vb] F s fun v s' => v = .int .i64 e ∧ DiskAt db D' s' ∧ Dw (n + 1) (B + bs.length) D' :=
  (writeAt_spec hD (hw.sz (by omega)) (hw.fewB hB) (hw.ops' (by omega)) hw.armed.2 (hw.begins.fewB hB) (by have := hw.begins.usedB (by omega) hB; omega) k at_ hb hbl).mono fun v s ⟨h1, h2⟩ => by
    have h3 := hw.write k (some at_) bs
    rw [hE] at h1 h2 h3
    exact ⟨h1, h2, h3⟩
theorem sync_w (hD : DiskAt db D s) (hw : Dw n B D) (hn : n < 1000) (hB : B ≤ 1000000) (k : List UInt8) (hE : syncD D k = (e, D')) :
    Spec Try.prog 25 #[.pointer (some ⟨db, 0, none⟩), kS k] F s fun v s' => v = .int .i64 e ∧ DiskAt db D' s' ∧ Dw (n + 1) B D' :=
  (sync_spec hD (hw.sz (by omega)) (hw.fewB hB) (hw.ops' (by omega)) hw.armed.2 (hw.begins.fewB hB) k).mono fun v s ⟨h1, h2⟩ => by
    have h3 := hw.sync k
    rw [hE] at h1 h2 h3
    exact ⟨h1, h2, h3⟩
theorem remove_w (hD : DiskAt db D s) (hw : Dw n B D) (hn : n < 1000) (hB : B ≤ 1000000) (k : List UInt8) (hE : removeD D k = (e, D')) :
    Spec Try.prog 30 #[.pointer (some ⟨db, 0, none⟩), kS k] F s fun v s' => v = .int .i64 e ∧ DiskAt db D' s' ∧ Dw (n + 1) B D' :=
  (remove_spec hD (hw.sz (by omega)) (hw.fewB hB) (hw.ops' (by omega)) hw.armed.2 (hw.begins.fewB hB) (by have := hw.begins.usedB (by omega) hB; omega) k).mono fun v s ⟨h1, h2⟩ => by
    have h3 := hw.remove k
    rw [hE] at h1 h2 h3
    exact ⟨h1, h2, h3⟩
theorem rename_w (hD : DiskAt db D s) (hw : Dw n B D) (hn : n < 1000) (hB : B ≤ 1000000) (k to : List UInt8) (hE : renameD D k to = (e, D')) :
    Spec Try.prog 27 #[.pointer (some ⟨db, 0, none⟩), kS k, kS to] F s fun v s' => v = .int .i64 e ∧ DiskAt db D' s' ∧ Dw (n + 1) B D' :=
  (rename_spec hD hw hn hB k to).mono fun v s ⟨h1, h2⟩ => by
    have h3 := hw.rename k to
    rw [hE] at h1 h2 h3
    exact ⟨h1, h2, h3⟩
theorem size_w (hD : DiskAt db D s) (hw : Dw n B D) (hn : n < 1000) (hB : B ≤ 1000000) (k : List UInt8) (hE : sizeD D k = (m, e)) (hD' : (beginsD D).2 = D') :
    Spec Try.prog 16 #[.pointer (some ⟨db, 0, none⟩), kS k] F s fun v s' => v = .tuple #[.int .i64 m, .int .i64 e] ∧ DiskAt db D' s' ∧ Dw (n + 1) B D' :=
  (size_spec hD (hw.sz (by omega)) (hw.fewB hB) (hw.ops' (by omega)) hw.armed.2 k).mono fun v s ⟨h1, h2⟩ => by
    have h3 := hw.begins
    rw [hE] at h1
    rw [hD'] at h2 h3
    exact ⟨h1, h2, h3⟩
theorem readAt_w (hD : DiskAt db D s) (hw : Dw n B D) (hn : n < 1000) (hB : B ≤ 1000000) (k : List UInt8) (at_ q : Int) {bs : List UInt8} (hE : readD D k at_ q = (bs, e)) (hD' : (beginsD D).2 = D') :
    Spec Try.prog 24 #[.pointer (some ⟨db, 0, none⟩), kS k, .int .i64 at_, .int .i64 q] F s fun v s' => ∃ u s1 s2, v = .tuple #[u, .int .i64 e] ∧ Own byteE u bs s1 ∧ DiskAt db D' s2 ∧ Dw (n + 1) B D' ∧ s' = s1 ++ s2 :=
  (readAt_spec hD (hw.sz (by omega)) (hw.fewB hB) (hw.ops' (by omega)) hw.armed.2 (hw.begins.fewB hB) k at_ q).mono fun v s ⟨u, s1, s2, h1, h2, h3, h4⟩ => by
    have h5 := hw.begins
    rw [hE] at h1 h2
    rw [hD'] at h3 h5
    exact ⟨u, s1, s2, h1, h2, h3, h5, h4⟩
theorem crash_w (hD : DiskAt db D s) (hw : Dw n B D) (hn : n < 1000) (hB : B ≤ 1000000) {kv : Value} {ks : List Bool} (hk : Arg boolE F kv ks) (hE : crashD ks D = D') :
    Spec Try.prog 23 #[.pointer (some ⟨db, 0, none⟩), kv] F s fun _ s' => DiskAt db D' s' ∧ Dw n B D' :=
  (crashD_spec hD hw (by omega) hB hk).mono fun v s h1 => by
    have h2 := hw.crash ks
    rw [hE] at h1 h2
    exact ⟨h1, h2⟩
theorem restart_w (hD : DiskAt db D s) (hw : Dw n B D) : Spec Try.prog 22 #[.pointer (some ⟨db, 0, none⟩)] F s fun _ s' => DiskAt db { D with down := false } s' ∧ Dw n B { D with down := false } :=
  (restartD_spec hD).mono fun v s h1 => ⟨h1, hw.up false⟩
theorem arm_w (hD : DiskAt db D s) (hw : Dw n B D) (q : Int) (hq : q ≤ 9223372036854775807) {kv : Value} {ks : List Bool} (hk : Arg boolE F kv ks) (hkl : ks.length < 4294967296) :
    Spec Try.prog 19 #[.pointer (some ⟨db, 0, none⟩), .int .i64 q, kv] F s fun _ s' => DiskAt db { D with armed := max q 0, keep := ks } s' ∧ Dw n B { D with armed := max q 0, keep := ks } :=
  (arm_spec hD q hk hkl).mono fun v s h1 => ⟨h1, hw.arm q hq ks⟩
end

/-! ### Disks with one file -/
theorem begins_up {D : Dk} (ha : D.armed = 0) (hd : D.down = false) : beginsD D = (0, { D with ops := D.ops + 1 }) := by
  simp only [beginsD, ha, hd]
  rfl
theorem begins_dn {D : Dk} (ha : D.armed = 0) (hd : D.down = true) : beginsD D = (7, { D with ops := D.ops + 1 }) := by
  simp only [beginsD, ha, hd]
  rfl
/-- one file k, up, not armed -/
abbrev d1 (k : List UInt8) (f : Fl) (room ops : Int) (dn : Bool) : Dk := ⟨[(k, f)], room, (secs f.now.length : Nat), ops, 0, [], dn⟩
section
variable {k : List UInt8} {f : Fl} {now sy : List UInt8} {room ops : Int} {dn : Bool}
theorem find1 : findF [(k, f)] k = some f := by simp [findF]
theorem set1 (f' : Fl) : setF [(k, f)] k f' = [(k, f')] := by simp [setF]
theorem begins1 : beginsD (d1 k f room ops false) = (0, d1 k f room (ops + 1) false) := begins_up rfl rfl
theorem begins1d : beginsD (d1 k f room ops true) = (7, d1 k f room (ops + 1) true) := begins_dn rfl rfl
theorem create1 (hk : mayN ⟨k.toArray⟩ = true) : createD (d0 room ops) k = (0, d1 k ⟨[], []⟩ room (ops + 1) false) := by
  have hb : beginsD (d0 room ops) = (0, d0 room (ops + 1)) := begins_up rfl rfl
  simp only [createD, hb, hk]
  rfl
theorem size1 : sizeD (d1 k f room ops false) k = (((f.now.length : Nat) : Int), 0) := by
  simp only [sizeD, begins1, find1]
  rfl
theorem size1d : sizeD (d1 k f room ops true) k = (0, 7) := by
  simp only [sizeD, begins1d]
  rfl
theorem sync1 : syncD (d1 k ⟨now, sy⟩ room ops false) k = (0, d1 k ⟨now, now⟩ room (ops + 1) false) := by
  simp only [syncD, begins1, find1, set1]
  rfl
theorem putAt_end (l bs : List UInt8) : putAt l l.length bs = l ++ bs := by simp [putAt]
theorem app1 (bs : List UInt8) (h : ((secs (now.length + bs.length) : Nat) : Int) ≤ room) : writeD (d1 k ⟨now, sy⟩ room ops false) k none bs = (0, d1 k ⟨now ++ bs, sy⟩ room (ops + 1) false) := by
  simp only [writeD, begins1, find1, set1, Option.getD_none]
  have hm : max now.length (now.length + bs.length) = now.length + bs.length := by omega
  have hw : wrG room ((secs now.length : Nat) : Int) now ((now.length : Nat) : Int) bs = (0, ((secs (now ++ bs).length : Nat) : Int), now ++ bs) := by
    unfold wrG
    rw [if_neg (by omega), Int.toNat_natCast, hm, if_neg (by omega), putAt_end, List.length_append]
    congr 2
    omega
  rw [hw]
  rfl
theorem app1n (bs : List UInt8) (h : room < ((secs (now.length + bs.length) : Nat) : Int)) : writeD (d1 k ⟨now, sy⟩ room ops false) k none bs = (6, d1 k ⟨now, sy⟩ room (ops + 1) false) := by
  simp only [writeD, begins1, find1, set1, Option.getD_none]
  have hm : max now.length (now.length + bs.length) = now.length + bs.length := by omega
  have hw : wrG room ((secs now.length : Nat) : Int) now ((now.length : Nat) : Int) bs = (6, ((secs now.length : Nat) : Int), now) := by
    unfold wrG
    rw [if_neg (by omega), Int.toNat_natCast, hm, if_pos (by omega)]
  rw [hw]
  rfl
theorem write1 (at_ : Nat) (hat : at_ ≤ now.length) (bs : List UInt8) (h : ((secs (max now.length (at_ + bs.length)) : Nat) : Int) ≤ room) : writeD (d1 k ⟨now, sy⟩ room ops false) k (some (at_ : Int)) bs = (0, d1 k ⟨putAt now at_ bs, sy⟩ room (ops + 1) false) := by
  simp only [writeD, begins1, find1, set1, Option.getD_some]
  have hw : wrG room ((secs now.length : Nat) : Int) now (at_ : Int) bs = (0, ((secs (putAt now at_ bs).length : Nat) : Int), putAt now at_ bs) := by
    unfold wrG
    rw [if_neg (by omega), Int.toNat_natCast, if_neg (by omega), putAt_length hat]
    congr 2
    omega
  rw [hw]
  rfl
theorem read1 (at_ m : Nat) (h : at_ + m ≤ now.length) : readD (d1 k ⟨now, sy⟩ room ops false) k at_ m = ((now.drop at_).take m, 0) := by
  simp only [readD, begins1, find1]
  rw [if_neg (by decide), if_neg (by omega)]
  rfl
theorem read1all : readD (d1 k ⟨now, sy⟩ room ops false) k 0 (now.length : Nat) = (now, 0) := by
  simp only [readD, begins1, find1]
  rw [if_neg (by decide), if_neg (by omega), Int.toNat_natCast, Int.toNat_zero, List.drop_zero, List.take_length]
theorem crash1 (ks : List Bool) : crashD ks (d1 k ⟨now, sy⟩ room ops false) = d1 k ⟨(tornG now sy ks (secs now.length)).1, (tornG now sy ks (secs now.length)).1⟩ room ops true := by
  have hs : Go.Proofs.Ytmocncadncgaaaa.sortN [k] = [k] := by simp [Go.Proofs.Ytmocncadncgaaaa.sortN]
  unfold crashD
  rw [if_neg (show ¬ (false = true) by decide)]
  simp only [List.map_cons, List.map_nil, hs, crFold, List.foldl_cons, List.foldl_nil, crStep, find1, Option.getD_some, set1, Int.zero_add]
theorem crash1d (ks : List Bool) : crashD ks (d1 k f room ops true) = d1 k f room ops true := by
  unfold crashD
  rw [if_pos rfl]
end

theorem Arg.nilB {F : Fm} : Arg boolE F (.slice none 0 0) [] := Arg.nil
/-! ### What must be in any case -/
theorem torn20 : (tornG (List.replicate 20 (0 : UInt8)) [] [] (secs (List.replicate 20 (0 : UInt8)).length)).1 = [] := by decide +kernel
theorem shown_spec (F : Fm) : Spec Try.prog 12 #[] F [] fun v _ => v = .bool true := by
  refine Spec.of (n := 93) (vs := []) Try.func12 rfl Try.ntmps12 rfl ?_
  refine Vc.seq ?_
  refine Vc.text (List.range 1) (sd [(0, .pure)]) rfl ?_
  refine Rg.pure rfl rfl rfl (Pv.assign rfl) ?_
  refine Rg.nil ?_
  refine Vc.seq ?_
  refine Vc.text (List.range 2) (sd [(0, .eff), (1, .pure)]) rfl ?_
  refine Rg.callA rfl rfl rfl (run_callF rfl) (new_w _ 10 10 (by decide)) ?_
  rintro _ s12 ⟨db, rfl, hD, hw⟩
  refine Rg.pure rfl rfl rfl (Pv.assign rfl) ?_
  refine Rg.nil ?_
  refine Vc.seq ?_
  refine Vc.seq ?_
  refine Vc.text (List.range 2) (sd [(0, .pure), (1, .pure)]) rfl ?_
  refine Rg.pure rfl rfl rfl (Pv.move rfl) ?_
  refine Rg.pure rfl rfl rfl (Pv.eqlNil rfl rfl) ?_
  refine Rg.nil ?_
  refine Vc.cond rfl (fun h14 => absurd h14 (by (cases h14))) (fun h14 => ?_)
  refine Vc.skip ?_
  refine Vc.seq ?_
  refine Vc.text (List.range 3) (sd [(0, .pure), (1, .eff), (2, .pure)]) rfl ?_
  refine Rg.pure rfl rfl rfl (Pv.move rfl) ?_
  refine Rg.callH rfl rfl rfl (run_callF rfl) (fun F' hF' => create_w (F := F') hD hw (by omega) (by omega) [97] (create1 (by decide))) rfl ?_
  rintro _ s16 ⟨rfl, hD16, hw16⟩
  refine Rg.pure rfl rfl rfl (Pv.assign rfl) ?_
  refine Rg.nil ?_
  refine Vc.seq ?_
  refine Vc.text (List.range 4) (sd [(0, .pure), (1, .eff), (2, .eff), (3, .pure)]) rfl ?_
  refine Rg.pure rfl rfl rfl (Pv.move rfl) ?_
  refine Rg.makeN byteE 0 (m := 20) rfl rfl rfl rfl rfl (by decide) (fun b18 own18 => ?_)
  have hz18 : (List.replicate 20 (0 : UInt8)).length = 20 := List.length_replicate
  have ht20 := torn20
  generalize List.replicate 20 (0 : UInt8) = z18 at own18 hz18 ht20 ⊢
  refine Rg.callH rfl rfl rfl (run_callF rfl) (fun F' hF' => append_w (F := F') hD16 hw16 (by omega) (by omega) [97] (Arg.own own18 fun b o hb => hF' b o (.inl hb)) (by omega) (app1 z18 (by simp [secs, hz18]))) rfl ?_
  rintro _ s19 ⟨rfl, hD19, hw19⟩
  refine Rg.pure rfl rfl rfl (Pv.assign rfl) ?_
  refine Rg.nil ?_
  refine Vc.seq ?_
  refine Vc.text (List.range 4) (sd [(0, .pure), (1, .eff), (2, .eff), (3, .pure)]) rfl ?_
  refine Rg.pure rfl rfl rfl (Pv.move rfl) ?_
  refine Rg.makeN byteE 0 (m := 200) rfl rfl rfl rfl rfl (by decide) (fun b21 own21 => ?_)
  have hz21 : (List.replicate 200 (0 : UInt8)).length = 200 := List.length_replicate
  generalize List.replicate 200 (0 : UInt8) = z21 at own21 hz21 ⊢
  refine Rg.callH rfl rfl rfl (run_callF rfl) (fun F' hF' => append_w (F := F') hD19 hw19 (by omega) (by omega) [97] (Arg.own own21 fun b o hb => hF' b o (.inl (by simp only [List.mem_singleton] at hb; simp [hb]))) (by omega) (app1n z21 (by simp [secs, hz18, hz21]))) rfl ?_
  rintro _ s22 ⟨rfl, hD22, hw22⟩
  refine Rg.pure rfl rfl rfl (Pv.assign rfl) ?_
  refine Rg.nil ?_
  refine Vc.seq ?_
  refine Vc.text (List.range 7) (sd [(0, .pure), (1, .eff), (2, .pure), (3, .pure), (4, .pure), (5, .pure), (6, .pure)]) rfl ?_
  refine Rg.pure rfl rfl rfl (Pv.move rfl) ?_
  refine Rg.callH rfl rfl rfl (run_callF rfl) (fun F' hF' => size_w (F := F') hD22 hw22 (by omega) (by omega) [97] size1 (congrArg Prod.snd begins1)) rfl ?_
  rintro _ s25 ⟨rfl, hD25, hw25⟩
  refine Rg.pure rfl rfl rfl (Pv.move rfl) ?_
  refine Rg.pure rfl rfl rfl (Pv.extract rfl rfl) ?_
  refine Rg.pure rfl rfl rfl (Pv.extract rfl rfl) ?_
  refine Rg.pure rfl rfl rfl (Pv.assign rfl) ?_
  refine Rg.pure rfl rfl rfl (Pv.assign rfl) ?_
  refine Rg.nil ?_
  refine Vc.seq ?_
  refine Vc.text (List.range 3) (sd [(0, .pure), (1, .eff), (2, .pure)]) rfl ?_
  refine Rg.pure rfl rfl rfl (Pv.move rfl) ?_
  refine Rg.callP rfl rfl rfl (run_callF rfl) (usedD_spec hD25 frz_sb) ?_
  rintro _ rfl
  refine Rg.pure rfl rfl rfl (Pv.assign rfl) ?_
  refine Rg.nil ?_
  refine Vc.seq ?_
  refine Vc.text (List.range 2) (sd [(0, .pure), (1, .eff)]) rfl ?_
  refine Rg.pure rfl rfl rfl (Pv.move rfl) ?_
  refine Rg.callH rfl rfl rfl (run_callF rfl) (fun F' hF' => crash_w (F := F') hD25 hw25 (by omega) (by omega) Arg.nilB (crash1 [])) rfl ?_
  rintro v31 s31 ⟨hD31, hw31⟩
  rw [List.nil_append, ht20] at hD31 hw31
  refine Rg.nil ?_
  refine Vc.seq ?_
  refine Vc.text (List.range 7) (sd [(0, .pure), (1, .eff), (2, .pure), (3, .pure), (4, .pure), (5, .pure), (6, .pure)]) rfl ?_
  refine Rg.pure rfl rfl rfl (Pv.move rfl) ?_
  refine Rg.callH rfl rfl rfl (run_callF rfl) (fun F' hF' => size_w (F := F') hD31 hw31 (by omega) (by omega) [97] size1d (congrArg Prod.snd begins1d)) rfl ?_
  rintro _ s34 ⟨rfl, hD34, hw34⟩
  refine Rg.pure rfl rfl rfl (Pv.move rfl) ?_
  refine Rg.pure rfl rfl rfl (Pv.extract rfl rfl) ?_
  refine Rg.pure rfl rfl rfl (Pv.extract rfl rfl) ?_
  refine Rg.pure rfl rfl rfl (Pv.assign rfl) ?_
  refine Rg.pure rfl rfl rfl (Pv.assign rfl) ?_
  refine Rg.nil ?_
  refine Vc.seq ?_
  refine Vc.text (List.range 2) (sd [(0, .pure), (1, .eff)]) rfl ?_
  refine Rg.pure rfl rfl rfl (Pv.move rfl) ?_
  refine Rg.callH rfl rfl rfl (run_callF rfl) (fun F' hF' => restart_w (F := F') hD34 hw34) rfl ?_
  rintro v38 s38 ⟨hD38, hw38⟩
  refine Rg.nil ?_
  refine Vc.seq ?_
  refine Vc.text (List.range 7) (sd [(0, .pure), (1, .eff), (2, .pure), (3, .pure), (4, .pure), (5, .pure), (6, .pure)]) rfl ?_
  refine Rg.pure rfl rfl rfl (Pv.move rfl) ?_
  refine Rg.callH rfl rfl rfl (run_callF rfl) (fun F' hF' => size_w (F := F') hD38 hw38 (by omega) (by omega) [97] size1 (congrArg Prod.snd begins1)) rfl ?_
  rintro _ s41 ⟨rfl, hD41, hw41⟩
  refine Rg.pure rfl rfl rfl (Pv.move rfl) ?_
  refine Rg.pure rfl rfl rfl (Pv.extract rfl rfl) ?_
  refine Rg.pure rfl rfl rfl (Pv.extract rfl rfl) ?_
  refine Rg.pure rfl rfl rfl (Pv.assign rfl) ?_
  refine Rg.pure rfl rfl rfl (Pv.assign rfl) ?_
  refine Rg.nil ?_
  refine Vc.seq ?_
  refine Vc.text (List.range 50) (sd [(0, .pure), (1, .pure), (2, .pure), (3, .pure), (4, .pure), (5, .pure), (6, .pure), (7, .pure), (8, .pure), (9, .pure), (10, .pure), (11, .pure), (12, .pure), (13, .pure), (14, .pure), (15, .pure), (16, .pure), (17, .pure), (18, .pure), (19, .pure), (20, .pure), (21, .pure), (22, .pure), (23, .pure), (24, .pure), (25, .pure), (26, .pure), (27, .pure), (28, .pure), (29, .pure), (30, .pure), (31, .pure), (32, .pure), (33, .pure), (34, .pure), (35, .pure), (36, .eff), (37, .pure), (38, .pure), (39, .pure), (40, .pure), (41, .eff), (42, .pure), (43, .pure), (44, .pure), (45, .pure), (46, .eff), (47, .pure), (48, .pure), (49, .pure)]) rfl ?_
  refine Rg.pure rfl rfl rfl (Pv.move rfl) ?_
  refine Rg.pure rfl rfl rfl (Pv.eql rfl rfl) ?_
  refine Rg.pure rfl rfl rfl (Pv.move rfl) ?_
  refine Rg.split (t := 46) rfl (fun h46 => ?_) (fun h46 => absurd h46 (by decide))
  refine Rg.pure rfl rfl rfl (Pv.move rfl) ?_
  refine Rg.pure rfl rfl rfl (Pv.eql rfl rfl) ?_
  refine Rg.pure rfl rfl rfl (Pv.pickT rfl rfl) ?_
  refine Rg.pure rfl rfl rfl (Pv.move rfl) ?_
  refine Rg.split (t := 50) rfl (fun h50 => ?_) (fun h50 => absurd h50 (by decide))
  refine Rg.pure rfl rfl rfl (Pv.move rfl) ?_
  refine Rg.pure rfl rfl rfl (Pv.eql rfl rfl) ?_
  refine Rg.pure rfl rfl rfl (Pv.pickT rfl rfl) ?_
  refine Rg.pure rfl rfl rfl (Pv.move rfl) ?_
  refine Rg.split (t := 54) rfl (fun h54 => ?_) (fun h54 => absurd h54 (by decide))
  refine Rg.pure rfl rfl rfl (Pv.move rfl) ?_
  refine Rg.pure rfl rfl rfl (Pv.eql rfl rfl) ?_
  refine Rg.pure rfl rfl rfl (Pv.pickT rfl rfl) ?_
  refine Rg.pure rfl rfl rfl (Pv.move rfl) ?_
  refine Rg.split (t := 58) rfl (fun h58 => ?_) (fun h58 => absurd h58 (by simp [hz18]))
  refine Rg.pure rfl rfl rfl (Pv.move rfl) ?_
  refine Rg.pure rfl rfl rfl (Pv.eql rfl rfl) ?_
  refine Rg.pure rfl rfl rfl (Pv.pickT rfl rfl) ?_
  refine Rg.pure rfl rfl rfl (Pv.move rfl) ?_
  refine Rg.split (t := 62) rfl (fun h62 => ?_) (fun h62 => absurd h62 (by decide))
  refine Rg.pure rfl rfl rfl (Pv.move rfl) ?_
  refine Rg.pure rfl rfl rfl (Pv.eql rfl rfl) ?_
  refine Rg.pure rfl rfl rfl (Pv.pickT rfl rfl) ?_
  refine Rg.pure rfl rfl rfl (Pv.move rfl) ?_
  refine Rg.split (t := 66) rfl (fun h66 => ?_) (fun h66 => absurd h66 (by simp [secs, hz18]))
  refine Rg.pure rfl rfl rfl (Pv.move rfl) ?_
  refine Rg.pure rfl rfl rfl (Pv.eql rfl rfl) ?_
  refine Rg.pure rfl rfl rfl (Pv.pickT rfl rfl) ?_
  refine Rg.pure rfl rfl rfl (Pv.move rfl) ?_
  refine Rg.split (t := 70) rfl (fun h70 => ?_) (fun h70 => absurd h70 (by decide))
  refine Rg.pure rfl rfl rfl (Pv.move rfl) ?_
  refine Rg.pure rfl rfl rfl (Pv.eql rfl rfl) ?_
  refine Rg.pure rfl rfl rfl (Pv.pickT rfl rfl) ?_
  refine Rg.pure rfl rfl rfl (Pv.move rfl) ?_
  refine Rg.split (t := 74) rfl (fun h74 => ?_) (fun h74 => absurd h74 (by decide +kernel))
  refine Rg.pure rfl rfl rfl (Pv.move rfl) ?_
  refine Rg.pure rfl rfl rfl (Pv.eql rfl rfl) ?_
  refine Rg.pure rfl rfl rfl (Pv.pickT rfl rfl) ?_
  refine Rg.pure rfl rfl rfl (Pv.move rfl) ?_
  refine Rg.split (t := 78) rfl (fun h78 => ?_) (fun h78 => absurd h78 (by decide))
  refine Rg.pure rfl rfl rfl (Pv.move rfl) ?_
  refine Rg.callP rfl rfl rfl (run_callF rfl) (opsD_spec hD41 frz_sb) ?_
  rintro _ rfl
  refine Rg.pure rfl rfl rfl (Pv.eql rfl rfl) ?_
  refine Rg.pure rfl rfl rfl (Pv.pickT rfl rfl) ?_
  refine Rg.pure rfl rfl rfl (Pv.move rfl) ?_
  refine Rg.split (t := 83) rfl (fun h83 => ?_) (fun h83 => absurd h83 (by decide))
  refine Rg.pure rfl rfl rfl (Pv.move rfl) ?_
  refine Rg.callP rfl rfl rfl (run_callF rfl) (roomD_spec hD41 frz_sb) ?_
  rintro _ rfl
  refine Rg.pure rfl rfl rfl (Pv.eql rfl rfl) ?_
  refine Rg.pure rfl rfl rfl (Pv.pickT rfl rfl) ?_
  refine Rg.pure rfl rfl rfl (Pv.move rfl) ?_
  refine Rg.split (t := 88) rfl (fun h88 => ?_) (fun h88 => absurd h88 (by decide))
  refine Rg.pure rfl rfl rfl (Pv.move rfl) ?_
  refine Rg.callP rfl rfl rfl (run_callF rfl) (downD_spec hD41 frz_sb) ?_
  rintro _ rfl
  refine Rg.pure rfl rfl rfl (Pv.not rfl) ?_
  refine Rg.pure rfl rfl rfl (Pv.pickT rfl rfl) ?_
  refine Rg.pure rfl rfl rfl (Pv.assign rfl) ?_
  refine Rg.nil ?_
  refine Vc.ret (Vc.rets rfl (.cons (.tmp rfl) (.nil)) ?_)
  exact congrArg Value.bool (by decide)
end Go.Proofs.Ytmocncadncgaaaa
