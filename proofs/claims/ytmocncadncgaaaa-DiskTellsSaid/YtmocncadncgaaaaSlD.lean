/- The operations that make or change memory, and calls. -/
import Derived.Test.YtmocncadncgaaaaSlC
namespace Go.Proofs.Ytmocncadncgaaaa
set_option linter.unusedVariables false

/-! ### Lists of blocks, put in order -/
class Pull1 (hl : Hl) (b : Nat) (o : outParam Obj) (rest : outParam Hl) : Prop where
  perm : hl.Perm ((b, o) :: rest)
instance Pull1.head {hl : Hl} {b : Nat} {o : Obj} : Pull1 ((b, o) :: hl) b o hl := ⟨.refl _⟩
instance (priority := low) Pull1.tail {hl : Hl} {b : Nat} {o : Obj} {x : Nat × Obj} {rest : Hl} [h : Pull1 hl b o rest] : Pull1 (x :: hl) b o (x :: rest) := ⟨(h.perm.cons x).trans (List.Perm.swap _ _ _)⟩
instance (priority := low) Pull1.app {seg hl : Hl} {b : Nat} {o : Obj} {rest : Hl} [h : Pull1 hl b o rest] : Pull1 (seg ++ hl) b o (seg ++ rest) := ⟨(h.perm.append_left seg).trans List.perm_middle⟩
class PullS (hl : Hl) (seg : Hl) (rest : outParam Hl) : Prop where
  perm : hl.Perm (seg ++ rest)
instance PullS.head {hl seg : Hl} : PullS (seg ++ hl) seg hl := ⟨.refl _⟩
instance (priority := low) PullS.tail {hl seg : Hl} {x : Nat × Obj} {rest : Hl} [h : PullS hl seg rest] : PullS (x :: hl) seg (x :: rest) := ⟨(h.perm.cons x).trans List.perm_middle.symm⟩
instance (priority := low) PullS.app {hl seg sg : Hl} {rest : Hl} [h : PullS hl seg rest] : PullS (sg ++ hl) seg (sg ++ rest) :=
  ⟨(h.perm.append_left sg).trans (by rw [← List.append_assoc, ← List.append_assoc]; exact List.perm_append_comm.append_right rest)⟩
instance (priority := low) PullS.last {seg : Hl} : PullS seg seg [] := ⟨by simp⟩
class PullL (hl : Hl) (pre : Hl) (rest : outParam Hl) : Prop where
  perm : hl.Perm (pre ++ rest)
instance PullL.nil {hl : Hl} : PullL hl [] hl := ⟨.refl _⟩
instance PullL.cons {hl h1 pre rest : Hl} {b : Nat} {o : Obj} [p : Pull1 hl b o h1] [q : PullL h1 pre rest] : PullL hl ((b, o) :: pre) rest := ⟨p.perm.trans (q.perm.cons _)⟩
instance PullL.app {hl h1 seg pre rest : Hl} [p : PullS hl seg h1] [q : PullL h1 pre rest] : PullL hl (seg ++ pre) rest := ⟨p.perm.trans (by rw [List.append_assoc]; exact q.perm.append_left seg)⟩
instance (priority := low) PullL.seg {hl seg rest : Hl} [p : PullS hl seg rest] : PullL hl seg rest := ⟨p.perm⟩
theorem PullL.all {hl pre : Hl} (h : PullL hl pre []) : hl.Perm pre := by simpa using h.perm
theorem pulled {hl pre rest : Hl} [h : PullL hl pre rest] : hl.Perm (pre ++ rest) := h.perm

instance (priority := low) Has.app {F : Fm} {seg hl : Hl} {b : Nat} {o : Obj} [h : Has F hl b o] : Has F (seg ++ hl) b o := ⟨h.at_.imp (List.mem_append_right _) id⟩
instance (priority := low) Lens.app {seg hl : Hl} {b : Nat} {o : Obj} {put : Obj → Hl} [h : Lens hl b o put] : Lens (seg ++ hl) b o (fun o' => seg ++ put o') := by
  obtain ⟨A, B, e, hp⟩ := h.ex
  exact ⟨seg ++ A, B, by rw [e]; simp, fun o' => by rw [hp]; simp⟩

/-! A list in front whose items are known, or that is empty. -/
instance (priority := low) Pull1.ca {x : Nat × Obj} {s hl : Hl} {b : Nat} {o : Obj} {rest : Hl} [h : Pull1 (x :: (s ++ hl)) b o rest] : Pull1 ((x :: s) ++ hl) b o rest := h
instance (priority := low) Pull1.na {hl : Hl} {b : Nat} {o : Obj} {rest : Hl} [h : Pull1 hl b o rest] : Pull1 ([] ++ hl) b o rest := h
instance (priority := low) PullS.ca {x : Nat × Obj} {s hl seg rest : Hl} [h : PullS (x :: (s ++ hl)) seg rest] : PullS ((x :: s) ++ hl) seg rest := h
instance (priority := low) PullS.na {hl seg rest : Hl} [h : PullS hl seg rest] : PullS ([] ++ hl) seg rest := h
instance (priority := low) Has.ca {F : Fm} {x : Nat × Obj} {s hl : Hl} {b : Nat} {o : Obj} [h : Has F (x :: (s ++ hl)) b o] : Has F ((x :: s) ++ hl) b o := h
instance (priority := low) Has.na {F : Fm} {hl : Hl} {b : Nat} {o : Obj} [h : Has F hl b o] : Has F ([] ++ hl) b o := h
instance (priority := low) Lens.ca {x : Nat × Obj} {s hl : Hl} {b : Nat} {o : Obj} {put : Obj → Hl} [h : Lens (x :: (s ++ hl)) b o put] : Lens ((x :: s) ++ hl) b o put := h
instance (priority := low) Lens.na {hl : Hl} {b : Nat} {o : Obj} {put : Obj → Hl} [h : Lens hl b o put] : Lens ([] ++ hl) b o put := h
instance PullL.consapp {hl h1 s pre rest : Hl} {b : Nat} {o : Obj} [p : Pull1 hl b o h1] [q : PullL h1 (s ++ pre) rest] : PullL hl (((b, o) :: s) ++ pre) rest := ⟨p.perm.trans (q.perm.cons _)⟩
instance PullL.nilapp {hl pre rest : Hl} [q : PullL hl pre rest] : PullL hl ([] ++ pre) rest := q
/-- Is a part of the list. -/
class Sb (seg hl : Hl) : Prop where
  sub : ∀ x ∈ seg, x ∈ hl
instance Sb.refl {seg : Hl} : Sb seg seg := ⟨fun _ h => h⟩
instance Sb.head {seg hl : Hl} : Sb seg (seg ++ hl) := ⟨fun _ h => List.mem_append_left _ h⟩
instance (priority := low) Sb.tail {seg hl : Hl} {x : Nat × Obj} [h : Sb seg hl] : Sb seg (x :: hl) := ⟨fun y hy => List.mem_cons_of_mem _ (h.sub y hy)⟩
instance (priority := low) Sb.app {seg s hl : Hl} [h : Sb seg hl] : Sb seg (s ++ hl) := ⟨fun y hy => List.mem_append_right _ (h.sub y hy)⟩
instance Sb.nil {hl : Hl} : Sb [] hl := ⟨fun _ h => by cases h⟩
instance (priority := low) Sb.cons {hl seg : Hl} {b : Nat} {o : Obj} {rest : Hl} [h : Pull1 hl b o rest] [q : Sb seg hl] : Sb ((b, o) :: seg) hl := ⟨fun x hx => by
  rcases List.mem_cons.1 hx with rfl | hx
  · exact h.perm.mem_iff.2 List.mem_cons_self
  · exact q.sub x hx⟩

theorem frz_sb {F : Fm} {s hl : Hl} [h : Sb s hl] : ∀ b o, (b, o) ∈ s → (frz F hl).at_ b o := fun _ _ hb => Or.inl (h.sub _ hb)

def appN : Hl → Hl → Option Hl
  | [], r => some r
  | x :: xs, r => match appN xs r with
    | none => none
    | some q => some (x :: q)
theorem appN_eq : ∀ (xs r : Hl) {q : Hl}, appN xs r = some q → xs ++ r = q
  | [], r, q, h => by simpa [appN] using h
  | x :: xs, r, q, h => by
    simp only [appN] at h
    split at h
    · cases h
    · rename_i q' hq
      simp only [Option.some.injEq] at h
      rw [List.cons_append, appN_eq xs r hq, h]

def cl : Value → Option (List Value)
  | .agg ⟨us⟩ => some us
  | .tuple _ => none
  | v => some [v]
theorem cl_spec {v : Value} {vs : List Value} (h : cl v = some vs) : v.cells = vs.toArray ∧ ((∃ us, v = .agg us) ∨ v.oneCell' = true) := by
  cases v <;> simp only [cl, Option.some.injEq] at h <;> first | (subst h; exact ⟨rfl, .inr rfl⟩) | (subst h; exact ⟨rfl, .inl ⟨_, rfl⟩⟩) | cases h

theorem cells_one {v : Value} (h : v.oneCell' = true) : v.cells = [v].toArray := by
  cases v <;> first | rfl | (simp [Value.oneCell'] at h; done)

def setL : List Value → Nat → Value → Option (List Value)
  | [], _, _ => none
  | _ :: r, 0, v => some (v :: r)
  | x :: r, i + 1, v => match setL r i v with
    | none => none
    | some q => some (x :: q)
def setsL : List Value → Nat → List Value → Option (List Value)
  | vs, _, [] => some vs
  | vs, off, u :: us => match setL vs off u with
    | none => none
    | some q => setsL q (off + 1) us
theorem setL_spec : ∀ (vs : List Value) (off : Nat) (v : Value) {q : List Value}, setL vs off v = some q → q = vs.set off v ∧ off < vs.length
  | [], _, _, _, h => by cases h
  | x :: r, 0, v, q, h => by simp only [setL, Option.some.injEq] at h; subst h; simp
  | x :: r, i + 1, v, q, h => by
    simp only [setL] at h
    split at h
    · cases h
    · rename_i q' hq
      simp only [Option.some.injEq] at h
      obtain ⟨h1, h2⟩ := setL_spec r i v hq
      subst h; subst h1
      simpa using h2
theorem setL_mk {vs : List Value} {off : Nat} (v : Value) (h : off < vs.length) : setL vs off v = some (vs.set off v) := by
  induction vs generalizing off with
  | nil => simp at h
  | cons x r ih =>
    cases off with
    | zero => rfl
    | succ i => simp only [setL, ih (by simpa using h), List.set_cons_succ]

section
variable {P : Program} {n : Nf} {F : Fm} {l : Env} {hl : Hl} {ty : TypeId} {pos : String} {af : Array Edge} {g : Option (Nat × Bool)}

/-- The world with that block. -/
def putB (w : World) (b : Nat) (o : Obj) : World := { w with heap := w.heap.setIfInBounds b o }
theorem putB_at {w : World} {b : Nat} {o o' : Obj} (h : w.heap[b]? = some o) : (putB w b o').heap[b]? = some o' := by
  have := (Array.getElem?_eq_some_iff.1 h).1
  simp [putB, this]
theorem putB_ne {w : World} {b c : Nat} {o' : Obj} (h : c ≠ b) : (putB w b o').heap[c]? = w.heap[c]? := by
  simp [putB, Array.getElem?_setIfInBounds_ne (Ne.symm h)]
theorem Lens.putB {put : Obj → Hl} {b : Nat} {o : Obj} (h : Lens hl b o put) {w : World} (hs : Hp F hl w) (o' : Obj) : Hp F (put o') (putB w b o') :=
  h.set hs o' (putB_at (hs.own b o h.mem)) (fun _ hc => putB_ne hc) rfl rfl rfl (Nat.le_refl _)

theorem run_store {w : World} {b off : Nat} {vs q : List Value} {e : TypeId} {v : Value} (hb : w.heap[b]? = some (cellsO vs e)) (hq : setL vs off v = some q) (h1 : v.oneCell' = true) :
    (store ⟨b, off, none⟩ v).run P w = .ok () (putB w b (cellsO q e)) := by
  obtain ⟨rfl, hlt⟩ := setL_spec _ _ _ hq
  have hc : w.cell? ⟨b, off, none⟩ = some vs[off] := by simp [World.cell?, hb, hlt]
  have hz : w.frozen? ⟨b, off, none⟩ = false := by
    unfold World.frozen?
    rw [hb]
    simp
  have hw : w.setCell ⟨b, off, none⟩ v = putB w b (cellsO (vs.set off v) e) := by
    unfold World.setCell Go.Proofs.Ytmocncadncgaaaa.putB
    congr 1
    apply Array.ext_getElem?
    intro k
    rw [Array.getElem?_modify, Array.getElem?_setIfInBounds]
    by_cases hk : b = k
    · subst hk
      have := (Array.getElem?_eq_some_iff.1 hb).1
      rw [hb]
      simp [this]
    · simp [hk]
  rw [← hw]
  cases v <;> first | (simp [Value.oneCell'] at h1; done) | simp [store, Sem.run, hc, hz]

theorem putB_putB (w : World) (b : Nat) (o o' : Obj) : putB (putB w b o) b o' = putB w b o' := by
  unfold putB
  congr 1
  apply Array.ext_getElem?
  intro k
  simp only [Array.getElem?_setIfInBounds, Array.size_setIfInBounds]
  by_cases hk : b = k <;> simp [hk]
theorem putB_same {w : World} {b : Nat} {o : Obj} (h : w.heap[b]? = some o) : putB w b o = w := by
  unfold putB
  have : w.heap.setIfInBounds b o = w.heap := by
    apply Array.ext_getElem?
    intro k
    simp only [Array.getElem?_setIfInBounds]
    by_cases hk : b = k
    · subst hk
      have := (Array.getElem?_eq_some_iff.1 h).1
      rw [h]
      simp [this]
    · simp [hk]
  rw [this]

theorem run_storeCells {e : TypeId} {b : Nat} : ∀ (us : List Value) (i off : Nat) (vs q : List Value) (w : World), w.heap[b]? = some (cellsO vs e) → setsL vs (off + i) us = some q → (∀ u ∈ us, u.oneCell' = true) →
    (storeCells ⟨b, off, none⟩ us i).run P w = .ok () (putB w b (cellsO q e))
  | [], i, off, vs, q, w, hb, hq, _ => by
    simp only [setsL, Option.some.injEq] at hq
    subst hq
    rw [putB_same hb]
    simp [storeCells]
  | u :: us, i, off, vs, q, w, hb, hq, h1 => by
    simp only [setsL] at hq
    split at hq
    · cases hq
    · rename_i q1 hq1
      have h2 := run_store (P := P) hb hq1 (h1 u (by simp))
      have h3 := run_storeCells us (i + 1) off q1 q (putB w b (cellsO q1 e)) (putB_at hb) (by rw [← Nat.add_assoc]; exact hq) (fun v hv => h1 v (by simp [hv]))
      rw [putB_putB] at h3
      simp only [storeCells, addr_add, Sem.run_bind, h2, Result.andThen_ok, h3]

theorem run_storeAt {t b off k : Nat} {e : TypeId} {vs us q : List Value} {v : Value} {w : World} (hz : ∀ w, (sizeOf t).run P w = .ok k w) (hc : v.cells = us.toArray) (hk : us.length = k) (h1 : ∀ u ∈ us, u.oneCell' = true)
    (hb : w.heap[b]? = some (cellsO vs e)) (hq : setsL vs off us = some q) : (Instr.storeAt t (.pointer (some ⟨b, off, none⟩)) v).run P w = .ok () (putB w b (cellsO q e)) := by
  have hs := run_storeCells (P := P) us 0 off vs q w hb (by simpa using hq) h1
  simp [Instr.storeAt, Instr.sureAddr, storeVar, hz, hc, hk, hs]

variable {Qf : Exit → Act → World → Prop} {ks : List KItem} {ops : List Oper} {clr : List Nat} {hs : Hl} {r : Sd} {i : Nat}

theorem Rg.app {A B C : Hl} (e : appN A B = some C) (h : Rg P Qf n F ks ops clr C r l C) : Rg P Qf n F ks ops clr (A ++ B) r l (A ++ B) := by rw [appN_eq _ _ e]; exact h
theorem Rg.appH {A B C : Hl} (e : appN A B = some C) (h : Rg P Qf n F ks ops clr hs r l C) : Rg P Qf n F ks ops clr hs r l (A ++ B) := by rw [appN_eq _ _ e]; exact h
theorem Vc.app {A B C : Hl} (e : appN A B = some C) (h : Vc P Qf n F ks l C) : Vc P Qf n F ks l (A ++ B) := by rw [appN_eq _ _ e]; exact h
/-- One of two: a bool in a slot is decided. -/
theorem Rg.split {t : Nat} {b : Bool} (hb : lk l t = some (.bool b)) (h1 : b = true → Rg P Qf n F ks ops clr hs r ((t, .bool true) :: l) hl) (h2 : b = false → Rg P Qf n F ks ops clr hs r ((t, .bool false) :: l) hl) : Rg P Qf n F ks ops clr hs r l hl := fun a w hf hh => by
  have key : ∀ b', lk l t = some (.bool b') → Fr n ((t, .bool b') :: l) a := fun b' h => ⟨hf.dfr, hf.size, fun s u hs => by
    simp only [lk] at hs
    by_cases e : t = s
    · subst e
      simp only [Nat.beq_refl, cond_true, Option.some.injEq] at hs
      subst hs
      exact hf.has _ _ h
    · rw [beq_ne e] at hs
      exact hf.has s u hs⟩
  cases b with
  | true => exact h1 rfl a w (key _ hb) hh
  | false => exact h2 rfl a w (key _ hb) hh

/-! ### New memory -/
theorem arange0 : Array.range 0 = (#[] : Array Nat) := by apply Array.ext'; simp
theorem run_new {w : World} {o : Obj} : (newObj o).run P w = .ok w.heap.size { w with heap := w.heap.push o } := rfl

theorem Rg.box {t elem : Nat} {x : Operand} {v : Value} {vs : List Value} (ho : nth ops i = some ⟨some t, .box elem x, ty, pos, af, g⟩) (hg : wantB ops l g = some true) (ht : Nat.blt t n.n = true) (hx : ev l x = some v) (hc : cl v = some vs)
    (h : ∀ b, Rg P Qf n F ks ops clr ((b, cellsO vs elem) :: hl) r ((t, .pointer (some ⟨b, 0, none⟩)) :: l) ((b, cellsO vs elem) :: hl)) : Rg P Qf n F ks ops clr hl (.st i .eff r) l hl :=
  Rg.run ho hg fun a w hf hh => ⟨{ w with heap := w.heap.push (cellsO vs elem) }, (t, .pointer (some ⟨w.heap.size, 0, none⟩)) :: l, (w.heap.size, cellsO vs elem) :: hl, _,
    .inl ⟨_, by simp [execOp, Instr.box, newVar, newRow, hf.ev hx, (cl_spec hc).1], hf.put ht _⟩, hh.alloc _, (hh.alloc _).st, .one, h _⟩
theorem Rg.alloc {t elem : Nat} {z : Value} {vs : List Value} [hz : TyZero P elem z] (ho : nth ops i = some ⟨some t, .alloc elem, ty, pos, af, g⟩) (hg : wantB ops l g = some true) (ht : Nat.blt t n.n = true) (hc : cl z = some vs)
    (h : ∀ b, Rg P Qf n F ks ops clr ((b, cellsO vs elem) :: hl) r ((t, .pointer (some ⟨b, 0, none⟩)) :: l) ((b, cellsO vs elem) :: hl)) : Rg P Qf n F ks ops clr hl (.st i .eff r) l hl :=
  Rg.run ho hg fun a w hf hh => ⟨{ w with heap := w.heap.push (cellsO vs elem) }, (t, .pointer (some ⟨w.heap.size, 0, none⟩)) :: l, (w.heap.size, cellsO vs elem) :: hl, _,
    .inl ⟨_, by simp [execOp, Instr.alloc, newVar, newRow, hz.zero, (cl_spec hc).1], hf.put ht _⟩, hh.alloc _, (hh.alloc _).st, .one, h _⟩
theorem Rg.store {t b off : Nat} {e : TypeId} {x y : Operand} {d : Option Tmp} {v : Value} {vs q : List Value} {put : Obj → Hl} [hs0 : TyOne P t] (ho : nth ops i = some ⟨d, .store t x y, ty, pos, af, g⟩) (hg : wantB ops l g = some true) (hd : d = none)
    (hx : ev l x = some (.pointer (some ⟨b, off, none⟩))) (hy : ev l y = some v) [hb : Lens hl b (cellsO vs e) put] (hc : v.oneCell' = true) (hq : setL vs off v = some q) (hclr : clr.contains i = true)
    (h : Rg P Qf n F ks ops clr (put (cellsO q e)) r l (put (cellsO q e))) : Rg P Qf n F ks ops clr hs (.st i .eff r) l hl :=
  Rg.run ho hg fun a w hf hh => by
    subst hd
    have hrun := run_storeAt (P := P) (t := t) (us := [v]) (off := off) hs0.size (cells_one hc) rfl (by simpa using hc) (hh.own b _ hb.mem) (q := q) (by simp [setsL, hq])
    exact ⟨_, l, _, _, .inr ⟨by simp [execOp, hf.ev hx, hf.ev hy, hrun], hf⟩, hb.putB hh _, (hb.putB hh _).st, .inl hclr, h⟩
theorem Rg.storeA {t b off k : Nat} {e : TypeId} {x y : Operand} {d : Option Tmp} {us vs q : List Value} {put : Obj → Hl} [hs0 : TyAgg P t k] (ho : nth ops i = some ⟨d, .store t x y, ty, pos, af, g⟩) (hg : wantB ops l g = some true) (hd : d = none)
    (hx : ev l x = some (.pointer (some ⟨b, off, none⟩))) (hy : ev l y = some (.agg us.toArray)) [hb : Lens hl b (cellsO vs e) put] (hk : (us.length == k && us.all (·.oneCell')) = true) (hq : setsL vs off us = some q) (hclr : clr.contains i = true)
    (h : Rg P Qf n F ks ops clr (put (cellsO q e)) r l (put (cellsO q e))) : Rg P Qf n F ks ops clr hs (.st i .eff r) l hl :=
  Rg.run ho hg fun a w hf hh => by
    subst hd
    simp only [Bool.and_eq_true, beq_iff_eq, List.all_eq_true] at hk
    have hrun := run_storeAt (P := P) (t := t) (v := .agg us.toArray) hs0.size rfl hk.1 hk.2 (hh.own b _ hb.mem) hq
    exact ⟨_, l, _, _, .inr ⟨by simp [execOp, hf.ev hx, hf.ev hy, hrun], hf⟩, hb.putB hh _, (hb.putB hh _).st, .inl hclr, h⟩

/-! ### Calls -/
class TyCall (P : Program) (f : FuncId) : Prop where
  call : ∀ args w, (callFunc f args).run P w = .ok (.enter f args) w
class TyMeth (P : Program) (t : TypeId) (name : String) (f : outParam FuncId) : Prop where
  meth : ∀ v w, (method (P.types.size + Made.depth) t v name).run P w = .ok (f, v) w

theorem run_callF {f : Nat} {xs : List Operand} {vs : List Value} {ats : Array TypeId} {d : Option Tmp} [hf : TyCall P f] (hv : evs l xs = some vs) (a : Act) (w : World) (h : Fr n l a) :
    (execOp a.eval ⟨d, .call { callee := .value (.func f), args := xs.toArray, argTypes := ats }, ty, pos, af, g⟩).run P w = .ok (.enter f vs.toArray) w := by
  simp [execOp, resolve, Deferred.ofValue, Act.eval, invoke, hf.call, h.evs hv]
theorem run_callV {f : Nat} {x : Operand} {xs : List Operand} {vs us cs : List Value} {ats : Array TypeId} {d : Option Tmp} [hf : TyCall P f] (hx : ev l x = some (.func (.func f) us.toArray cs.toArray)) (hv : evs l xs = some vs) (a : Act) (w : World) (h : Fr n l a) :
    (execOp a.eval ⟨d, .call { callee := .value x, args := xs.toArray, argTypes := ats }, ty, pos, af, g⟩).run P w = .ok (.enter f (us ++ vs ++ cs).toArray) w := by
  simp [execOp, resolve, Deferred.ofValue, h.ev hx, invoke, hf.call, h.evs hv]
theorem run_callI {f T : Nat} {x : Operand} {xs : List Operand} {v : Value} {vs : List Value} {ats : Array TypeId} {d : Option Tmp} {name : String} (hx : ev l x = some (.iface T v)) [hm : TyMeth P T name f] [hf : TyCall P f] (hv : evs l xs = some vs) (a : Act) (w : World) (h : Fr n l a) :
    (execOp a.eval ⟨d, .call { callee := .invoke x name, args := xs.toArray, argTypes := ats }, ty, pos, af, g⟩).run P w = .ok (.enter f (v :: vs).toArray) w := by
  have e : (xs.toArray.map a.eval) = vs.toArray := by simp [h.evs hv]
  simp [execOp, resolve, h.ev hx, invoke, callMethod, hm.meth, hf.call, h.evs hv]

/-- How an operation calls: which function, with what. -/
def Callz (P : Program) (n : Nf) (l : Env) (o : Oper) (f : FuncId) (args : Array Value) : Prop := ∀ a w, Fr n l a → (execOp a.eval o).run P w = .ok (.enter f args) w

/-- A call of which only the result is told. -/
theorem Rg.callP {t f : Nat} {o : Op} {args : Array Value} {post : Value → Prop} (ho : nth ops i = some ⟨some t, o, ty, pos, af, g⟩) (hg : wantB ops l g = some true) (ht : Nat.blt t n.n = true) (hc : Callz P n l ⟨some t, o, ty, pos, af, g⟩ f args)
    (hspec : Spec P f args (frz F hl) [] fun v _ => post v) (h : ∀ v, post v → Rg P Qf n F ks ops clr hl r ((t, v) :: l) hl) : Rg P Qf n F ks ops clr hl (.st i .eff r) l hl := fun a w hf hh => by
  show wpOpX _ _ _ _ _ _ _ _
  unfold wpOpX wpOpIn
  rw [nth_eq] at ho
  have ho' : ops.toArray[i]? = some ⟨some t, o, ty, pos, af, g⟩ := by simpa using ho
  simp only [ho', wantB_spec (o := ⟨some t, o, ty, pos, af, g⟩) hg hf, if_true]
  unfold Oper.wpIn
  refine ⟨fun _ _ => trivial, ?_⟩
  rw [semAt_run (hc a w hf) (by intro d h; cases h)]
  obtain ⟨h1, h2, h3⟩ := Hp.frz_iff.1 (show Hp F ([] ++ hl) w from hh)
  refine ⟨(by intro h; cases h), fe_calls ((hspec w h1).mono fun e w' ⟨v, hl', he, hpost, hh'⟩ => ?_)⟩
  subst he
  have hfin : Hp F (hl' ++ hl) w' := Hp.frz_iff.2 ⟨hh', h2, h3⟩
  have hfin' : Hp F hl w' := Hp.forget (hfin.perm List.perm_append_comm)
  exact ⟨_, fun _ _ h => h, hfin'.st, h v hpost _ w' (hf.put ht v) hfin'⟩

/-- A call with a part of the list; the rest stays. -/
theorem Rg.callH {t f : Nat} {o : Op} {args : Array Value} {pre rest : Hl} {post : Value → Hl → Prop} (ho : nth ops i = some ⟨some t, o, ty, pos, af, g⟩) (hg : wantB ops l g = some true) (ht : Nat.blt t n.n = true) (hc : Callz P n l ⟨some t, o, ty, pos, af, g⟩ f args)
    (hspec : ∀ F', (∀ b o, (b, o) ∈ rest ∨ F.at_ b o → F'.at_ b o) → Spec P f args F' pre post) [hp : PullL hl pre rest] (hclr : clr.contains i = true) (h : ∀ v hl', post v hl' → Rg P Qf n F ks ops clr (hl' ++ rest) r ((t, v) :: l) (hl' ++ rest)) : Rg P Qf n F ks ops clr hs (.st i .eff r) l hl :=
  Rg.calls pre rest ho hg (fun a w hf _ => hc a w hf) hp.perm (hspec (frz F rest) fun _ _ h => h) fun v hl' hpost => ⟨hl' ++ rest, fun _ hw => hw.st, .inl hclr, fun a hf => ⟨_, hf.put ht v, h v hl' hpost⟩⟩
/-- A call that turns nothing and lays new blocks. -/
theorem Rg.callA {t f : Nat} {o : Op} {args : Array Value} {post : Value → Hl → Prop} (ho : nth ops i = some ⟨some t, o, ty, pos, af, g⟩) (hg : wantB ops l g = some true) (ht : Nat.blt t n.n = true) (hc : Callz P n l ⟨some t, o, ty, pos, af, g⟩ f args)
    (hspec : Spec P f args (frz F hl) [] post) (h : ∀ v s, post v s → Rg P Qf n F ks ops clr (s ++ hl) r ((t, v) :: l) (s ++ hl)) : Rg P Qf n F ks ops clr hl (.st i .eff r) l hl :=
  Rg.calls [] hl ho hg (fun a w hf _ => hc a w hf) (List.Perm.refl _) hspec fun v hl' hpost => ⟨hl' ++ hl, fun _ hw => hw.st, .inr ⟨hl', rfl⟩, fun a hf => ⟨_, hf.put ht v, h v hl' hpost⟩⟩
theorem Rg.callH0 {f : Nat} {o : Op} {args : Array Value} {pre rest : Hl} {d : Option Tmp} {post : Value → Hl → Prop} (ho : nth ops i = some ⟨d, o, ty, pos, af, g⟩) (hg : wantB ops l g = some true) (hd : d = none) (hc : Callz P n l ⟨d, o, ty, pos, af, g⟩ f args)
    (hspec : ∀ F', (∀ b o, (b, o) ∈ rest ∨ F.at_ b o → F'.at_ b o) → Spec P f args F' pre post) [hp : PullL hl pre rest] (hclr : clr.contains i = true) (h : ∀ v hl', post v hl' → Rg P Qf n F ks ops clr (hl' ++ rest) r l (hl' ++ rest)) : Rg P Qf n F ks ops clr hs (.st i .eff r) l hl :=
  Rg.calls pre rest ho hg (fun a w hf _ => hc a w hf) hp.perm (hspec (frz F rest) fun _ _ h => h) fun v hl' hpost => ⟨hl' ++ rest, fun _ hw => hw.st, .inl hclr, fun a hf => ⟨l, by subst hd; exact hf.putNone v, h v hl' hpost⟩⟩
end
end Go.Proofs.Ytmocncadncgaaaa
