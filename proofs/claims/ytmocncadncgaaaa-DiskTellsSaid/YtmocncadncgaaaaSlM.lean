/- Maps: the block that holds one, its operations, the range over it; make([]T, 0, n); a pointer beside nil. -/
import Derived.Test.YtmocncadncgaaaaSlE
import Derived.Maps.RangeRun
import Derived.MapKept
import Derived.WideKeyRuns
import Derived.Laws.MakeOwn
import Derived.Laws.Strings
namespace Go.Proofs.Ytmocncadncgaaaa
set_option linter.unusedVariables false
set_option linter.unusedSectionVars false
open Go.MapKept (IsKey findNow_spec run_findKey run_checkKey run_setObj_map)

/-- An entry of a map: its key, what it holds, its number. -/
structure Me (κ : Type) where
  k : κ
  v : Value
  born : Nat
abbrev ent {κ : Type} (kv : κ → Value) (m : Me κ) : MapEntry := ⟨kv m.k, m.v, m.born⟩
def mapO {κ : Type} (kv : κ → Value) (ms : List (Me κ)) (clock : Nat) : Obj := .map (ms.map (ent kv)).toArray clock
class KeyTy (P : Program) (kt : TypeId) {κ : Type} (kv : κ → Value) : Prop where
  fnd : ∀ (l : List MapEntry) (k : κ), (∀ x ∈ l, ∃ a, x.key = kv a) →
    ((∀ x ∈ l, x.key ≠ kv k) ∧ ∀ w, (Instr.findKey kt (kv k) l).run P w = .ok none w) ∨ ∃ j e, l[j]? = some e ∧ e.key = kv k ∧ ∀ w, (Instr.findKey kt (kv k) l).run P w = .ok (some (j, e.val)) w
  chk : ∀ (e : Bool) (k : κ) (w : World), (Instr.checkKey e 10000 kt (kv k)).run P w = .ok () w
  inj : ∀ a b, kv a = kv b → a = b
theorem KeyTy.of {P : Program} {kt : TypeId} {κ : Type} {kv : κ → Value} (h : ∃ d, P.underlying kt = some d ∧ ∀ a, IsKey d (kv a)) (inj : ∀ a b, kv a = kv b → a = b) : KeyTy P kt kv := by
  obtain ⟨d, hd, hk⟩ := h
  refine ⟨fun l k hl => ?_, fun e k w => run_checkKey hd (hk k) e 9999, inj⟩
  rcases findNow_spec (hk k) l 0 (fun x hx => by obtain ⟨a, ha⟩ := hl x hx; rw [ha]; exact hk a) with ⟨h1, h2⟩ | ⟨j, e, h1, h2, h3⟩
  · exact .inl ⟨h2, fun w => run_findKey hd h1⟩
  · exact .inr ⟨j, e, h2, h3, fun w => by rw [Nat.zero_add] at h1; exact run_findKey hd h1⟩
/-- Keys that are structs: what is asked is 'are they equal'. -/
theorem KeyTy.ofS {P : Program} {kt : TypeId} {κ : Type} {kv : κ → Value} (hw : (match P.underlying kt with | some (.array _ _) | some (.struct _) => true | _ => false) = true)
    (heq : ∀ a b w, ∃ r, (Op.equal kt (kv a) (kv b)).run P w = .ok r w ∧ (r = true ↔ a = b)) (chk : ∀ (e : Bool) (k : κ) (w : World), (Instr.checkKey e 10000 kt (kv k)).run P w = .ok () w) (inj : ∀ a b, kv a = kv b → a = b) : KeyTy P kt kv := by
  refine ⟨fun l k hl => ?_, chk, inj⟩
  have hrun : ∀ w, (Instr.findKey kt (kv k) l).run P w = (Instr.findAsking kt (kv k) l).run P w := fun w => run_findKey_eq w hw (kv k) l
  have key : ∀ (l : List MapEntry) (i : Nat), (∀ x ∈ l, ∃ a, x.key = kv a) →
      ((∀ x ∈ l, x.key ≠ kv k) ∧ ∀ w, (Instr.findAsking kt (kv k) l i).run P w = .ok none w) ∨ ∃ j e, l[j]? = some e ∧ e.key = kv k ∧ ∀ w, (Instr.findAsking kt (kv k) l i).run P w = .ok (some (i + j, e.val)) w := by
    intro l
    induction l with
    | nil => exact fun i _ => .inl ⟨by simp, fun w => rfl⟩
    | cons x l ih =>
      intro i hl
      obtain ⟨a, ha⟩ := hl x List.mem_cons_self
      by_cases hka : k = a
      · refine .inr ⟨0, x, rfl, by rw [ha, hka], fun w => ?_⟩
        obtain ⟨r, h1, h2⟩ := heq k a w
        rw [h2.2 hka] at h1
        simp [Instr.findAsking, ha, h1]
      · have hno : ∀ w, (Op.equal kt (kv k) (kv a)).run P w = .ok false w := fun w => by
          obtain ⟨r, h1, h2⟩ := heq k a w
          rwa [show r = false from by rw [Bool.eq_false_iff]; exact fun h => hka (h2.1 h)] at h1
        rcases ih (i + 1) (fun y hy => hl y (List.mem_cons_of_mem _ hy)) with ⟨h1, h2⟩ | ⟨j, e, h1, h2, h3⟩
        · refine .inl ⟨fun y hy => ?_, fun w => ?_⟩
          · rcases List.mem_cons.1 hy with rfl | hy
            · rw [ha]; exact fun h => hka (inj _ _ h).symm
            · exact h1 y hy
          · simp [Instr.findAsking, ha, hno, h2]
        · refine .inr ⟨j + 1, e, h1, h2, fun w => ?_⟩
          simp only [Instr.findAsking, ha, Sem.run_bind, hno, Result.andThen_ok, Bool.false_eq_true, if_false, Nat.add_assoc] at h3 ⊢
          rw [h3 w, Nat.add_comm 1 j]
  rcases key l 0 hl with ⟨h1, h2⟩ | ⟨j, e, h1, h2, h3⟩
  · exact .inl ⟨h1, fun w => by rw [hrun w]; exact h2 w⟩
  · exact .inr ⟨j, e, h1, h2, fun w => by rw [hrun w, h3 w, Nat.zero_add]⟩

section
variable {P : Program} {κ : Type} [DecidableEq κ] {kv : κ → Value} {kt : TypeId}
def findM (ms : List (Me κ)) (k : κ) : Option (Me κ) := ms.find? fun m => decide (m.k = k)
def cutM (ms : List (Me κ)) (k : κ) : List (Me κ) := ms.filter fun m => !decide (m.k = k)

theorem findM_none {ms : List (Me κ)} {k : κ} : findM ms k = none ↔ ∀ m ∈ ms, m.k ≠ k := by
  simp [findM, List.find?_eq_none]
theorem findM_some {ms : List (Me κ)} {k : κ} (hn : (ms.map (·.k)).Nodup) {m : Me κ} (hm : m ∈ ms) (hk : m.k = k) : findM ms k = some m := by
  induction ms with
  | nil => cases hm
  | cons x ms ih =>
    rw [List.map_cons, List.nodup_cons] at hn
    rcases List.mem_cons.1 hm with rfl | hm'
    · simp [findM, hk]
    · have hne : x.k ≠ k := fun e => hn.1 (List.mem_map.2 ⟨m, hm', by rw [hk, e]⟩)
      have := ih hn.2 hm'
      simp only [findM, List.find?_cons, hne, decide_false] at this ⊢
      exact this

/-- How a key is found. -/
theorem run_find [h : KeyTy P kt kv] (ms : List (Me κ)) (k : κ) (w : World) (hn : (ms.map (·.k)).Nodup) :
    (findM ms k = none ∧ (∀ m ∈ ms, m.k ≠ k) ∧ (Instr.findKey kt (kv k) (ms.map (ent kv))).run P w = .ok none w) ∨
    ∃ j m, findM ms k = some m ∧ ms[j]? = some m ∧ m.k = k ∧ (Instr.findKey kt (kv k) (ms.map (ent kv))).run P w = .ok (some (j, m.v)) w := by
  rcases h.fnd (ms.map (ent kv)) k (fun x hx => by obtain ⟨m, _, rfl⟩ := List.mem_map.1 hx; exact ⟨_, rfl⟩) with ⟨h2, h1⟩ | ⟨j, e, h2, h3, h1⟩
  · have h4 : ∀ m ∈ ms, m.k ≠ k := fun m hm e => h2 (ent kv m) (List.mem_map.2 ⟨m, hm, rfl⟩) (by rw [← e])
    exact .inl ⟨findM_none.2 h4, h4, h1 w⟩
  · rw [List.getElem?_map] at h2
    cases hm : ms[j]? with
    | none => rw [hm] at h2; cases h2
    | some m =>
      rw [hm] at h2
      simp only [Option.map_some, Option.some.injEq] at h2
      subst h2
      have hk' := h.inj _ _ h3
      exact .inr ⟨j, m, findM_some hn (List.mem_of_getElem? hm) hk', hm, hk', h1 w⟩

theorem run_check [h : KeyTy P kt kv] (e : Bool) (k : κ) (w : World) : (Instr.checkKey e 10000 kt (kv k)).run P w = .ok () w := by
  exact h.chk e k w

variable {n : Nf} {F : Fm} {l : Env} {hl : Hl} {ty : TypeId} {pos : String} {af : Array Edge} {g : Option (Nat × Bool)} {d : Option Tmp}

/-- m[k] -/
theorem Ev.lookup {t e b clock : Nat} {x y : Operand} {ms : List (Me κ)} {k : κ} {z : Value} [ht : TyUnder P t (.map kt e)] [h : KeyTy P kt kv] [hz : TyZero P e z] (hx : ev l x = some (.map (some b))) (hy : ev l y = some (kv k)) [hb : Has F hl b (mapO kv ms clock)]
    (hn : (ms.map (·.k)).Nodup) : Ev P n F l hl ⟨d, .lookup t x y false, ty, pos, af, g⟩ (((findM ms k).map (·.v)).getD z) := fun a w hf hs => by
  have h1 := hb.st hs
  have h2 : (getObj b).run P w = .ok (mapO kv ms clock) w := Go.MapKept.run_getObj_map h1
  rcases run_find (P := P) (kt := kt) (kv := kv) ms k w hn with ⟨h3, _, h4⟩ | ⟨j, m, h3, _, _, h4⟩
  · simp [execOp, hf.ev hx, hf.ev hy, Instr.lookup, run_underlying ht.under, h2, mapO, run_check, h4, hz.zero, h3]
  · simp [execOp, hf.ev hx, hf.ev hy, Instr.lookup, run_underlying ht.under, h2, mapO, run_check, h4, h3]

theorem Ev.lenM {t e b clock : Nat} {x : Operand} {ms : List (Me κ)} [ht : TyUnder P t (.map kt e)] (hx : ev l x = some (.map (some b))) [hb : Has F hl b (mapO kv ms clock)] :
    Ev P n F l hl ⟨d, .call { callee := .builtin .len, args := #[x], argTypes := #[t] }, ty, pos, af, g⟩ (.int .i64 (ms.length : Int)) := fun a w hf hs => by
  have h1 := hb.st hs
  have h2 : (getObj b).run P w = .ok (mapO kv ms clock) w := Go.MapKept.run_getObj_map h1
  simp [execOp, resolve, invoke, builtin, Builtin.len_, run_underlying ht.under, hf.ev hx, h2, mapO, goInt]

/-- What a range reads of the entry at which it stands. -/
theorem Ev.entry {b clock it since : Nat} {x : Operand} {ms : List (Me κ)} {seen : Array Nat} (m : Me κ) (hx : ev l x = some (.pointer (some ⟨it, 0, none⟩))) [hi : Has F hl it (.mapIter (some b) since (seen.push m.born) clock)] [hb : Has F hl b (mapO kv ms clock)]
    (hm : m ∈ ms) (hn : (ms.map (·.born)).Nodup) : Ev P n F l hl ⟨d, .entry x, ty, pos, af, g⟩ (.tuple #[kv m.k, m.v]) := fun a w hf hs => by
  have h := run_entry_at (P := P) w it b since seen (ms.map (ent kv)).toArray clock (ent kv m) (hi.st hs) (hb.st hs) (by rw [List.toList_toArray]; exact List.mem_map.2 ⟨m, hm, rfl⟩) (by rw [List.toList_toArray, List.map_map]; exact hn)
  simp [execOp, hf.ev hx, h]

variable {Qf : Exit → Act → World → Prop} {ks : List KItem} {ops : List Oper} {clr : List Nat} {hs : Hl} {r : Sd} {i : Nat}

theorem Rg.makeMap {t0 t : Nat} (kv : κ → Value) (ho : nth ops i = some ⟨some t0, .makeMap t none, ty, pos, af, g⟩) (hg : wantB ops l g = some true) (ht : Nat.blt t0 n.n = true)
    (h : ∀ b, Rg P Qf n F ks ops clr ((b, mapO kv [] 0) :: hl) r ((t0, .map (some b)) :: l) ((b, mapO kv [] 0) :: hl)) : Rg P Qf n F ks ops clr hl (.st i .eff r) l hl :=
  Rg.run ho hg fun a w hf hh => ⟨{ w with heap := w.heap.push (mapO kv [] 0) }, (t0, .map (some w.heap.size)) :: l, (w.heap.size, mapO kv [] 0) :: hl, _,
    .inl ⟨_, by simp [execOp, Instr.makeMap, run_new, mapO], hf.put ht _⟩, hh.alloc _, (hh.alloc _).st, .one, h _⟩

/-- m[k] = v, where k is not there -/
theorem Rg.mapPut {t e b clock : Nat} {x y z : Operand} {ms : List (Me κ)} {k : κ} {v : Value} {put : Obj → Hl} [ht : TyUnder P t (.map kt e)] [h : KeyTy P kt kv] (ho : nth ops i = some ⟨d, .mapUpdate t x y z, ty, pos, af, g⟩) (hg : wantB ops l g = some true) (hd : d = none)
    (hx : ev l x = some (.map (some b))) (hy : ev l y = some (kv k)) (hz : ev l z = some v) [hb : Lens hl b (mapO kv ms clock) put] (hno : ∀ m ∈ ms, m.k ≠ k) (hn : (ms.map (·.k)).Nodup) (hclr : clr.contains i = true)
    (hc : Rg P Qf n F ks ops clr (put (mapO kv (ms ++ [⟨k, v, clock⟩]) (clock + 1))) r l (put (mapO kv (ms ++ [⟨k, v, clock⟩]) (clock + 1)))) : Rg P Qf n F ks ops clr hs (.st i .eff r) l hl :=
  Rg.run ho hg fun a w hf hh => by
    subst hd
    have h1 := hh.own b _ hb.mem
    have h2 : (getObj b).run P w = .ok (mapO kv ms clock) w := Go.MapKept.run_getObj_map h1
    rcases run_find (P := P) (kt := kt) (kv := kv) ms k w hn with ⟨_, _, h4⟩ | ⟨j, m, _, hm, hk, _⟩
    · have h5 : (setObj b (mapO kv (ms ++ [⟨k, v, clock⟩]) (clock + 1))).run P w = .ok () (putB w b (mapO kv (ms ++ [⟨k, v, clock⟩]) (clock + 1))) := run_setObj_map _ h1
      simp only [mapO, List.map_append, List.map_cons, List.map_nil] at h5
      exact ⟨putB w b (mapO kv (ms ++ [⟨k, v, clock⟩]) (clock + 1)), l, _, _, .inr ⟨by simp [execOp, hf.ev hx, hf.ev hy, hf.ev hz, Instr.mapUpdate, run_underlying ht.under, h2, mapO, run_check, h4, h5], hf⟩, hb.putB hh _, (hb.putB hh _).st, .inl hclr, hc⟩
    · exact absurd hk (hno m (List.mem_of_getElem? hm))

theorem cutM_erase {ms : List (Me κ)} {j : Nat} {m : Me κ} (hn : (ms.map (·.k)).Nodup) (hm : ms[j]? = some m) : ms.eraseIdx j = cutM ms m.k := by
  induction ms generalizing j with
  | nil => simp at hm
  | cons x ms ih =>
    rw [List.map_cons, List.nodup_cons] at hn
    cases j with
    | zero =>
      simp only [List.getElem?_cons_zero, Option.some.injEq] at hm
      subst hm
      have : cutM ms x.k = ms := by
        rw [cutM, List.filter_eq_self]
        intro y hy
        have : y.k ≠ x.k := fun e => hn.1 (List.mem_map.2 ⟨y, hy, e⟩)
        simp [this]
      rw [List.eraseIdx_cons_zero]
      have e2 : cutM (x :: ms) x.k = cutM ms x.k := by simp [cutM]
      rw [e2, this]
    | succ j =>
      simp only [List.getElem?_cons_succ] at hm
      have hne : x.k ≠ m.k := fun e => hn.1 (List.mem_map.2 ⟨m, List.mem_of_getElem? hm, e.symm⟩)
      rw [List.eraseIdx_cons_succ, ih hn.2 hm]
      simp [cutM, hne]

/-- delete(m, k), where k is there -/
theorem Rg.mapDel {t t' e b clock : Nat} {x y : Operand} {ms : List (Me κ)} {k : κ} {put : Obj → Hl} [ht : TyUnder P t (.map kt e)] [h : KeyTy P kt kv] (ho : nth ops i = some ⟨d, .call { callee := .builtin .delete, args := #[x, y], argTypes := #[t, t'] }, ty, pos, af, g⟩) (hg : wantB ops l g = some true) (hd : d = none)
    (hx : ev l x = some (.map (some b))) (hy : ev l y = some (kv k)) [hb : Lens hl b (mapO kv ms clock) put] (hin : ∃ m ∈ ms, m.k = k) (hn : (ms.map (·.k)).Nodup) (hclr : clr.contains i = true)
    (hc : Rg P Qf n F ks ops clr (put (mapO kv (cutM ms k) clock)) r l (put (mapO kv (cutM ms k) clock))) : Rg P Qf n F ks ops clr hs (.st i .eff r) l hl :=
  Rg.run ho hg fun a w hf hh => by
    subst hd
    have h1 := hh.own b _ hb.mem
    have h2 : (getObj b).run P w = .ok (mapO kv ms clock) w := Go.MapKept.run_getObj_map h1
    rcases run_find (P := P) (kt := kt) (kv := kv) ms k w hn with ⟨_, hno, _⟩ | ⟨j, m, _, hm, hk, h4⟩
    · obtain ⟨m, hm, hk⟩ := hin
      exact absurd hk (hno m hm)
    · have hj := (List.getElem?_eq_some_iff.1 hm).1
      have h6 : (ms.map (ent kv)).eraseIdx j = (cutM ms k).map (ent kv) := by
        rw [← hk, ← cutM_erase hn hm, Go.ChangeMaps.map_eraseIdx]
      have h5 : (setObj b (mapO kv (cutM ms k) clock)).run P w = .ok () (putB w b (mapO kv (cutM ms k) clock)) := run_setObj_map _ h1
      simp only [mapO] at h5
      have h8 : (ms.map (ent kv)).toArray.eraseIdxIfInBounds j = ((cutM ms k).map (ent kv)).toArray := by
        rw [← h6]
        simp [Array.eraseIdxIfInBounds, hj]
      refine ⟨putB w b (mapO kv (cutM ms k) clock), l, _, _, .inl ⟨.tuple #[], ?_, hf⟩, hb.putB hh _, (hb.putB hh _).st, .inl hclr, hc⟩
      simp only [execOp, resolve, invoke, builtin, hf.ev hx, hf.ev hy, Builtin.delete_, run_underlying ht.under, h2, mapO, run_check, h4, h8, h5, Sem.run_bind, Sem.run_pure, Result.andThen_ok, List.map_toArray, List.map_cons, List.map_nil, List.getElem?_toArray, List.getElem?_cons_zero, List.getElem?_cons_succ]

/-- A range begins. -/
theorem Rg.range {t0 t e b clock : Nat} {x : Operand} {ms : List (Me κ)} [ht : TyUnder P t (.map kt e)] (ho : nth ops i = some ⟨some t0, .range t x, ty, pos, af, g⟩) (hg : wantB ops l g = some true) (ht0 : Nat.blt t0 n.n = true)
    (hx : ev l x = some (.map (some b))) [hb : Has F hl b (mapO kv ms clock)]
    (h : ∀ it, Rg P Qf n F ks ops clr ((it, .mapIter (some b) clock #[] clock) :: hl) r ((t0, .pointer (some ⟨it, 0, none⟩)) :: l) ((it, .mapIter (some b) clock #[] clock) :: hl)) : Rg P Qf n F ks ops clr hl (.st i .eff r) l hl :=
  Rg.run ho hg fun a w hf hh => by
    have h2 : (getObj b).run P w = .ok (mapO kv ms clock) w := Go.MapKept.run_getObj_map (hb.hp hh)
    exact ⟨{ w with heap := w.heap.push (.mapIter (some b) clock #[] clock) }, (t0, .pointer (some ⟨w.heap.size, 0, none⟩)) :: l, (w.heap.size, .mapIter (some b) clock #[] clock) :: hl, _,
      .inl ⟨_, by simp [execOp, Instr.range, run_underlying ht.under, hf.ev hx, h2, mapO, run_new], hf.put ht0 _⟩, hh.alloc _, (hh.alloc _).st, .one, h _⟩

/-- .. and goes on: to an entry that it has not met, or to its end, where all were met. -/
theorem Rg.next {t0 b clock it since c0 : Nat} {x : Operand} {ms : List (Me κ)} {seen : Array Nat} {put : Obj → Hl} (ho : nth ops i = some ⟨some t0, .next x false, ty, pos, af, g⟩) (hg : wantB ops l g = some true) (ht0 : Nat.blt t0 n.n = true)
    (hx : ev l x = some (.pointer (some ⟨it, 0, none⟩))) [hi : Lens hl it (.mapIter (some b) since seen c0) put] [hb : Has F hl b (mapO kv ms clock)] (hold : ∀ m ∈ ms, m.born < since) (hsc : since ≤ c0) (hclr : clr.contains i = true)
    (h0 : (∀ m ∈ ms, seen.contains m.born = true) → Rg P Qf n F ks ops clr hl r ((t0, .tuple #[.bool false]) :: l) hl)
    (h1 : ∀ m ∈ ms, seen.contains m.born = false → Rg P Qf n F ks ops clr (put (.mapIter (some b) since (seen.push m.born) clock)) r ((t0, .tuple #[.bool true, kv m.k, m.v]) :: l) (put (.mapIter (some b) since (seen.push m.born) clock))) :
    Rg P Qf n F ks ops clr hs (.st i .eff r) l hl :=
  Rg.run ho hg fun a w hf hh => by
    rcases run_next_at (P := P) w ty it b since c0 seen (ms.map (ent kv)).toArray clock (hh.own it _ hi.mem) (hb.hp hh) (fun x hx => by
      have hx' : x ∈ ms.map (ent kv) := by simpa using hx
      obtain ⟨m, hm, rfl⟩ := List.mem_map.1 hx'
      exact hold m hm) hsc with ⟨he, hr⟩ | ⟨e, he, w1, hw1, hr⟩
    · refine ⟨w, _, _, _, .inl ⟨_, by simp [execOp, hf.ev hx, hr], hf.put ht0 _⟩, hh, hh.st, .inl hclr, h0 fun m hm => ?_⟩
      have h2 := Array.eq_empty_of_size_eq_zero he
      rw [leftOf, Array.filter_eq_empty_iff] at h2
      have := h2 (ent kv m) (by rw [List.mem_toArray]; exact List.mem_map.2 ⟨m, hm, rfl⟩)
      simpa using this
    · have he' : e ∈ ms.map (ent kv) ∧ seen.contains e.born = false := by
        simp only [leftOf, Array.toList_filter, List.mem_filter] at he
        exact ⟨by simpa using he.1, by simpa using he.2⟩
      obtain ⟨hme, hnew⟩ := he'
      obtain ⟨m, hm, rfl⟩ := List.mem_map.1 hme
      have hh1 : Hp F hl w1 := by rcases hw1 with rfl | rfl; exact hh; exact hh.drew
      exact ⟨_, _, _, _, .inl ⟨_, by simp [execOp, hf.ev hx, hr, ChangeMaps.setBlock, Go.Proofs.Ytmocncadncgaaaa.putB], hf.put ht0 _⟩, hi.putB hh1 _, (hi.putB hh1 _).st, .inl hclr, h1 m hm hnew⟩

/-- make([]T, 0, c) -/
theorem Rg.make0 {α : Type} (E : Enc α) {t0 t B c : Nat} {x y : Operand} {kl kc : IntKind} [hT : TySl P t E B] (ho : nth ops i = some ⟨some t0, .makeSlice t x y, ty, pos, af, g⟩) (hg : wantB ops l g = some true) (ht0 : Nat.blt t0 n.n = true)
    (hx : ev l x = some (.int kl 0)) (hy : ev l y = some (.int kc (c : Int))) (hc : B * c ≤ 281474976710656 ∧ c ≤ maxLen)
    (h : ∀ b sp, Own E (.slice (some ⟨b, 0, none⟩) 0 c) [] [(b, rowS E [] sp)] → Rg P Qf n F ks ops clr ((b, rowS E [] sp) :: hl) r ((t0, .slice (some ⟨b, 0, none⟩) 0 c) :: l) ((b, rowS E [] sp) :: hl)) : Rg P Qf n F ks ops clr hl (.st i .eff r) l hl :=
  Rg.run ho hg fun a w hf hh => by
    obtain ⟨inf, z, hi, hz, hsz, hby, hzs⟩ := hT.info
    have hm : (maxLen : Int) ≤ 9223372036854775807 := by simp [maxLen]
    have hb' : (inf.bytes : Int) * (c : Int) ≤ 281474976710656 := by
      have h : ((inf.bytes * c : Nat) : Int) ≤ 281474976710656 := by rw [hby]; omega
      rwa [Int.natCast_mul] at h
    have hr := run_make (P := P) w t E.tid inf z hT.under hi hz kl kc 0 c (Int.le_refl _) (by omega) hb' (by omega)
    simp only [Int.toNat_zero, Int.toNat_natCast] at hr
    have e : w.alloc (.cells (madeCells z.cells (c * inf.size)) E.tid) = { w with heap := w.heap.push (rowS E [] (madeCells z.cells (c * inf.size)).toList) } := by
      show ({ w with heap := w.heap.push _ } : World) = _
      simp [rowS, flat]
    rw [e] at hr
    refine ⟨_, (t0, .slice (some ⟨w.heap.size, 0, none⟩) 0 c) :: l, (w.heap.size, rowS E [] (madeCells z.cells (c * inf.size)).toList) :: hl, _, .inl ⟨_, by simp [execOp, hf.ev hx, hf.ev hy, hr], hf.put ht0 _⟩, hh.alloc _, (hh.alloc _).st, .one, h _ _ (.blk _ c [] _ ?_ hc.2)⟩
    have := size_madeCells z.cells (c * inf.size)
    rw [hsz] at this ⊢
    simp [this]

/-! ### A pointer beside nil -/
theorem run_equal_nilP {t e : TypeId} {p : Option Addr} {w : World} (h : P.underlying t = some (.pointer e)) : (Op.equal t (.pointer p) (.pointer none)).run P w = .ok p.isNone w := by
  have key : ∀ n, (Op.equalIn (n + 1) t (.pointer p) (.pointer none)).run P w = .ok p.isNone w := fun n => by
    cases p <;> simp [Op.equalIn, run_underlying h]
  exact key 9999
theorem Pv.neqNil {t t' e : TypeId} {x y : Operand} {p : Option Addr} [h : TyUnder P t (.pointer e)] (hx : ev l x = some (.pointer p)) (hy : ev l y = some (.pointer none)) : Pv P n l ⟨d, .binOp .neq t x y t', ty, pos, af, g⟩ (.bool p.isSome) := fun a w hf => by
  have := run_equal_nilP (P := P) (t := t) (p := p) (w := w) h.under
  cases p <;> simp [execOp, hf.ev hx, hf.ev hy, eqGuard, binOp, this]
theorem Pv.eqlNil {t t' e : TypeId} {x y : Operand} {p : Option Addr} [h : TyUnder P t (.pointer e)] (hx : ev l x = some (.pointer p)) (hy : ev l y = some (.pointer none)) : Pv P n l ⟨d, .binOp .eql t x y t', ty, pos, af, g⟩ (.bool p.isNone) := fun a w hf => by
  have := run_equal_nilP (P := P) (t := t) (p := p) (w := w) h.under
  cases p <;> simp [execOp, hf.ev hx, hf.ev hy, eqGuard, binOp, this]
/-! ### Strings beside one another -/
theorem Pv.eqlS {t t' : TypeId} {x y : Operand} {p q : ByteArray} [h : TyUnder P t .string] (hx : ev l x = some (.string p)) (hy : ev l y = some (.string q)) : Pv P n l ⟨d, .binOp .eql t x y t', ty, pos, af, g⟩ (.bool (decide (p = q))) := fun a w hf => by
  have e : (p.toList == q.toList) = decide (p = q) := by
    rw [Bool.eq_iff_iff, decide_eq_true_eq, ByteArray.toList_eq, ByteArray.toList_eq, beq_iff_eq]
    exact ⟨fun h => (by obtain ⟨⟨x⟩⟩ := p; obtain ⟨⟨y⟩⟩ := q; simp only at h; rw [h]), fun h => by rw [h]⟩
  simp [execOp, hf.ev hx, hf.ev hy, eqGuard, binOp, Op.stringOp, e]
theorem Pv.neqS {t t' : TypeId} {x y : Operand} {p q : ByteArray} [h : TyUnder P t .string] (hx : ev l x = some (.string p)) (hy : ev l y = some (.string q)) : Pv P n l ⟨d, .binOp .neq t x y t', ty, pos, af, g⟩ (.bool (!decide (p = q))) := fun a w hf => by
  have e : (p.toList == q.toList) = decide (p = q) := by
    rw [Bool.eq_iff_iff, decide_eq_true_eq, ByteArray.toList_eq, ByteArray.toList_eq, beq_iff_eq]
    exact ⟨fun h => (by obtain ⟨⟨x⟩⟩ := p; obtain ⟨⟨y⟩⟩ := q; simp only at h; rw [h]), fun h => by rw [h]⟩
  simp [execOp, hf.ev hx, hf.ev hy, eqGuard, binOp, Op.stringOp, e]
end
end Go.Proofs.Ytmocncadncgaaaa
