/- Pools, plain: pages as parts of files; what lasts of a pool. -/
import Derived.Test.YtjhegjcjplpmjaaPlD
namespace Go.Proofs.Ytjhegjcjplpmjaa
set_option linter.unusedVariables false

theorem putAt_getP {l bs : List UInt8} {k j : Nat} (hk : k ≤ l.length) : (putAt l k bs)[j]? = if j < k then l[j]? else if j < k + bs.length then bs[j - k]? else l[j]? := by
  unfold putAt
  have hl : (l.take k).length = k := by rw [List.length_take]; omega
  by_cases h1 : j < k
  · rw [if_pos h1, List.append_assoc, List.getElem?_append_left (by omega), List.getElem?_take, if_pos h1]
  · rw [if_neg h1]
    by_cases h2 : j < k + bs.length
    · rw [if_pos h2, List.append_assoc, List.getElem?_append_right (by omega), hl, List.getElem?_append_left (by omega)]
    · rw [if_neg h2, List.getElem?_append_right (by rw [List.length_append]; omega), List.length_append, hl, List.getElem?_drop]
      congr 1
      omega
def chunk (l : List UInt8) (k : Nat) : List UInt8 := (l.drop (64 * k)).take 64
theorem chunk_get (l : List UInt8) (k i : Nat) : (chunk l k)[i]? = if i < 64 then l[64 * k + i]? else none := by
  rw [chunk, List.getElem?_take, List.getElem?_drop]
theorem chunk_len (l : List UInt8) (k : Nat) : (chunk l k).length = min 64 (l.length - 64 * k) := by
  rw [chunk, List.length_take, List.length_drop]
theorem chunk_put {l b : List UInt8} {k o : Nat} (h : o + b.length ≤ (chunk l k).length) (hk : 64 * k ≤ l.length) : chunk (putAt l (64 * k + o) b) k = putAt (chunk l k) o b := by
  have hl := chunk_len l k
  apply List.ext_getElem?
  intro i
  rw [chunk_get, putAt_getP (by omega), putAt_getP (by omega), chunk_get]
  by_cases h1 : i < 64
  · rw [if_pos h1, if_pos h1]
    by_cases h2 : i < o
    · rw [if_pos h2, if_pos (by omega)]
    · rw [if_neg h2, if_neg (by omega)]
      by_cases h3 : i < o + b.length
      · rw [if_pos h3, if_pos (by omega)]; congr 1; omega
      · rw [if_neg h3, if_neg (by omega)]
  · rw [if_neg h1, if_neg h1, if_neg (by omega), if_neg (by omega)]
theorem chunk_put_ne {l b : List UInt8} {k o j : Nat} (h : o + b.length ≤ (chunk l k).length) (hk : 64 * k ≤ l.length) (hj : j ≠ k) : chunk (putAt l (64 * k + o) b) j = chunk l j := by
  have hl := chunk_len l k
  apply List.ext_getElem?
  intro i
  rw [chunk_get, chunk_get, putAt_getP (by omega)]
  by_cases h1 : i < 64
  · rw [if_pos h1, if_pos h1]
    by_cases h2 : 64 * j + i < 64 * k + o
    · rw [if_pos h2]
    · rw [if_neg h2, if_neg (by omega)]
  · rw [if_neg h1, if_neg h1]
theorem put_len {l b : List UInt8} {k : Nat} (h : k + b.length ≤ l.length) : (putAt l k b).length = l.length := by
  rw [putAt_length (by omega)]; omega
theorem put_all {l b : List UInt8} (h : b.length = l.length) : putAt l 0 b = b := by
  rw [putAt, List.take_zero, List.nil_append, Nat.zero_add, List.drop_eq_nil_of_le (by omega), List.append_nil]
theorem chunks_ext {a b : List UInt8} (hl : a.length = b.length) (h : ∀ k, chunk a k = chunk b k) : a = b := by
  apply List.ext_getElem?
  intro i
  have h1 := congrArg (·[i % 64]?) (h (i / 64))
  simp only [chunk_get] at h1
  rw [if_pos (Nat.mod_lt _ (by decide)), if_pos (Nat.mod_lt _ (by decide)), Nat.div_add_mod] at h1
  exact h1

/-! ### What lasts -/
/-- O: what each file has, as the pool shows it. -/
structure PInv (O : List UInt8 → Option (List UInt8)) (fr : Nat) (D : Dk) (L : List Pl) (P : List (Pl × Pg)) : Prop where
  up : D.down = false
  arm : D.armed = 0
  room : D.used ≤ D.room
  file : ∀ nm own, O nm = some own → ∃ f, findF D.files nm = some f ∧ f.now.length = own.length
  nof : ∀ nm, O nm = none → findF D.files nm = none
  keys : (P.map (·.1)).Nodup
  perm : L.Perm (P.map (·.1))
  cap : P.length ≤ fr
  pg : ∀ p x, (p, x) ∈ P → ∃ own, O p.nm = some own ∧ 64 * p.k < own.length ∧ x.b = chunk own p.k
  cl : ∀ nm own f k, O nm = some own → findF D.files nm = some f → (∀ x, (⟨nm, k⟩, x) ∈ P → x.dirty = false) → chunk f.now k = chunk own k
/-- all pages that there can be -/
def Few (O : List UInt8 → Option (List UInt8)) (fr : Nat) : Prop := ∃ all : List Pl, all.length ≤ fr ∧ ∀ nm own k, O nm = some own → 64 * k < own.length → ⟨nm, k⟩ ∈ all
theorem nodup_le {α : Type} [DecidableEq α] : ∀ {l m : List α}, l.Nodup → (∀ x ∈ l, x ∈ m) → l.length ≤ m.length
  | [], m, _, _ => Nat.zero_le _
  | x :: l, m, hn, hs => by
    rw [List.nodup_cons] at hn
    have hx := hs x (by simp)
    have := nodup_le (m := m.erase x) hn.2 fun y hy => (List.mem_erase_of_ne (fun e => hn.1 (by rw [← e]; exact hy))).2 (hs y (by simp [hy]))
    rw [List.length_erase_of_mem hx] at this
    have := List.length_pos_of_mem hx
    rw [List.length_cons]
    omega
theorem PInv.notFull {O : List UInt8 → Option (List UInt8)} {fr : Nat} {D : Dk} {L : List Pl} {P : List (Pl × Pg)} (h : PInv O fr D L P) (hf : Few O fr) {pl : Pl} {own : List UInt8} (ho : O pl.nm = some own) (hk : 64 * pl.k < own.length) (hno : findP P pl = none) : P.length < fr := by
  obtain ⟨all, hl, ha⟩ := hf
  have := nodup_le (l := pl :: P.map (·.1)) (m := all) (List.nodup_cons.2 ⟨fun hm => by
    obtain ⟨p, hp, e⟩ := List.mem_map.1 hm
    exact findP_none hno p hp e, h.keys⟩) (fun q hq => by
    rcases List.mem_cons.1 hq with rfl | hq
    · exact ha q.nm own q.k ho hk
    · obtain ⟨p, hp, rfl⟩ := List.mem_map.1 hq
      obtain ⟨own', h1, h2, _⟩ := h.pg p.1 p.2 hp
      exact ha _ _ _ h1 h2)
  simp at this
  omega
theorem PInv.hit {O : List UInt8 → Option (List UInt8)} {fr : Nat} {D : Dk} {L : List Pl} {P : List (Pl × Pg)} (h : PInv O fr D L P) {L' : List Pl} (hL : L'.Perm L) : PInv O fr D L' P :=
  ⟨h.up, h.arm, h.room, h.file, h.nof, h.keys, hL.trans h.perm, h.cap, h.pg, h.cl⟩
theorem PInv.ops {O : List UInt8 → Option (List UInt8)} {fr : Nat} {D : Dk} {L : List Pl} {P : List (Pl × Pg)} (h : PInv O fr D L P) (z : Int) : PInv O fr { D with ops := z } L P :=
  ⟨h.up, h.arm, h.room, h.file, h.nof, h.keys, h.perm, h.cap, h.pg, h.cl⟩
theorem PInv.size {O : List UInt8 → Option (List UInt8)} {fr : Nat} {D : Dk} {L : List Pl} {P : List (Pl × Pg)} (h : PInv O fr D L P) {nm own : List UInt8} (ho : O nm = some own) : sizeD D nm = ((own.length : Int), 0) ∧ (beginsD D).2 = { D with ops := D.ops + 1 } := by
  obtain ⟨f, hf, hl⟩ := h.file nm own ho
  have hb := begins_up h.arm h.up
  refine ⟨?_, by rw [hb]⟩
  simp only [sizeD, hb]
  rw [if_neg (show ¬ (0 : Int) = 7 by decide), hf]
  simp [hl]
theorem PInv.noSize {O : List UInt8 → Option (List UInt8)} {fr : Nat} {D : Dk} {L : List Pl} {P : List (Pl × Pg)} (h : PInv O fr D L P) {nm : List UInt8} (ho : O nm = none) : sizeD D nm = (0, 4) ∧ (beginsD D).2 = { D with ops := D.ops + 1 } := by
  have hf := h.nof nm ho
  have hb := begins_up h.arm h.up
  refine ⟨?_, by rw [hb]⟩
  simp only [sizeD, hb]
  rw [if_neg (show ¬ (0 : Int) = 7 by decide), hf]
theorem PInv.read {O : List UInt8 → Option (List UInt8)} {fr : Nat} {D : Dk} {L : List Pl} {P : List (Pl × Pg)} (h : PInv O fr D L P) {pl : Pl} {own : List UInt8} (ho : O pl.nm = some own) (hk : 64 * pl.k < own.length) (hno : findP P pl = none) (hcap : P.length < fr) :
    readD D pl.nm ((pl.k * 64 : Nat) : Int) ((min 64 (own.length - pl.k * 64) : Nat) : Int) = (chunk own pl.k, 0) ∧ (beginsD D).2 = { D with ops := D.ops + 1 } ∧ PInv O fr { D with ops := D.ops + 1 } (L ++ [pl]) (P ++ [(pl, ⟨chunk own pl.k, false⟩)]) := by
  obtain ⟨f, hf, hl⟩ := h.file _ own ho
  have hb := begins_up h.arm h.up
  have hnk : ∀ p ∈ P, p.1 ≠ pl := findP_none hno
  have hcl := h.cl pl.nm own f pl.k ho hf (fun x hx => absurd rfl (hnk _ hx))
  refine ⟨?_, by rw [hb], ⟨h.up, h.arm, h.room, h.file, h.nof, ?_, ?_, ?_, ?_, ?_⟩⟩
  · simp only [readD, hb]
    rw [if_neg (show ¬ (0 : Int) = 7 by decide), hf]
    simp only []
    rw [if_neg (by omega), Int.toNat_natCast, Int.toNat_natCast]
    congr 1
    rw [← hcl, chunk, Nat.mul_comm pl.k 64]
    rw [← hl]
    rcases Nat.le_total 64 (f.now.length - 64 * pl.k) with h1 | h1
    · rw [Nat.min_eq_left h1]
    · rw [Nat.min_eq_right h1, List.take_of_length_le (by rw [List.length_drop]; omega), List.take_of_length_le (by rw [List.length_drop]; omega)]
  · rw [List.map_append, List.map_cons, List.map_nil, List.nodup_append]
    exact ⟨h.keys, by simp, fun a ha b hb e => by
      obtain ⟨p, hp, rfl⟩ := List.mem_map.1 ha
      rw [List.mem_singleton] at hb
      exact hnk p hp (e.trans hb)⟩
  · rw [List.map_append]
    exact h.perm.append_right _
  · rw [List.length_append, List.length_singleton]; omega
  · intro p x hx
    rcases List.mem_append.1 hx with hx | hx
    · exact h.pg p x hx
    · rw [List.mem_singleton] at hx
      cases hx
      exact ⟨own, ho, hk, rfl⟩
  · intro nm own' f' k ho' hf' hd
    exact h.cl nm own' f' k ho' hf' fun x hx => hd x (List.mem_append_left _ hx)
theorem PInv.cut {O : List UInt8 → Option (List UInt8)} {fr : Nat} {D : Dk} {L : List Pl} {P : List (Pl × Pg)} (h : PInv O fr D L P) {g : Pl} {x : Pg} (hx : findP P g = some x) (hd : x.dirty = false) {L' : List Pl} (hL : L'.Perm (L.filter fun q => !decide (q = g))) :
    PInv O fr D L' (cutP P g) ∧ (cutP P g).length + 1 = P.length ∧ findP (cutP P g) g = none := by
  have hgm : g ∈ P.map (·.1) := List.mem_map.2 ⟨_, findP_some hx, rfl⟩
  refine ⟨⟨h.up, h.arm, h.room, h.file, h.nof, ?_, ?_, ?_, ?_, ?_⟩, ?_, ?_⟩
  · rw [cutP_keys]; exact h.keys.sublist List.filter_sublist
  · rw [cutP_keys]; exact hL.trans (h.perm.filter _)
  · exact Nat.le_trans (List.length_filter_le _ _) h.cap
  · intro p y hy
    exact h.pg p y (mem_cutP.1 hy).1
  · intro nm own f k ho hf hall
    refine h.cl nm own f k ho hf fun y hy => ?_
    by_cases e : (⟨nm, k⟩ : Pl) = g
    · have := findP_mem h.keys hy
      rw [e, hx] at this
      cases this
      exact hd
    · exact hall y (mem_cutP.2 ⟨hy, e⟩)
  · have h1 : ((cutP P g).map (·.1)) = (P.map (·.1)).erase g := by
      rw [cutP_keys, h.keys.erase_eq_filter]
      exact List.filter_congr fun q _ => by by_cases e : q = g <;> simp [e, bne]
    have h2 := congrArg List.length h1
    rw [List.length_erase_of_mem hgm, List.length_map, List.length_map] at h2
    have h3 := List.length_pos_of_mem hgm
    rw [List.length_map] at h3
    omega
  · cases hc : findP (cutP P g) g with
    | none => rfl
    | some y => exact absurd rfl (mem_cutP.1 (findP_some hc)).2
theorem findF_setF {fs : List (List UInt8 × Fl)} {k j : List UInt8} {f f' : Fl} (hf : findF fs k = some f) : findF (setF fs k f') j = if j = k then some f' else findF fs j := by
  induction fs generalizing f with
  | nil => simp [findF] at hf
  | cons p fs ih =>
    unfold findF setF at *
    rw [List.map_cons]
    by_cases e : p.1 = k
    · rw [if_pos e]
      by_cases ej : j = k
      · rw [if_pos ej, List.find?_cons]; simp [ej]
      · rw [if_neg ej, List.find?_cons, List.find?_cons]
        rw [decide_eq_false (show ¬ k = j from fun h => ej h.symm), decide_eq_false (show ¬ p.1 = j from fun h => ej (by rw [← h, e]))]
        by_cases hk : ∃ f2, findF fs k = some f2
        · obtain ⟨f2, hf2⟩ := hk
          have := ih hf2
          rw [if_neg ej] at this
          exact this
        · have h0 : findF fs k = none := by cases h : findF fs k with
            | none => rfl
            | some f2 => exact absurd ⟨f2, h⟩ hk
          have := setF_none (f := f') (findF_none h0)
          unfold setF at this
          rw [this]
    · rw [if_neg e]
      rw [List.find?_cons, decide_eq_false e] at hf
      have := ih hf
      rw [List.find?_cons, List.find?_cons]
      by_cases ej : j = k
      · rw [if_pos ej] at this ⊢
        rw [decide_eq_false (show ¬ p.1 = j from fun h => e (by rw [h, ej]))]
        exact this
      · rw [if_neg ej] at this ⊢
        split
        · rfl
        · exact this
theorem PInv.clean {O : List UInt8 → Option (List UInt8)} {fr : Nat} {D : Dk} {L : List Pl} {P : List (Pl × Pg)} (h : PInv O fr D L P) {g : Pl} {x : Pg} (hx : findP P g = some x) :
    ∃ D', (x.dirty = true → writeD D g.nm (some ((g.k * 64 : Nat) : Int)) x.b = (0, D')) ∧ (x.dirty = false → D' = D) ∧ PInv O fr D' L (setP P g ⟨x.b, false⟩) ∧ D'.ops ≤ D.ops + 1 ∧ D.ops ≤ D'.ops := by
  cases hd : x.dirty with
  | false =>
    refine ⟨D, (fun e => by cases e), fun _ => rfl, ?_, by omega, by omega⟩
    rw [show (⟨x.b, false⟩ : Pg) = x from by rw [← hd], setP_self h.keys hx]
    exact h
  | true =>
    obtain ⟨own, ho, hk, hb⟩ := h.pg g x (findP_some hx)
    obtain ⟨f, hf, hl⟩ := h.file _ own ho
    have hbg := begins_up h.arm h.up
    have hcl := chunk_len own g.k
    have hxl : x.b.length = min 64 (own.length - 64 * g.k) := by rw [hb, hcl]
    have hput : (putAt f.now (64 * g.k) x.b).length = f.now.length := put_len (by omega)
    have hw : wrG D.room D.used f.now ((g.k * 64 : Nat) : Int) x.b = (0, D.used, putAt f.now (64 * g.k) x.b) := by
      unfold wrG
      rw [if_neg (by omega), Int.toNat_natCast, Nat.mul_comm g.k 64, show max f.now.length (64 * g.k + x.b.length) = f.now.length from by omega, if_neg (by have := h.room; omega)]
      congr 2
      omega
    refine ⟨{ D with ops := D.ops + 1, files := setF D.files g.nm ⟨putAt f.now (64 * g.k) x.b, f.synced⟩ }, fun _ => ?_, (fun e => by cases e), ⟨h.up, h.arm, h.room, ?_, ?_, ?_, ?_, ?_, ?_, ?_⟩, Int.le_refl _, by show D.ops ≤ D.ops + 1; omega⟩
    · simp only [writeD, hbg]
      rw [if_neg (show ¬ (0 : Int) = 7 by decide), hf]
      simp only [Option.getD_some, hw]
    · intro nm own' ho'
      show ∃ f', findF (setF D.files g.nm _) nm = some f' ∧ _
      rw [findF_setF hf]
      by_cases e : nm = g.nm
      · rw [if_pos e]
        subst e
        rw [ho] at ho'
        cases ho'
        exact ⟨_, rfl, by rw [← hl]; exact hput⟩
      · rw [if_neg e]; exact h.file nm own' ho'
    · intro nm hn
      show findF (setF D.files g.nm _) nm = none
      rw [findF_setF hf]
      by_cases e : nm = g.nm
      · subst e; rw [ho] at hn; cases hn
      · rw [if_neg e]; exact h.nof nm hn
    · rw [setP_keys]; exact h.keys
    · rw [setP_keys]; exact h.perm
    · rw [setP, List.length_map]; exact h.cap
    · intro p y hy
      rcases mem_setP hy with e | ⟨hy, _⟩
      · cases e; exact ⟨own, ho, hk, hb⟩
      · exact h.pg p y hy
    · intro nm own' f' k ho' hf' hall
      change findF (setF D.files g.nm _) nm = some f' at hf'
      rw [findF_setF hf] at hf'
      have hall' : (⟨nm, k⟩ : Pl) ≠ g → ∀ y, (⟨nm, k⟩, y) ∈ P → y.dirty = false := fun e y hy => hall y (List.mem_map.2 ⟨_, hy, if_neg e⟩)
      by_cases e : nm = g.nm
      · rw [if_pos e] at hf'
        cases hf'
        subst e
        rw [ho] at ho'
        cases ho'
        by_cases ek : k = g.k
        · subst ek
          show chunk (putAt f.now (64 * g.k) x.b) g.k = _
          have := chunk_put (l := f.now) (b := x.b) (k := g.k) (o := 0) (by rw [chunk_len]; omega) (by omega)
          rw [Nat.add_zero] at this
          rw [this, put_all (by rw [chunk_len]; omega), hb]
        · show chunk (putAt f.now (64 * g.k) x.b) k = _
          have := chunk_put_ne (l := f.now) (b := x.b) (k := g.k) (o := 0) (j := k) (by rw [chunk_len]; omega) (by omega) ek
          rw [Nat.add_zero] at this
          rw [this]
          exact h.cl g.nm own f k ho hf (hall' fun e => ek (by rw [← e]))
      · rw [if_neg e] at hf'
        exact h.cl nm own' f' k ho' hf' (hall' fun e2 => e (by rw [← e2]))
/-- a file has other bytes -/
def setO (O : List UInt8 → Option (List UInt8)) (nm own : List UInt8) : List UInt8 → Option (List UInt8) := fun n => if n = nm then some own else O n
/-- A page is turned. -/
theorem PInv.write {O : List UInt8 → Option (List UInt8)} {fr : Nat} {D : Dk} {L : List Pl} {P : List (Pl × Pg)} (h : PInv O fr D L P) {pl : Pl} {own own' : List UInt8} {x : Pg} (hx : findP P pl = some x) (ho : O pl.nm = some own) (hlen : own'.length = own.length) (hk : 64 * pl.k < own.length)
    (hne : ∀ j, j ≠ pl.k → chunk own' j = chunk own j) {d : Bool} (hd : d = true ∨ (d = x.dirty ∧ own' = own)) : PInv (setO O pl.nm own') fr D L (setP P pl ⟨chunk own' pl.k, d⟩) := by
  refine ⟨h.up, h.arm, h.room, ?_, ?_, by rw [setP_keys]; exact h.keys, by rw [setP_keys]; exact h.perm, by rw [setP, List.length_map]; exact h.cap, ?_, ?_⟩
  · intro nm o hnm
    unfold setO at hnm
    by_cases e : nm = pl.nm
    · rw [if_pos e] at hnm
      cases hnm
      obtain ⟨f, hf, hl⟩ := h.file _ own ho
      exact ⟨f, by rw [e]; exact hf, by omega⟩
    · rw [if_neg e] at hnm
      exact h.file nm o hnm
  · intro nm hnm
    unfold setO at hnm
    by_cases e : nm = pl.nm
    · rw [if_pos e] at hnm; cases hnm
    · rw [if_neg e] at hnm; exact h.nof nm hnm
  · intro p y hy
    rcases mem_setP hy with e | ⟨hy, hn⟩
    · cases e
      exact ⟨own', by simp [setO], by omega, rfl⟩
    · obtain ⟨o, h1, h2, h3⟩ := h.pg p y hy
      by_cases e : p.nm = pl.nm
      · rw [e, ho] at h1
        cases h1
        exact ⟨own', by simp [setO, e], by omega, by rw [h3, hne p.k fun ek => hn (by obtain ⟨a, b⟩ := p; obtain ⟨c, d⟩ := pl; simp only at e ek; rw [e, ek])]⟩
      · exact ⟨o, by simp [setO, e, h1], h2, h3⟩
  · intro nm o f k hnm hf hall
    have hall' : (⟨nm, k⟩ : Pl) ≠ pl → ∀ y, (⟨nm, k⟩, y) ∈ P → y.dirty = false := fun e y hy => hall y (List.mem_map.2 ⟨_, hy, if_neg e⟩)
    unfold setO at hnm
    by_cases e : nm = pl.nm
    · rw [if_pos e] at hnm
      cases hnm
      subst e
      by_cases ek : k = pl.k
      · subst ek
        have h1 := hall ⟨chunk own' pl.k, d⟩ (List.mem_map.2 ⟨_, findP_some hx, if_pos rfl⟩)
        simp only at h1
        rcases hd with h2 | ⟨h2, h3⟩
        · rw [h1] at h2; cases h2
        · rw [h3]
          refine h.cl _ own f pl.k ho hf fun y hy => ?_
          have := findP_mem h.keys hy
          rw [show (⟨pl.nm, pl.k⟩ : Pl) = pl from rfl, hx] at this
          cases this
          rw [← h2]; exact h1
      · rw [hne k ek]
        exact h.cl _ own f k ho hf (hall' fun e => ek (by rw [← e]))
    · rw [if_neg e] at hnm
      exact h.cl nm o f k hnm hf (hall' fun e2 => e (by rw [← e2]))
theorem setO_self {O : List UInt8 → Option (List UInt8)} {nm own : List UInt8} (h : O nm = some own) : setO O nm own = O := by
  funext n
  unfold setO
  by_cases e : n = nm
  · rw [if_pos e, e, h]
  · rw [if_neg e]
theorem setO_setO (O : List UInt8 → Option (List UInt8)) (nm a b : List UInt8) : setO (setO O nm a) nm b = setO O nm b := by
  funext n
  unfold setO
  by_cases e : n = nm
  · rw [if_pos e, if_pos e]
  · rw [if_neg e, if_neg e, if_neg e]
end Go.Proofs.Ytjhegjcjplpmjaa
