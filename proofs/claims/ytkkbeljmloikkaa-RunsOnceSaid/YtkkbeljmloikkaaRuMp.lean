/- Rows that rise, merged by a heap of their heads: plain. -/
import Derived.Test.YtkkbeljmloikkaaRuC
import Derived.Test.YtkkbeljmloikkaaRuH
namespace Go.Proofs.Ytkkbeljmloikkaa
set_option linter.unusedVariables false
open HH (Hd)

def rcOf (h : Hd) : Rc := ⟨h.key, h.val⟩
theorem rcOf_ge {a b : Hd} (h : HH.ltR a b = false) : ltR (rcOf a) (rcOf b) = false := by
  rw [← Bool.not_eq_true, HH.ltR_iff] at h
  rw [← Bool.not_eq_true, ltR_iff]
  simp only [rcOf]
  omega
theorem set_flat {α : Type} [Inhabited α] : ∀ (rss : List (List α)) (i : Nat) (ys : List α), i < rss.length → ((rss.set i ys).flatten ++ rss[i]!).Perm (ys ++ rss.flatten)
  | [], i, ys, h => by simp at h
  | r :: rss, 0, ys, _ => by
    have : (r :: rss)[0]! = r := rfl
    rw [this, List.set_cons_zero, List.flatten_cons, List.flatten_cons, List.append_assoc]
    exact (List.perm_append_comm).append_left ys
  | r :: rss, i + 1, ys, h => by
    have ih := set_flat rss i ys (by simpa using h)
    have : (r :: rss)[i + 1]! = rss[i]! := by simp
    rw [this, List.set_cons_succ, List.flatten_cons, List.flatten_cons, List.append_assoc]
    refine (ih.append_left r).trans ?_
    rw [← List.append_assoc, ← List.append_assoc]
    exact (List.perm_append_comm).append_right _
theorem set_get' {α : Type} [Inhabited α] (l : List α) (i j : Nat) (x : α) (hj : j < l.length) : (l.set i x)[j]! = if i = j then x else l[j]! := by
  rw [getElem!_pos _ j (by simpa using hj), List.getElem_set, getElem!_pos l j hj]

structure MInv (n : Nat) (hs : List Hd) (rss : List (List Rc)) : Prop where
  ok : HH.HeapOK hs
  len : rss.length = n
  runs : ∀ h ∈ hs, ∃ i : Nat, i < n ∧ h.run = (i : Int)
  up : ∀ i, i < n → Rises rss[i]!
  wit : ∀ i, i < n → ∀ y ∈ rss[i]!, ∃ h ∈ hs, h.run = (i : Int) ∧ ltR y (rcOf h) = false
/-- all but one run has its head in the heap -/
structure MBut (n r : Nat) (hs : List Hd) (rss : List (List Rc)) : Prop where
  ok : HH.HeapOK hs
  len : rss.length = n
  runs : ∀ h ∈ hs, ∃ i : Nat, i < n ∧ h.run = (i : Int)
  up : ∀ i, i < n → Rises rss[i]!
  wit : ∀ i, i < n → i ≠ r → ∀ y ∈ rss[i]!, ∃ h ∈ hs, h.run = (i : Int) ∧ ltR y (rcOf h) = false
def allOf (hs : List Hd) (rss : List (List Rc)) : List Rc := hs.map rcOf ++ rss.flatten
/-- the next of a run comes into the heap -/
def nextH (hs : List Hd) (rss : List (List Rc)) (i : Nat) : List Hd := match rss[i]! with
  | [] => hs
  | x :: _ => HH.pushL hs ⟨x.key, x.val, i⟩
def nextR (rss : List (List Rc)) (i : Nat) : List (List Rc) := rss.set i (rss[i]!.drop 1)
theorem next_inv {n r : Nat} {hs : List Hd} {rss : List (List Rc)} (h : MBut n r hs rss) (hr : r < n) : MInv n (nextH hs rss r) (nextR rss r) ∧ (allOf (nextH hs rss r) (nextR rss r)).Perm (allOf hs rss) := by
  have hlen := h.len
  have hup := h.up r hr
  have hsf := set_flat rss r (rss[r]!.drop 1) (by omega)
  have hget : ∀ i, i < n → (nextR rss r)[i]! = if r = i then rss[r]!.drop 1 else rss[i]! := fun i hi => set_get' _ _ _ _ (by omega)
  cases hx : rss[r]! with
  | nil =>
    have e1 : nextH hs rss r = hs := by simp only [nextH, hx]
    rw [e1]
    rw [hx] at hget hsf
    refine ⟨⟨h.ok, by simp [nextR, hlen], h.runs, fun i hi => ?_, fun i hi y hy => ?_⟩, ?_⟩
    · rw [hget i hi]; split
      · exact .nil
      · exact h.up i hi
    · rw [hget i hi] at hy
      by_cases e : r = i
      · rw [if_pos e] at hy; simp at hy
      · rw [if_neg e] at hy; exact h.wit i hi (fun e' => e e'.symm) y hy
    · refine List.Perm.append_left _ ?_
      simpa [nextR, hx] using hsf
  | cons x l =>
    have e1 : nextH hs rss r = HH.pushL hs ⟨x.key, x.val, r⟩ := by simp only [nextH, hx]
    rw [e1]
    rw [hx] at hget hsf hup
    have hp := HH.push_perm hs ⟨x.key, x.val, r⟩
    change (HH.pushL hs ⟨x.key, x.val, r⟩).Perm _ at hp
    have hxl := List.pairwise_cons.1 hup
    refine ⟨⟨HH.push_ok h.ok _, by simp [nextR, hlen], fun y hy => ?_, fun i hi => ?_, fun i hi y hy => ?_⟩, ?_⟩
    · rcases List.mem_cons.1 (hp.mem_iff.1 hy) with h1 | h1
      · exact ⟨r, hr, by rw [h1]⟩
      · exact h.runs y h1
    · rw [hget i hi]; split
      · exact hxl.2
      · exact h.up i hi
    · rw [hget i hi] at hy
      by_cases e : r = i
      · rw [if_pos e] at hy
        exact ⟨⟨x.key, x.val, r⟩, hp.mem_iff.2 List.mem_cons_self, by rw [e], hxl.1 y hy⟩
      · rw [if_neg e] at hy
        obtain ⟨g, hg, h1, h2⟩ := h.wit i hi (fun e' => e e'.symm) y hy
        exact ⟨g, hp.mem_iff.2 (List.mem_cons_of_mem _ hg), h1, h2⟩
    · have p1 : ((HH.pushL hs ⟨x.key, x.val, r⟩).map rcOf).Perm (x :: hs.map rcOf) := hp.map rcOf
      have p2 : (x :: (nextR rss r).flatten).Perm rss.flatten := by
        have : ((nextR rss r).flatten ++ (x :: l)).Perm (l ++ rss.flatten) := by simpa [nextR, hx] using hsf
        have p3 : (l ++ (x :: (nextR rss r).flatten)).Perm (l ++ rss.flatten) := by
          refine List.Perm.trans ?_ this
          rw [show x :: (nextR rss r).flatten = [x] ++ (nextR rss r).flatten from rfl, ← List.append_assoc]
          refine List.perm_append_comm.trans (List.Perm.append_left _ ?_)
          exact List.perm_append_comm
        exact (List.perm_append_left_iff l).1 p3
      unfold allOf
      refine (p1.append_right _).trans ?_
      rw [List.cons_append]
      refine List.Perm.trans ?_ (p2.append_left _)
      exact List.perm_middle.symm
theorem pop_inv {n : Nat} {hs : List Hd} {rss : List (List Rc)} (h : MInv n hs rss) (h0 : 0 < hs.length) : ∃ r : Nat, r < n ∧ hs[0]!.run = (r : Int) ∧ MBut n r (HH.popL hs) rss ∧ (rcOf hs[0]! :: allOf (HH.popL hs) rss).Perm (allOf hs rss) ∧ ∀ y ∈ allOf hs rss, ltR y (rcOf hs[0]!) = false := by
  have hp := HH.pop_perm hs h0
  have hm : hs[0]! ∈ hs := by rw [getElem!_pos hs 0 h0]; exact List.getElem_mem _
  obtain ⟨r, hr, e⟩ := h.runs _ hm
  have hle : ∀ g ∈ hs, ltR (rcOf g) (rcOf hs[0]!) = false := fun g hg => rcOf_ge (HH.heap_le h.ok hg)
  refine ⟨r, hr, e, ⟨HH.pop_ok h.ok, h.len, fun g hg => h.runs g (hp.mem_iff.2 (List.mem_cons_of_mem _ hg)), h.up, fun i hi hne y hy => ?_⟩, ?_, fun y hy => ?_⟩
  · obtain ⟨g, hg, h1, h2⟩ := h.wit i hi y hy
    refine ⟨g, ?_, h1, h2⟩
    rcases List.mem_cons.1 (hp.mem_iff.1 hg) with h3 | h3
    · rw [h3, e] at h1; omega
    · exact h3
  · unfold allOf
    rw [← List.cons_append]
    exact ((hp.map rcOf).symm).append_right _
  · rcases List.mem_append.1 hy with hy | hy
    · obtain ⟨g, hg, rfl⟩ := List.mem_map.1 hy
      exact hle g hg
    · obtain ⟨ys, h1, h2⟩ := List.mem_flatten.1 hy
      obtain ⟨i, hi, rfl⟩ := List.getElem_of_mem h1
      obtain ⟨g, hg, _, h4⟩ := h.wit i (by rw [← h.len]; exact hi) y (by rw [getElem!_pos rss i hi]; exact h2)
      exact geR_trans h4 (hle g hg)

/-- What was popped, and what is there. -/
structure MDone (n : Nat) (T : List Rc) (done : List Rc) (hs : List Hd) (rss : List (List Rc)) : Prop where
  inv : MInv n hs rss
  rises : Rises done
  le : ∀ a ∈ done, ∀ y ∈ allOf hs rss, ltR y a = false
  perm : (done ++ allOf hs rss).Perm T
theorem MDone.step {n : Nat} {T done : List Rc} {hs : List Hd} {rss : List (List Rc)} (h : MDone n T done hs rss) (h0 : 0 < hs.length) :
    ∃ r : Nat, r < n ∧ hs[0]!.run = (r : Int) ∧ MDone n T (done ++ [rcOf hs[0]!]) (nextH (HH.popL hs) rss r) (nextR rss r) ∧ rcOf hs[0]! ∈ T ∧ (allOf (nextH (HH.popL hs) rss r) (nextR rss r)).length + 1 = (allOf hs rss).length := by
  obtain ⟨r, hr, e, hb, hp, hle⟩ := pop_inv h.inv h0
  obtain ⟨hi, hp2⟩ := next_inv hb hr
  have hp3 : (rcOf hs[0]! :: allOf (nextH (HH.popL hs) rss r) (nextR rss r)).Perm (allOf hs rss) := (hp2.cons _).trans hp
  have hx : rcOf hs[0]! ∈ allOf hs rss := hp3.mem_iff.1 List.mem_cons_self
  refine ⟨r, hr, e, ⟨hi, ?_, fun a ha y hy => ?_, ?_⟩, h.perm.mem_iff.1 (List.mem_append_right _ hx), by simpa using hp3.length_eq⟩
  · rw [Rises, List.pairwise_append]
    exact ⟨h.rises, by simp, fun a ha b hb => by rw [List.mem_singleton.1 hb]; exact h.le a ha _ hx⟩
  · have hy' : y ∈ allOf hs rss := hp3.mem_iff.1 (List.mem_cons_of_mem _ hy)
    rcases List.mem_append.1 ha with ha | ha
    · exact h.le a ha y hy'
    · rw [List.mem_singleton.1 ha]; exact hle y hy'
  · rw [List.append_assoc]
    exact (List.Perm.append_left _ hp3).trans h.perm
theorem MDone.fin {n : Nat} {T done : List Rc} {rss : List (List Rc)} (h : MDone n T done [] rss) : done = sortL T := by
  have hf : rss.flatten = [] := by
    rw [List.eq_nil_iff_forall_not_mem]
    intro y hy
    obtain ⟨ys, h1, h2⟩ := List.mem_flatten.1 hy
    obtain ⟨i, hi, rfl⟩ := List.getElem_of_mem h1
    obtain ⟨g, hg, _⟩ := h.inv.wit i (by rw [← h.inv.len]; exact hi) y (by rw [getElem!_pos rss i hi]; exact h2)
    cases hg
  have hp := h.perm
  simp [allOf, hf] at hp
  exact sortL_of hp h.rises

/-- The first rows have come. -/
structure MStart (n k : Nat) (xss : List (List Rc)) (hs : List Hd) (rss : List (List Rc)) : Prop where
  inv : MInv n hs rss
  none : ∀ i, k ≤ i → i < n → rss[i]! = []
  perm : (allOf hs rss).Perm (xss.take k).flatten
theorem MStart.nil (xss : List (List Rc)) : MStart xss.length 0 xss [] (List.replicate xss.length []) where
  inv := ⟨fun j h0 h => by simp at h, by simp, fun _ h => absurd h List.not_mem_nil, fun i hi => by rw [getElem!_pos _ i (by simpa using hi), List.getElem_replicate]; exact .nil, fun i hi y hy => by rw [getElem!_pos _ i (by simpa using hi), List.getElem_replicate] at hy; cases hy⟩
  none := fun i _ hi => by rw [getElem!_pos _ i (by simpa using hi), List.getElem_replicate]
  perm := by simp [allOf]
theorem MStart.step {n k : Nat} {xss : List (List Rc)} {hs : List Hd} {rss : List (List Rc)} (h : MStart n k xss hs rss) (hk : k < n) (hn : n = xss.length) :
    MStart n (k + 1) xss (nextH hs (rss.set k (sortL xss[k]!)) k) (nextR (rss.set k (sortL xss[k]!)) k) := by
  have hlen := h.inv.len
  have hg : ∀ i, i < n → (rss.set k (sortL xss[k]!))[i]! = if k = i then sortL xss[k]! else rss[i]! := fun i hi => set_get' _ _ _ _ (by omega)
  have hb : MBut n k hs (rss.set k (sortL xss[k]!)) := ⟨h.inv.ok, by simpa using hlen, h.inv.runs, fun i hi => by
    rw [hg i hi]; split
    · exact sortL_rises _
    · exact h.inv.up i hi, fun i hi hne y hy => by
    rw [hg i hi, if_neg (fun e => hne e.symm)] at hy; exact h.inv.wit i hi y hy⟩
  obtain ⟨hi, hp⟩ := next_inv hb hk
  refine ⟨hi, fun i h1 h2 => ?_, hp.trans ?_⟩
  · rw [nextR, set_get' _ _ _ _ (by simp; omega), if_neg (by omega), hg i h2, if_neg (by omega)]
    exact h.none i (by omega) h2
  · have hs1 := set_flat rss k (sortL xss[k]!) (by omega)
    rw [h.none k (Nat.le_refl _) hk, List.append_nil] at hs1
    have hp2 := h.perm
    unfold allOf at hp2 ⊢
    have htk : xss.take (k + 1) = xss.take k ++ [xss[k]!] := take_get xss (by omega)
    rw [htk, List.flatten_append, List.flatten_singleton]
    refine (hs1.append_left _).trans ?_
    rw [← List.append_assoc]
    refine (List.perm_append_comm.append_right _).trans ?_
    rw [List.append_assoc]
    exact ((sortL_perm _).append hp2).trans List.perm_append_comm
theorem MStart.done {n : Nat} {xss : List (List Rc)} {hs : List Hd} {rss : List (List Rc)} (h : MStart n n xss hs rss) (hn : n = xss.length) : MDone n xss.flatten [] hs rss where
  inv := h.inv
  rises := .nil
  le := fun _ h => absurd h List.not_mem_nil
  perm := by have := h.perm; rw [List.take_of_length_le (by omega)] at this; simpa using this
end Go.Proofs.Ytkkbeljmloikkaa
