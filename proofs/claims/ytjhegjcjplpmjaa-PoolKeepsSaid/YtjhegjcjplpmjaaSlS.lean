/- slices.SortFunc over a slice of the call's own whose things are of one cell, by the shelf's contract: sorted by a number that the comparison reads. -/
import Derived.Test.YtjhegjcjplpmjaaSlE
import Derived.Shelf.SlSortCmp.NoneTotal
namespace Go.Proofs.Ytjhegjcjplpmjaa
open Go.Proofs Go.Shelf Go.Sort
set_option linter.unusedVariables false

/-- Where all that was there stays, the world has grown. -/
theorem hp_grown {W w' : World} {hl : Hl} (h : Hp ⟨W.os, W.tape, W.output, fun b o => W.heap[b]? = some o, W.drawn⟩ hl w') : ∃ q os', w' = grow (W.drewN q) os' := by
  have hb : ∀ k (hk : k < W.heap.size), w'.heap[k]? = some W.heap[k] := fun k hk => h.frame k _ (Array.getElem?_eq_getElem hk)
  have hsz : W.heap.size ≤ w'.heap.size := by
    by_cases h0 : W.heap.size = 0
    · omega
    · have := (Array.getElem?_eq_some_iff.1 (hb (W.heap.size - 1) (by omega))).1
      omega
  refine ⟨w'.drawn - W.drawn, w'.heap.extract W.heap.size w'.heap.size, ?_⟩
  have hd := h.drawn
  simp only at hd
  have e1 : w'.heap = W.heap ++ w'.heap.extract W.heap.size w'.heap.size := by
    apply Array.ext_getElem?
    intro k
    by_cases hk : k < W.heap.size
    · rw [hb k hk, Array.getElem?_append_left hk, Array.getElem?_eq_getElem hk]
    · rw [Array.getElem?_append_right (by omega), Array.getElem?_extract]
      by_cases hk2 : k < w'.heap.size
      · rw [if_pos (by omega)]; congr 1; omega
      · rw [if_neg (by omega), Array.getElem?_eq_none (by omega)]
  obtain ⟨heap, tape, drawn, os, output⟩ := w'
  have h1 := h.os
  have h2 := h.tape
  have h3 := h.output
  simp only at h1 h2 h3 e1 hd
  subst h1 h2 h3
  simp only [grow, World.drewN]
  congr 1
  omega

theorem sort_gen {P : Program} {ρ : Ren} (L : SlLaysF.n6 P ρ) {α : Type} (E : Enc α) (hk : E.k = 1) (h1 : ∀ x, E.cells x = [E.val x]) (f : α → Int) (g : Nat) (cb : Array Value) (eg : ∀ args w, (callFunc g args).run P w = .ok (.enter g args) w)
    (F : Fm) (b cap : Nat) (xs : List α) (sp : List Value) (hsz : xs.length < 4611686018427387904)
    (hcmp : ∀ F' : Fm, (∀ b o, F.at_ b o → F'.at_ b o) → ∀ x ∈ xs, ∀ y ∈ xs, Spec P g (#[E.val x, E.val y] ++ cb) F' [] fun v _ => v = .int .i64 (f x - f y)) :
    Spec P (ρ.f 6) #[.slice (some ⟨b, 0, none⟩) xs.length cap, .func (.func g) #[] cb] F [(b, rowS E xs sp)] fun _ hl' => ∃ ys, hl' = [(b, rowS E ys sp)] ∧ ys.Perm xs ∧ ys.Pairwise fun x y => f x ≤ f y := by
  intro w hw
  by_cases h0 : xs = []
  · subst h0
    exact (AnyF.slices_SortFunc_none { L with } (some ⟨b, 0, none⟩) cap (.func (.func g) #[] cb) w).mono fun e w' ⟨he, hw'⟩ => ⟨_, _, he, ⟨[], rfl, .refl _, .nil⟩, by rw [hw']; exact hw⟩
  have hflat : ∀ l : List α, flat E l = l.map E.val := fun l => by
    induction l with
    | nil => rfl
    | cons x l ih => rw [List.map_cons, ← ih]; show E.cells x ++ flat E l = _; rw [h1]; rfl
  have hblk : w.heap[b]? = some (rowS E xs sp) := hw.own b _ List.mem_cons_self
  have hlt := hw.lt (b := b) (o := rowS E xs sp) List.mem_cons_self
  obtain ⟨x0, hx0⟩ := List.exists_mem_of_ne_nil xs h0
  let A := { x // x ∈ xs }
  haveI : Inhabited A := ⟨⟨x0, hx0⟩⟩
  let enc : A → Value := fun a => E.val a.1
  let cf : A → A → Int := fun a c => f a.1 - f c.1
  have hd : xs.attach.toArray.size = xs.length := by simp
  have hsw : ∀ (m : Nat) (dk : Array A) (os : Array Obj), dk.size = xs.length → (sortWorld enc w b 0 m dk os).heap[b]? = some (rowS E (dk.toList.map (·.1)) sp) := fun m dk os hs => by
    have e0 : (w.heap.modify b (onCells (putCells enc 0 dk)))[b]? = some (rowS E (dk.toList.map (·.1)) sp) := by
      rw [Array.getElem?_modify, if_pos rfl, hblk]
      simp only [Option.map_some, rowS, onCells]
      congr 2
      apply Array.ext_getElem?
      intro k
      simp only [putCells, Array.getElem?_mapIdx, List.getElem?_toArray, hflat, List.map_map]
      by_cases hk' : k < xs.length
      · rw [List.getElem?_append_left (by simpa using hk'), List.getElem?_append_left (by simpa [hs] using hk')]
        simp only [List.getElem?_map, List.getElem?_eq_getElem hk', Option.map_some, Nat.sub_zero, Nat.zero_le, true_and, Nat.zero_add, hs, hk', if_true]
        rw [List.getElem?_eq_getElem (by simpa [hs] using hk')]
        simp only [Option.map_some, Function.comp, Array.getElem_toList]
        rw [getElem!_pos dk k (by omega)]
      · rw [List.getElem?_append_right (by simp; omega), List.getElem?_append_right (by simp [hs]; omega)]
        simp only [List.length_map, Array.length_toList, hs, Nat.zero_add, Nat.zero_le, true_and, hk', if_false]
        cases sp[k - xs.length]? <;> rfl
    show (w.heap.modify b (onCells (putCells enc 0 dk)) ++ os)[b]? = _
    rw [Array.getElem?_append_left (by simpa using hlt)]
    exact e0
  have hso : ∀ (m : Nat) (dk : Array A) (os : Array Obj) (c : Nat) (o : Obj), F.at_ c o → (sortWorld enc w b 0 m dk os).heap[c]? = some o := fun m dk os c o hc => by
    have hne : b ≠ c := fun e => hw.apart b _ o List.mem_cons_self (e ▸ hc)
    show (w.heap.modify b (onCells (putCells enc 0 dk)) ++ os)[c]? = _
    rw [Array.getElem?_append_left (by simpa using hw.flt hc), Array.getElem?_modify, if_neg hne]
    exact hw.frame c o hc
  have hH : Holds enc w b 0 xs.attach.toArray := fun j hj => by
    rw [hd] at hj
    constructor
    · simp only [World.cell?, hblk, rowS, Option.isSome_none, Bool.false_eq_true, if_false, Nat.zero_add, List.getElem?_toArray, hflat]
      rw [List.getElem?_append_left (by simpa using hj), List.getElem?_map, List.getElem?_eq_getElem hj]
      rw [getElem!_pos xs.attach.toArray j (by rw [hd]; exact hj)]
      simp [enc]
    · simp [World.frozen?, hblk, rowS]
  have hone : OneCell enc := fun a => E.one a.1 _ (by rw [h1]; exact List.mem_cons_self)
  have hO : SWO (ltOf cf) := ⟨fun x => by simp [ltOf, cf], fun x y z => by simp only [ltOf, cf, decide_eq_true_eq]; omega, fun x y z => by simp only [ltOf, cf, decide_eq_false_iff_not]; omega⟩
  have hC : CmpLays1 P g cb enc cf b 0 xs.attach.toArray.size w := fun m os dk hs x y => by
    have hx := hcmp ⟨(sortWorld enc w b 0 m dk os).os, (sortWorld enc w b 0 m dk os).tape, (sortWorld enc w b 0 m dk os).output, fun c o => (sortWorld enc w b 0 m dk os).heap[c]? = some o, (sortWorld enc w b 0 m dk os).drawn⟩ (fun c o hc => hso m dk os c o hc) x.1 x.2 y.1 y.2
    refine (hx (sortWorld enc w b 0 m dk os) ⟨rfl, rfl, rfl, fun _ _ h => (by cases h), fun _ _ h => h, List.nodup_nil, fun _ _ _ h => (by cases h), Nat.le_refl _⟩).mono fun e w' ⟨v, hl', he, hv, hh⟩ => ?_
    subst hv
    exact ⟨he, hp_grown hh⟩
  have := Any.slices_SortFunc L enc hone cf hO g cb b 0 cap xs.attach.toArray w eg hC hH hlt (by rw [hd]; exact hsz)
  rw [hd] at this
  refine this.mono fun e w' ⟨he, d', n, os, hp, hs, hw'⟩ => ⟨_, _, he, ⟨d'.toList.map (·.1), rfl, ?_, ?_⟩, ?_⟩
  · have hsz' : d'.size = xs.length := by rw [hp.1, hd]
    have := hp.2.2
    rw [show d'.extract 0 xs.length = d' by rw [← hsz']; simp, show xs.attach.toArray.extract 0 xs.length = xs.attach.toArray from by
      have := Array.extract_size (xs := xs.attach.toArray)
      rwa [hd] at this] at this
    have h2 := this.map (·.1)
    rw [List.toList_toArray] at h2
    have h3 : xs.attach.map (·.1) = xs := List.attach_map_subtype_val xs
    rw [h3] at h2
    exact h2
  · have hsz' : d'.size = xs.length := by rw [hp.1, hd]
    rw [List.pairwise_iff_getElem]
    intro i j hi hj hij
    simp only [List.length_map, Array.length_toList] at hi hj
    have := hs i j (Nat.zero_le _) hij (by omega)
    rw [getElem!_pos d' i hi, getElem!_pos d' j hj] at this
    simp only [ltOf, cf, decide_eq_false_iff_not] at this
    simp only [List.getElem_map, Array.getElem_toList]
    omega
  · have hsz' : d'.size = xs.length := by rw [hp.1, hd]
    subst hw'
    refine ⟨hw.os, hw.tape, hw.output, fun c o hc => ?_, fun c o hc => hso n d' os c o hc, by simp, fun c o o' hc hf => ?_, Nat.le_trans hw.drawn (Nat.le_add_right _ _)⟩
    · simp only [List.mem_singleton, Prod.mk.injEq] at hc
      obtain ⟨rfl, rfl⟩ := hc
      exact hsw n d' os hsz'
    · simp only [List.mem_singleton, Prod.mk.injEq] at hc
      obtain ⟨rfl, rfl⟩ := hc
      exact hw.apart c _ o' List.mem_cons_self hf
end Go.Proofs.Ytjhegjcjplpmjaa
