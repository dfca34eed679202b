/- From a walk to a row: what the caller's memory is; an argument that is a slice, opened; the call's end where nothing of the caller's turned. -/
import Derived.Test.YtmocncadncgaaaaSlE
import Derived.ReadAgain
import Derived.Deep.Slices
import Derived.RowKit
import Derived.OpenShut
import Derived.Below
import Derived.ChangeSame
import Derived.Deep.Modes
namespace Go.Proofs.Ytmocncadncgaaaa
open Go.ChangeShapes Go.WideShapes Go.RowKit
set_option linter.unusedVariables false

/-- The caller's memory, as it stays. -/
abbrev fmOf (W : World) : Fm := ⟨W.os, W.tape, W.output, fun b o => W.heap[b]? = some o, W.drawn⟩
theorem hp_start (W : World) : Hp (fmOf W) [] W :=
  ⟨rfl, rfl, rfl, fun _ _ h => (by cases h), fun _ _ h => h, List.nodup_nil, fun _ _ _ h => (by cases h), Nat.le_refl _⟩
theorem below_end {W W' : World} {hl : Hl} (h : Hp (fmOf W) hl W') : Below W.heap.size W W' := by
  have hb : ∀ k, k < W.heap.size → W'.heap[k]? = W.heap[k]? := fun k hk => by
    have e : W.heap[k]? = some W.heap[k] := Array.getElem?_eq_getElem hk
    rw [e]; exact h.frame k _ e
  refine ⟨h.os, h.tape, h.output, ?_, hb⟩
  by_cases h0 : W.heap.size = 0
  · omega
  · have := hb (W.heap.size - 1) (by omega)
    rw [Array.getElem?_eq_getElem (show W.heap.size - 1 < W.heap.size by omega)] at this
    have := (Array.getElem?_eq_some_iff.1 this).1
    omega

section
variable {H : Type} {enc : TypeId × Value → H} {P : Program}

theorem carryAll {W W' : World} {base : Nat} {spare : Nat → Bool} {held : Bool} (hs : ∀ p : MemPlace, p.block < W.heap.size → W.sameAt W' p) : ∀ {ts : List TypeId} {vs : List Value} {ds : List (DataW H)} {ps : List MemPlace},
    DataW.TrodAll enc P W base spare held ts vs ds ps → DataW.TrodAll enc P W' base spare held ts vs ds ps
  | [], [], [], _, h => h
  | _ :: _, _ :: _, _ :: _, _, ⟨p, q, ⟨n, h1⟩, h2, e⟩ => ⟨p, q, ⟨n, DataW.trod_carry n _ _ _ h1 fun x hx => hs x (DataW.trod_lt n _ _ _ h1 x hx)⟩, carryAll hs h2, e⟩

theorem sameAt_below {W W' : World} (h : Below W.heap.size W W') (p : MemPlace) (hp : p.block < W.heap.size) : W.sameAt W' p := by
  cases p with
  | cell b off => exact World.cell?_of_block (h.block b hp)
  | map b => exact h.block b hp

/-- NOTHING OF THE CALLER's TURNED, and the result is a bool: the statement's end. -/
theorem post_kept {f : Func} {s : ChangeSpec} {apart fresh handsOn : Bool} {W W' : World} {args : Array Value} {ds gs : List (DataW H)} {before : List MemPlace} {tb : TypeId} {r : Bool}
    (hl : laidOutB P = true) (hm : mapsRowed P = true)
    (hz : ((List.range P.types.size).all fun t => match P.underlying t with | some (.slice e) => decide (0 < P.cellsOf e) | _ => true) = true) (ht : f.params.toList.all (fun t => decide (t < P.types.size)) = true)
    (hW : DataW.Whole enc P f.params.toList s.vars apart W args.toList ds gs before) (hv : s.vars = []) (hs : s.fn H (ds ++ gs) = { results := [.lit (.bool r)], args := ds }) (htb : P.underlying tb = some .bool) (hrt : f.resultTypes = #[tb])
    (hb : Below W.heap.size W W') : s.post enc P f apart fresh handsOn false W args (.bool r) W' := by
  have hW' := hW
  obtain ⟨p, q, hA, hV, e, hfz, hnd⟩ := hW
  have hlt : ∀ x ∈ p, x.block < W.heap.size := fun x hx => hA.lt x hx
  have hA2 : DataW.TrodAll enc P W' 0 (fun b => decide (b < W.heap.size)) true f.params.toList args.toList ds p :=
    carryAll (sameAt_below hb) (DataW.TrodAll.respare (T := (· < P.types.size)) (kids_rows hl hm) (slices_full_of P hz) (fun t h => of_decide_eq_true (List.all_eq_true.1 ht t h)) hA (fun x hx => by simpa using hlt x hx))
  refine ⟨ds, gs, before, [], p, [], hW', ?_, ?_, ?_, World.keptBut_mono (fun x hx => ⟨hx, ?_⟩) (hb.frame (· ∈ before)), fun h => by cases h⟩
  · rw [hs, hrt]
    exact trodAll_cons_mk (shut_bool htb r) trodAll_mk0
  · rw [hs]; exact hA2
  · rw [hs, hv]; exact rfl
  · rw [hv] at hV
    have hq : q = [] := by
      cases gs with
      | nil => exact hV
      | cons g gs => exact hV.elim
    rw [e, hq, List.append_nil] at hx
    exact .inr (.inl hx)

/-! ### Arguments -/
theorem cell_mono {W w : World} {a : Addr} {u : Value} (h : W.cell? a = some u) (hw : ∀ (b : Nat) (o : Obj), W.heap[b]? = some o → w.heap[b]? = some o) : w.cell? a = some u := by
  have e : ∃ o, W.heap[a.block]? = some o := by
    cases he : W.heap[a.block]? with
    | some o => exact ⟨o, rfl⟩
    | none => simp [World.cell?, he] at h
  obtain ⟨o, ho⟩ := e
  rw [← h]
  exact World.cell?_of_block (by rw [hw _ _ ho, ho])

/-- A slice, by what one element's cells are. -/
theorem open_arg {α : Type} [Inhabited α] {E : Enc α} {W : World} {r : Reach} {base : Nat} {t e : TypeId} {v : Value} {d : DataW H} {ps : List MemPlace} (good : α → Prop) (ht : P.underlying t = some (.slice e)) (he : P.cellsOf e = E.k)
    (hval : Value.okWide P W r base t v) (h : DataW.Trod enc P W 0 (fun _ => true) true t v d ps)
    (dec : ∀ (n : Nat) (cs : List Value) (y : DataW H × List MemPlace), cs.length = E.k → DataW.trod enc P W 0 (fun _ => true) true n e cs = some y → ∃ x, cs = E.cells x ∧ good x) :
    ∃ xs : List α, Arg E (fmOf W) v xs ∧ ∀ x ∈ xs, good x := by
  obtain ⟨a, len, cap, rfl⟩ := okWide_slice ht hval
  obtain ⟨fuel, h⟩ := h
  rcases Go.Deep.open_slice ht h with ⟨h0, _⟩ | ⟨a', len', cap', m, n, D, Pl, h0, _, hle, hcap, hm, _, hx⟩
  · have : Value.slice a len cap = .slice none 0 0 := by simpa [Value.cells] using h0
    exact ⟨[], .inl ⟨⟨_, _, this⟩, rfl⟩, fun x hx => by cases hx⟩
  · have e0 : Value.slice a len cap = .slice (some a') len' cap' := by simpa [Value.cells] using h0
    obtain ⟨rfl, rfl, rfl⟩ : a = some a' ∧ len = len' ∧ cap = cap' := by simpa using e0
    have hspot : a'.spot = none := by
      simp only [Value.okWide, ht, Cell.okWide, Cell.ok] at hval
      exact hval.2.2.2.1
    obtain ⟨b, off, sp⟩ := a'
    simp only at hspot
    subst hspot
    simp only [if_true] at hm
    subst hm
    have each : ∀ i, i < m → ∃ x, (∀ j, j < E.k → W.cell? ⟨b, off + i * E.k + j, none⟩ = (E.cells x)[j]?) ∧ good x := fun i hi => by
      obtain ⟨cs, h1, h2⟩ := hx i hi
      rw [he] at h1
      obtain ⟨_, hlen, hcell⟩ := World.cells?_some h1
      obtain ⟨x, rfl, hg⟩ := dec _ _ _ hlen h2
      refine ⟨x, fun j hj => ?_, hg⟩
      rw [← hcell j hj, addr_add, addr_add]
    obtain ⟨f, hf⟩ := Go.Deep.choose_lt each
    refine ⟨(List.range len).map f, .inr ⟨b, off, m, by simp, by simpa using hle, fun w hw j u hu => ?_⟩, fun x hxm => ?_⟩
    · have hj := (List.getElem?_eq_some_iff.1 hu).1
      rw [flat_length, List.length_map, List.length_range] at hj
      have hpos := E.pos
      have hi : j / E.k < len := Nat.div_lt_of_lt_mul (by rw [Nat.mul_comm]; exact hj)
      have hr : j % E.k < E.k := Nat.mod_lt _ hpos
      have ej : j / E.k * E.k + j % E.k = j := by rw [Nat.mul_comm]; exact Nat.div_add_mod j E.k
      have hg := flat_get E ((List.range len).map f) (j / E.k) (j % E.k) (f (j / E.k)) (by simp [hi]) hr
      rw [ej] at hg
      rw [hg, ← (hf (j / E.k) (by omega)).1 _ hr] at hu
      have := cell_mono hu hw
      rwa [Nat.add_assoc, ej] at this
    · obtain ⟨i, hi, rfl⟩ := List.mem_map.1 hxm
      exact (hf i (by have := List.mem_range.1 hi; omega)).2
/-- .. that stands in a cell. -/
theorem open_row {α : Type} [Inhabited α] {E : Enc α} {W : World} {t e : TypeId} {n : Nat} {cs : List Value} {y : DataW H × List MemPlace} (good : α → Prop) (ht : P.underlying t = some (.slice e)) (he : P.cellsOf e = E.k)
    (h : DataW.trod enc P W 0 (fun _ => true) true n t cs = some y)
    (dec : ∀ (n : Nat) (cs : List Value) (y : DataW H × List MemPlace), cs.length = E.k → DataW.trod enc P W 0 (fun _ => true) true n e cs = some y → ∃ x, cs = E.cells x ∧ good x) :
    ∃ (p : Option Addr) (m c : Nat) (xs : List α), cs = [.slice p m c] ∧ Arg E (fmOf W) (.slice p m c) xs ∧ ∀ x ∈ xs, good x := by
  rcases Go.Deep.open_slice ht h with ⟨h0, _⟩ | ⟨a', len, cap, m, n, D, Pl, h0, _, hle, hcap, hm, _, hx⟩
  · exact ⟨none, 0, 0, [], h0, Arg.nil, fun x hx => by cases hx⟩
  · simp only [if_true] at hm
    subst hm
    by_cases hm0 : m = 0
    · obtain rfl : len = 0 := by omega
      exact ⟨some a', 0, m, [], h0, Arg.nil, fun x hx => by cases hx⟩
    have hspot : a'.spot = none := by
      obtain ⟨cs, h1, h2⟩ := hx 0 (by omega)
      rw [he] at h1
      obtain ⟨_, hlen, hcell⟩ := World.cells?_some h1
      have hc0 := hcell 0 E.pos
      rw [List.getElem?_eq_getElem (by rw [hlen]; exact E.pos)] at hc0
      simpa [Addr.add] using World.cell?_spot hc0
    obtain ⟨b, off, sp⟩ := a'
    simp only at hspot
    subst hspot
    have each : ∀ i, i < m → ∃ x, (∀ j, j < E.k → W.cell? ⟨b, off + i * E.k + j, none⟩ = (E.cells x)[j]?) ∧ good x := fun i hi => by
      obtain ⟨cs, h1, h2⟩ := hx i hi
      rw [he] at h1
      obtain ⟨_, hlen, hcell⟩ := World.cells?_some h1
      obtain ⟨x, rfl, hg⟩ := dec _ _ _ hlen h2
      refine ⟨x, fun j hj => ?_, hg⟩
      rw [← hcell j hj, addr_add, addr_add]
    obtain ⟨f, hf⟩ := Go.Deep.choose_lt each
    refine ⟨_, _, _, (List.range len).map f, h0, .inr ⟨b, off, m, by simp, by simpa using hle, fun w hw j u hu => ?_⟩, fun x hxm => ?_⟩
    · have hj := (List.getElem?_eq_some_iff.1 hu).1
      rw [flat_length, List.length_map, List.length_range] at hj
      have hpos := E.pos
      have hi : j / E.k < len := Nat.div_lt_of_lt_mul (by rw [Nat.mul_comm]; exact hj)
      have hr : j % E.k < E.k := Nat.mod_lt _ hpos
      have ej : j / E.k * E.k + j % E.k = j := by rw [Nat.mul_comm]; exact Nat.div_add_mod j E.k
      have hg := flat_get E ((List.range len).map f) (j / E.k) (j % E.k) (f (j / E.k)) (by simp [hi]) hr
      rw [ej] at hg
      rw [hg, ← (hf (j / E.k) (by omega)).1 _ hr] at hu
      have := cell_mono hu hw
      rwa [Nat.add_assoc, ej] at this
    · obtain ⟨i, hi, rfl⟩ := List.mem_map.1 hxm
      exact (hf i (by have := List.mem_range.1 hi; omega)).2
end
end Go.Proofs.Ytmocncadncgaaaa
