/- Rows of things: slices of the call's own, stores into them, append, make, copy. -/
import Derived.Test.YtmocncadncgaaaaSlD
namespace Go.Proofs.Ytmocncadncgaaaa
set_option linter.unusedVariables false

/-- The facts on a slice's element type that append and make ask for. B: bytes of an element. -/
class TySl (P : Program) (t : TypeId) {α : Type} (E : Enc α) (B : outParam Nat) : Prop where
  under : P.underlying t = some (.slice E.tid)
  info : ∃ i z, P.info? E.tid = some i ∧ i.zero = some z ∧ i.size = E.k ∧ i.bytes = B ∧ z.cells.size = E.k

/-- A slice value of the call's own, with its block (none: nil). -/
inductive Own {α : Type} (E : Enc α) : Value → List α → Hl → Prop where
  | nil : Own E (.slice none 0 0) [] []
  | blk (b cap : Nat) (xs : List α) (sp : List Value) (hc : xs.length * E.k + sp.length = cap * E.k) (hm : cap ≤ maxLen) : Own E (.slice (some ⟨b, 0, none⟩) xs.length cap) xs [(b, rowS E xs sp)]

theorem Own.blk' {α : Type} {E : Enc α} (b cap m : Nat) (xs : List α) (sp : List Value) (hm : m = xs.length) (hc : m * E.k + sp.length = cap * E.k) (hcm : cap ≤ maxLen) : Own E (.slice (some ⟨b, 0, none⟩) m cap) xs [(b, rowS E xs sp)] := by
  subst hm; exact .blk b cap xs sp hc hcm
theorem Own.shape {α : Type} {E : Enc α} {v : Value} {xs : List α} {seg : Hl} (h : Own E v xs seg) : ∃ p cap, v = .slice p xs.length cap := by
  cases h with
  | nil => exact ⟨none, 0, rfl⟩
  | blk b cap _ sp hc hm => exact ⟨_, _, rfl⟩
theorem Own.block {α : Type} {E : Enc α} {v : Value} {xs : List α} {seg : Hl} (h : Own E v xs seg) (hx : 0 < xs.length) : ∃ b cap sp, v = .slice (some ⟨b, 0, none⟩) xs.length cap ∧ seg = [(b, rowS E xs sp)] ∧ xs.length * E.k + sp.length = cap * E.k ∧ cap ≤ maxLen := by
  cases h with
  | nil => simp at hx
  | blk b cap _ sp hc hm => exact ⟨b, cap, sp, rfl, rfl, hc, hm⟩
theorem Own.one {α : Type} {E : Enc α} {v : Value} {xs : List α} {seg : Hl} (h : Own E v xs seg) : v.oneCell' = true := by
  cases h <;> rfl

/-- A slice that begins anywhere in a block of the call's own, and goes to the things' end. -/
inductive Tl {α : Type} (E : Enc α) : Value → List α → Hl → Prop where
  | nil : Tl E (.slice none 0 0) [] []
  | blk (b off c : Nat) (ys zs : List α) (sp : List Value) (h : ys = [] ∨ ∃ j, off = j * E.k ∧ ys = zs.drop j) (hc : ys.length ≤ c) : Tl E (.slice (some ⟨b, off, none⟩) ys.length c) ys [(b, rowS E zs sp)]
theorem Own.tl {α : Type} {E : Enc α} {v : Value} {xs : List α} {seg : Hl} (h : Own E v xs seg) : Tl E v xs seg := by
  cases h with
  | nil => exact .nil
  | blk b cap _ sp hc hm => exact .blk b 0 cap xs xs sp (.inr ⟨0, by simp, rfl⟩) (Nat.le_of_mul_le_mul_right (show xs.length * E.k ≤ cap * E.k by omega) E.pos)
theorem Tl.shape {α : Type} {E : Enc α} {v : Value} {xs : List α} {seg : Hl} (h : Tl E v xs seg) : ∃ p c, v = .slice p xs.length c := by
  cases h with
  | nil => exact ⟨none, 0, rfl⟩
  | blk b off c _ zs sp h hc => exact ⟨_, _, rfl⟩
theorem Tl.block {α : Type} {E : Enc α} {v : Value} {xs : List α} {seg : Hl} (h : Tl E v xs seg) (h0 : 0 < xs.length) : ∃ b j c zs sp, v = .slice (some ⟨b, j * E.k, none⟩) xs.length c ∧ seg = [(b, rowS E zs sp)] ∧ xs = zs.drop j ∧ xs.length ≤ c := by
  cases h with
  | nil => simp at h0
  | blk b off c _ zs sp h hc =>
    rcases h with rfl | ⟨j, rfl, e⟩
    · simp at h0
    · exact ⟨b, j, c, zs, sp, rfl, rfl, e, hc⟩
/-- v[1:] -/
theorem Tl.tail {α : Type} {E : Enc α} {b j c : Nat} {xs zs : List α} {sp : List Value} (h : xs = zs.drop j) (h0 : 0 < xs.length) (hc : xs.length ≤ c) :
    Tl E (.slice (some ⟨b, if c = 1 then j * E.k else j * E.k + 1 * E.k, none⟩) (xs.length - 1) (c - 1)) (xs.drop 1) [(b, rowS E zs sp)] := by
  have := Tl.blk (E := E) b (if c = 1 then j * E.k else j * E.k + 1 * E.k) (c - 1) (xs.drop 1) zs sp (by
    by_cases h1 : c = 1
    · left; exact List.drop_eq_nil_of_le (by omega)
    · right; exact ⟨j + 1, by rw [if_neg h1, Nat.add_mul], by rw [h, List.drop_drop]⟩) (by simp; omega)
  rwa [List.length_drop] at this

/-- What an append may take its things from. -/
def Src {α : Type} (E : Enc α) (F : Fm) (hl : Hl) (v : Value) (ys : List α) : Prop :=
  ((∃ p c, v = .slice p 0 c) ∧ ys = []) ∨ ∃ b off c, v = .slice (some ⟨b, off, none⟩) ys.length c ∧ ∀ w, St F hl w → ∀ j u, (flat E ys)[j]? = some u → w.cell? ⟨b, off + j, none⟩ = some u

/-- A slice that stays as it is while the call runs: an argument, or what the caller owns. -/
def Arg {α : Type} (E : Enc α) (F : Fm) (v : Value) (ys : List α) : Prop :=
  ((∃ p c, v = .slice p 0 c) ∧ ys = []) ∨ ∃ b off c, v = .slice (some ⟨b, off, none⟩) ys.length c ∧ ys.length ≤ c ∧ ∀ w : World, (∀ b o, F.at_ b o → w.heap[b]? = some o) → ∀ j u, (flat E ys)[j]? = some u → w.cell? ⟨b, off + j, none⟩ = some u
theorem Arg.src {α : Type} {E : Enc α} {F : Fm} {v : Value} {ys : List α} (h : Arg E F v ys) {hl : Hl} : Src E F hl v ys := by
  rcases h with h | ⟨b, off, c, e, _, h⟩
  · exact .inl h
  · exact .inr ⟨b, off, c, e, fun w ⟨_, hw⟩ => h w hw.frame⟩
theorem Arg.nil {α : Type} {E : Enc α} {F : Fm} {p : Option Addr} {c : Nat} : Arg E F (.slice p 0 c) [] := .inl ⟨⟨p, c, rfl⟩, rfl⟩
theorem Arg.mono {α : Type} {E : Enc α} {F F' : Fm} {v : Value} {ys : List α} (h : Arg E F v ys) (hF : ∀ b o, F.at_ b o → F'.at_ b o) : Arg E F' v ys := by
  rcases h with h | ⟨b, off, c, e, hc, h⟩
  · exact .inl h
  · exact .inr ⟨b, off, c, e, hc, fun w hw => h w fun b o ho => hw b o (hF b o ho)⟩
theorem Arg.shape {α : Type} {E : Enc α} {F : Fm} {v : Value} {ys : List α} (h : Arg E F v ys) : ∃ p c, v = .slice p ys.length c := by
  rcases h with ⟨⟨p, c, rfl⟩, rfl⟩ | ⟨b, off, c, e, h⟩
  · exact ⟨p, c, rfl⟩
  · exact ⟨_, _, e⟩
theorem Arg.own {α : Type} {E : Enc α} {F : Fm} {v : Value} {ys : List α} {seg : Hl} (h : Own E v ys seg) (hF : ∀ b o, (b, o) ∈ seg → F.at_ b o) : Arg E F v ys := by
  cases h with
  | nil => exact .inl ⟨⟨_, _, rfl⟩, rfl⟩
  | blk b cap _ sp hc hm =>
    refine .inr ⟨b, 0, cap, rfl, Nat.le_of_mul_le_mul_right (show ys.length * E.k ≤ cap * E.k by omega) E.pos, fun w hw j u hu => ?_⟩
    have := hw b _ (hF b _ List.mem_cons_self)
    simp only [World.cell?, this, rowS, Option.isSome_none, Bool.false_eq_true, if_false, Nat.zero_add, List.getElem?_toArray]
    rw [List.getElem?_append_left ((List.getElem?_eq_some_iff.1 hu).1), hu]

theorem Arg.tl {α : Type} {E : Enc α} {F : Fm} {v : Value} {ys : List α} {seg : Hl} (h : Tl E v ys seg) (hF : ∀ b o, (b, o) ∈ seg → F.at_ b o) : Arg E F v ys := by
  cases h with
  | nil => exact .inl ⟨⟨_, _, rfl⟩, rfl⟩
  | blk b off c _ zs sp h hc =>
    refine .inr ⟨b, off, c, rfl, hc, fun w hw j u hu => ?_⟩
    have := hw b _ (hF b _ List.mem_cons_self)
    rcases h with rfl | ⟨i, rfl, rfl⟩
    · simp [flat] at hu
    · simp only [World.cell?, this, rowS, Option.isSome_none, Bool.false_eq_true, if_false, List.getElem?_toArray]
      have e : flat E zs = flat E (zs.take i) ++ flat E (zs.drop i) := by
        conv => lhs; rw [← List.take_append_drop i zs]
        simp only [flat, List.flatMap_append]
      have hj := (List.getElem?_eq_some_iff.1 hu).1
      have hlen : (flat E (zs.take i)).length = i * E.k := by
        rw [flat_length]
        congr 1
        by_cases hi : i ≤ zs.length
        · simp; omega
        · rw [List.drop_eq_nil_of_le (by omega)] at hj; simp [flat] at hj
      rw [e, List.append_assoc, List.getElem?_append_right (by omega), hlen, show i * E.k + j - i * E.k = j by omega, List.getElem?_append_left hj, hu]
theorem Arg.of_own {α : Type} {E : Enc α} {F F' : Fm} {v : Value} {ys : List α} {seg rest : Hl} (h : Own E v ys seg) [s : Sb seg rest] (hF : ∀ b o, (b, o) ∈ rest ∨ F.at_ b o → F'.at_ b o) : Arg E F' v ys := Arg.own h fun b o hb => hF b o (.inl (s.sub _ hb))
theorem Arg.of_tl {α : Type} {E : Enc α} {F F' : Fm} {v : Value} {ys : List α} {seg rest : Hl} (h : Tl E v ys seg) [s : Sb seg rest] (hF : ∀ b o, (b, o) ∈ rest ∨ F.at_ b o → F'.at_ b o) : Arg E F' v ys := Arg.tl h fun b o hb => hF b o (.inl (s.sub _ hb))
theorem Arg.of_arg {α : Type} {E : Enc α} {F F' : Fm} {v : Value} {ys : List α} {rest : Hl} (h : Arg E F v ys) (hF : ∀ b o, (b, o) ∈ rest ∨ F.at_ b o → F'.at_ b o) : Arg E F' v ys := h.mono fun b o hb => hF b o (.inr hb)
theorem Src.tl {α : Type} {E : Enc α} {F : Fm} {hl : Hl} {v : Value} {ys : List α} {seg : Hl} (h : Tl E v ys seg) [s : Sb seg hl] : Src E F hl v ys := by
  have := Arg.tl (F := frz F hl) h fun b o hb => .inl (s.sub _ hb)
  rcases this with h | ⟨b, off, c, e, _, h⟩
  · exact .inl h
  · exact .inr ⟨b, off, c, e, fun w ⟨hn, hw⟩ => h w fun b o ho => by
      rcases ho with ho | ho
      · exact hw.own b o (List.mem_append_right _ ho)
      · exact hw.frame b o ho⟩

section
variable {P : Program} {n : Nf} {F : Fm} {l : Env} {hl : Hl} {ty : TypeId} {pos : String} {af : Array Edge} {g : Option (Nat × Bool)} {α : Type} {E : Enc α}
variable {Qf : Exit → Act → World → Prop} {ks : List KItem} {ops : List Oper} {clr : List Nat} {hs : Hl} {r : Sd} {i : Nat}

theorem flat_append (xs ys : List α) : flat E (xs ++ ys) = flat E xs ++ flat E ys := by simp [flat]
theorem flat_one (xs : List α) : ∀ u ∈ flat E xs, u.oneCell' = true := fun u hu => by
  obtain ⟨x, _, hx⟩ := List.mem_flatMap.1 hu
  exact E.one x u hx

theorem cell_row {w : World} {b : Nat} {vs : List Value} {e : TypeId} {z : Nat × Nat} (hb : w.heap[b]? = some (.cells vs.toArray e z)) (j : Nat) : w.cell? ⟨b, j, none⟩ = vs[j]? := by
  simp [World.cell?, hb]

theorem Src.row {b j m c off : Nat} {ys zs : List α} {sp : List Value} {v : Value} (hv : v = .slice (some ⟨b, off, none⟩) m c) [hb : Has F hl b (rowS E ys sp)] (ho : off = j * E.k) (hz : zs = (ys.drop j).take m) (hm : j + m ≤ ys.length) : Src E F hl v zs := by
  subst hz; subst ho; subst hv
  have hl' : ((ys.drop j).take m).length = m := by simp; omega
  refine .inr ⟨b, j * E.k, c, by rw [hl'], fun w hs q u hq => ?_⟩
  have h := hb.st hs
  rw [cell_row h]
  have e : flat E ys = flat E (ys.take j) ++ (flat E ((ys.drop j).take m) ++ flat E ((ys.drop j).drop m)) := by
    rw [← flat_append, ← flat_append, List.take_append_drop, List.take_append_drop]
  have hq' : q < (flat E ((ys.drop j).take m)).length := (List.getElem?_eq_some_iff.1 hq).1
  have ht : (flat E (ys.take j)).length = j * E.k := by rw [flat_length]; congr 1; simp; omega
  rw [e, List.append_assoc, List.getElem?_append_right (by omega), ht, show j * E.k + q - j * E.k = q by omega, List.append_assoc, List.getElem?_append_left hq', hq]

theorem Src.nil : Src E F hl (.slice none 0 0) [] := .inl ⟨⟨_, _, rfl⟩, rfl⟩
/-- a slice without elements -/
theorem Src.empty {b off c : Nat} : Src E F hl (.slice (some ⟨b, off, none⟩) 0 c) [] := .inr ⟨b, off, c, rfl, fun w _ j u hu => by simp [flat] at hu⟩
/-- one thing, in a block of its own -/
theorem Src.one {b c : Nat} {y : α} {vs : List Value} {e : TypeId} [hb : Has F hl b (cellsO vs e)] (hv : vs = E.cells y) : Src E F hl (.slice (some ⟨b, 0, none⟩) 1 c) [y] := by
  refine .inr ⟨b, 0, c, rfl, fun w hs j u hu => ?_⟩
  rw [cell_row (hb.st hs), Nat.zero_add, hv]
  simpa [flat] using hu
theorem Src.own {v : Value} {ys : List α} {seg rest : Hl} (h : Own E v ys seg) (hs : ∀ x ∈ seg, x ∈ hl) : Src E F hl v ys := by
  cases h with
  | nil => exact Src.nil
  | blk b cap _ sp hc hm =>
    refine .inr ⟨b, 0, cap, rfl, fun w ⟨hn, hw⟩ j u hu => ?_⟩
    have h := hw.own b _ (List.mem_append_right _ (hs _ List.mem_cons_self))
    rw [cell_row h, Nat.zero_add, List.getElem?_append_left ((List.getElem?_eq_some_iff.1 hu).1), hu]

/-- append, by its run: a slice of the call's own grows. -/
theorem run_append_seg {t B : Nat} [ht : TySl P t E B] {v xv : Value} {xs ys : List α} {seg rest : Hl} {w : World} (hown : Own E v xs seg) (hh : Hp F (seg ++ rest) w) (hsrc : Src E F (seg ++ rest) xv ys)
    (hlen : (xs.length + ys.length) * B ≤ 140737488355328 ∧ xs.length + ys.length ≤ 9223372036854775807) (hml : xs.length + ys.length ≤ maxLen) :
    ∃ v' seg' w', (Builtin.append_ #[t, t] ty #[v, xv]).run P w = .ok v' w' ∧ Own E v' (xs ++ ys) seg' ∧ Hp F (seg' ++ rest) w' := by
  obtain ⟨inf, z, hi, hz, hsz, hby, hzs⟩ := ht.info
  have hgrown : ∀ (old : Nat) (w1 : World), Hp F rest w1 → grownCap w (xs.length + ys.length) old E.tid ≤ maxLen → xs.length + ys.length ≤ grownCap w (xs.length + ys.length) old E.tid →
      ∃ seg', Own E (.slice (some ⟨w1.heap.size, 0, none⟩) (xs.length + ys.length) (grownCap w (xs.length + ys.length) old E.tid)) (xs ++ ys) seg' ∧
        Hp F (seg' ++ rest) (w1.alloc (.cells ((flat E xs).toArray ++ (flat E ys).toArray ++ Builtin.zeroCells z.cells (grownCap w (xs.length + ys.length) old E.tid - (xs.length + ys.length))) E.tid)) := by
    intro old w1 h1 hcm hge
    have hobj : (Obj.cells ((flat E xs).toArray ++ (flat E ys).toArray ++ Builtin.zeroCells z.cells (grownCap w (xs.length + ys.length) old E.tid - (xs.length + ys.length))) E.tid) =
        rowS E (xs ++ ys) (Builtin.zeroCells z.cells (grownCap w (xs.length + ys.length) old E.tid - (xs.length + ys.length))).toList := by
      unfold rowS
      congr 1
      rw [flat_append]
      apply Array.ext'
      simp
    rw [hobj]
    refine ⟨[(w1.heap.size, rowS E (xs ++ ys) (Builtin.zeroCells z.cells (grownCap w (xs.length + ys.length) old E.tid - (xs.length + ys.length))).toList)], ?_, h1.alloc _⟩
    have := Own.blk (E := E) w1.heap.size (grownCap w (xs.length + ys.length) old E.tid) (xs ++ ys) (Builtin.zeroCells z.cells (grownCap w (xs.length + ys.length) old E.tid - (xs.length + ys.length))).toList (by
      have hZ : (Builtin.zeroCells z.cells (grownCap w (xs.length + ys.length) old E.tid - (xs.length + ys.length))).toList.length = (grownCap w (xs.length + ys.length) old E.tid - (xs.length + ys.length)) * E.k := by
        simp [size_zeroCells, hzs]
      rw [hZ, List.length_append, ← Nat.add_mul]
      congr 1
      omega) hcm
    rw [List.length_append] at this
    exact this
  cases hown with
  | nil =>
    rcases hsrc with ⟨⟨p, c, rfl⟩, rfl⟩ | ⟨b2, off, c, rfl, hc⟩
    · refine ⟨.slice none 0 0, [], w, ?_, .nil, hh⟩
      cases p <;> simp [Builtin.append_, run_underlying ht.under, sizeOf, typeInfo, hi, Builtin.lenOf, Builtin.firstCells, loadCells, loadCellsFrom]
    · by_cases h0 : ys.length = 0
      · have hy : ys = [] := List.eq_nil_of_length_eq_zero h0
        subst hy
        refine ⟨.slice none 0 0, [], w, ?_, .nil, hh⟩
        simp [Builtin.append_, run_underlying ht.under, sizeOf, typeInfo, hi, Builtin.lenOf, Builtin.firstCells, loadCells, loadCellsFrom]
      · have hr := run_append_nil (P := P) w t ty E.tid inf z ht.under hi hz ⟨b2, off, none⟩ ys.length c (flat E ys) (by rw [flat_length, hsz]) (fun j u hu => by rw [addr_add]; exact hc w hh.st j u hu) (by omega) (by simp at hlen; omega) (by
          rw [hby]; have := hlen.1; simp only [List.length_nil, Nat.zero_add] at this; omega)
        obtain ⟨seg', h1, h2⟩ := hgrown 0 w.drew hh.drew (grownCap_le_maxLen w _ 0 _ hml) (grownCap_ge w _ 0 _)
        simp only [List.length_nil, Nat.zero_add, flat, List.flatMap_nil] at h1 h2
        refine ⟨_, seg', _, hr, ?_, ?_⟩
        · simpa using h1
        · simpa [flat] using h2
  | blk b cap _ sp hcap hcm =>
    have hb : w.heap[b]? = some (rowS E xs sp) := hh.own b _ (by simp)
    have hnews : ∃ b2 off c, ((∃ p c, xv = .slice p 0 c) ∧ ys = []) ∨ (xv = .slice (some ⟨b2, off, none⟩) ys.length c ∧ ∀ j u, (flat E ys)[j]? = some u → w.cell? ⟨b2, off + j, none⟩ = some u) := by
      rcases hsrc with h | ⟨b2, off, c, rfl, hc⟩
      · exact ⟨0, 0, 0, .inl h⟩
      · exact ⟨b2, off, c, .inr ⟨rfl, hc w hh.st⟩⟩
    obtain ⟨b2, off, c, hnews⟩ := hnews
    rcases hnews with ⟨⟨p, c', rfl⟩, rfl⟩ | ⟨rfl, hc⟩
    · have hxc : xs.length ≤ cap := by
        have : xs.length * E.k ≤ cap * E.k := by omega
        exact Nat.le_of_mul_le_mul_right this E.pos
      refine ⟨.slice (some ⟨b, 0, none⟩) xs.length cap, [(b, rowS E xs sp)], w, ?_, by simpa using Own.blk b cap xs sp hcap hcm, hh⟩
      cases p <;> simp [Builtin.append_, run_underlying ht.under, sizeOf, typeInfo, hi, Builtin.lenOf, Builtin.firstCells, loadCells, loadCellsFrom, hxc, storeCells]
    · by_cases hroom : xs.length + ys.length ≤ cap
      · have hfx : (flat E xs).length = xs.length * E.k := flat_length E xs
        have hfl : (flat E ys).length ≤ sp.length := by
          have := Nat.mul_le_mul_right E.k hroom
          rw [flat_length]
          rw [Nat.add_mul] at this
          omega
        have hr := run_append_room (P := P) w t ty E.tid inf ht.under hi b xs.length cap (flat E xs ++ sp).toArray hb ⟨b2, off, none⟩ ys.length c (flat E ys) (by rw [flat_length, hsz]) (fun j u hu => by rw [addr_add]; exact hc j u hu) (flat_one ys) hroom (by
          rw [hsz, List.size_toArray, List.length_append, hfx]; omega)
        have e : ((flat E xs ++ sp).toArray.toList.take (xs.length * inf.size) ++ flat E ys ++ (flat E xs ++ sp).toArray.toList.drop (xs.length * inf.size + (flat E ys).length)) = flat E (xs ++ ys) ++ sp.drop (flat E ys).length := by
          rw [hsz, ← flat_length E xs]
          simp [flat_append, List.drop_append]
        rw [e] at hr
        have hk : Own E (.slice (some ⟨b, 0, none⟩) (xs.length + ys.length) cap) (xs ++ ys) [(b, rowS E (xs ++ ys) (sp.drop (flat E ys).length))] := by
          have := Own.blk (E := E) b cap (xs ++ ys) (sp.drop (flat E ys).length) (by
            rw [List.length_append, List.length_drop, flat_length, Nat.add_mul]
            rw [flat_length] at hfl
            omega) hcm
          rw [List.length_append] at this
          exact this
        refine ⟨_, _, _, hr, hk, ?_⟩
        have := Hp.set (A := []) (B := rest) (o' := rowS E (xs ++ ys) (sp.drop (flat E ys).length)) (w' := w.setRow b (flat E (xs ++ ys) ++ sp.drop (flat E ys).length).toArray) hh (setRow_heap w b _ _ _ _ hb) (fun k hk => setRow_other w b k _ hk) rfl rfl rfl (Nat.le_refl _)
        exact this
      · have hr := run_append_grow (P := P) w t ty E.tid inf z ht.under hi hz ⟨b, 0, none⟩ xs.length cap (flat E xs) (by rw [flat_length, hsz]) (fun j u hu => by
            rw [addr_add, Nat.zero_add, cell_row hb, List.getElem?_append_left ((List.getElem?_eq_some_iff.1 hu).1)]; exact hu)
          ⟨b2, off, none⟩ ys.length c (flat E ys) (by rw [flat_length, hsz]) (fun j u hu => by rw [addr_add]; exact hc j u hu) (by omega) (by omega) (by rw [hby]; exact growslice_fits (by omega) hlen.1)
        obtain ⟨seg', h1, h2⟩ := hgrown cap w.drew (Hp.tail hh).drew (grownCap_le_maxLen w _ cap _ hml) (grownCap_ge w _ cap _)
        exact ⟨_, seg', _, hr, h1, h2⟩

theorem Rg.append {t0 t B : Nat} {s x : Operand} {v xv : Value} {xs ys : List α} {seg rest : Hl} [ht : TySl P t E B] (ho : nth ops i = some ⟨some t0, .call { callee := .builtin .append, args := #[s, x], argTypes := #[t, t] }, ty, pos, af, g⟩) (hg : wantB ops l g = some true) (h0 : Nat.blt t0 n.n = true)
    (hsv : ev l s = some v) (hx : ev l x = some xv) (hown : Own E v xs seg) [hp : PullL hl seg rest] (hsrc : Src E F hl xv ys) (hlen : (xs.length + ys.length) * B ≤ 140737488355328 ∧ xs.length + ys.length ≤ 9223372036854775807) (hml : xs.length + ys.length ≤ maxLen)
    (hclr : clr.contains i = true) (h : ∀ v' seg', Own E v' (xs ++ ys) seg' → Rg P Qf n F ks ops clr (seg' ++ rest) r ((t0, v') :: l) (seg' ++ rest)) : Rg P Qf n F ks ops clr hs (.st i .eff r) l hl :=
  Rg.run ho hg fun a w hf hh => by
    have hsrc' : Src E F (seg ++ rest) xv ys := by
      rcases hsrc with h | ⟨b, off, c, e, hc⟩
      · exact .inl h
      · exact .inr ⟨b, off, c, e, fun w' ⟨hn, hw'⟩ => hc w' ⟨hn, hw'.perm (hp.perm.symm.append_left hn)⟩⟩
    obtain ⟨v', seg', w', hr, hown', hh'⟩ := run_append_seg (P := P) (t := t) (ty := ty) hown (hh.perm hp.perm) hsrc' hlen hml
    exact ⟨w', _, _, _, .inl ⟨v', by simp [execOp, resolve, invoke, builtin, hf.ev hsv, hf.ev hx, hr], hf.put h0 v'⟩, hh', hh'.st, .inl hclr, h v' seg' hown'⟩

/-- .. where what floats reads other blocks alone -/
theorem Rg.appendN {t0 t B : Nat} {s x : Operand} {v xv : Value} {xs ys : List α} {seg rest q : Hl} [ht : TySl P t E B] (ho : nth ops i = some ⟨some t0, .call { callee := .builtin .append, args := #[s, x], argTypes := #[t, t] }, ty, pos, af, g⟩) (hg : wantB ops l g = some true) (h0 : Nat.blt t0 n.n = true)
    (hsv : ev l s = some v) (hx : ev l x = some xv) (hown : Own E v xs seg) [hp : PullL hl seg rest] [hq : PullL rest hs q] (hsrc : Src E F hl xv ys) (hlen : (xs.length + ys.length) * B ≤ 140737488355328 ∧ xs.length + ys.length ≤ 9223372036854775807) (hml : xs.length + ys.length ≤ maxLen)
    (h : ∀ v' seg', Own E v' (xs ++ ys) seg' → Rg P Qf n F ks ops clr hs r ((t0, v') :: l) (seg' ++ rest)) : Rg P Qf n F ks ops clr hs (.st i .eff r) l hl :=
  Rg.run ho hg fun a w hf hh => by
    have hsrc' : Src E F (seg ++ rest) xv ys := by
      rcases hsrc with h | ⟨b, off, c, e, hc⟩
      · exact .inl h
      · exact .inr ⟨b, off, c, e, fun w' ⟨hn, hw'⟩ => hc w' ⟨hn, hw'.perm (hp.perm.symm.append_left hn)⟩⟩
    obtain ⟨v', seg', w', hr, hown', hh'⟩ := run_append_seg (P := P) (t := t) (ty := ty) hown (hh.perm hp.perm) hsrc' hlen hml
    exact ⟨w', _, _, _, .inl ⟨v', by simp [execOp, resolve, invoke, builtin, hf.ev hsv, hf.ev hx, hr], hf.put h0 v'⟩, hh', ⟨seg' ++ q, hh'.perm (by rw [List.append_assoc]; exact (hq.perm.trans List.perm_append_comm).append_left seg')⟩, .same, h v' seg' hown'⟩

/-- []T{} -/
theorem Rg.bslice0 {t st B : Nat} [hs0 : TySl P st E B] (ho : nth ops i = some ⟨some t, .buildSlice st 0 #[], ty, pos, af, g⟩) (hg : wantB ops l g = some true) (ht : Nat.blt t n.n = true)
    (h : ∀ b, Own E (.slice (some ⟨b, 0, none⟩) 0 0) [] [(b, rowS E [] [])] → Rg P Qf n F ks ops clr ((b, rowS E [] []) :: hl) r ((t, .slice (some ⟨b, 0, none⟩) 0 0) :: l) ((b, rowS E [] []) :: hl)) : Rg P Qf n F ks ops clr hl (.st i .eff r) l hl :=
  Rg.run ho hg fun a w hf hh => by
    obtain ⟨inf, z, hi, hz, hsz, hby, hzs⟩ := hs0.info
    have hsize : (sizeOf E.tid).run P w = .ok E.k w := by simp [sizeOf, typeInfo, hi, hsz]
    exact ⟨{ w with heap := w.heap.push (rowS E [] []) }, (t, .slice (some ⟨w.heap.size, 0, none⟩) 0 0) :: l, (w.heap.size, rowS E [] []) :: hl, _,
      .inl ⟨_, by simp [execOp, Instr.buildSlice, run_underlying hs0.under, hsize, Instr.fill, newRow, arange0, rowS, flat], hf.put ht _⟩, hh.alloc _, (hh.alloc _).st, .one, h _ (.blk _ 0 [] [] (by simp) (by simp))⟩

theorem Rg.bslice0N {t st B : Nat} {q : Hl} [hs0 : TySl P st E B] (ho : nth ops i = some ⟨some t, .buildSlice st 0 #[], ty, pos, af, g⟩) (hg : wantB ops l g = some true) (ht : Nat.blt t n.n = true)
    [hq : PullL hl hs q] (h : ∀ b, Own E (.slice (some ⟨b, 0, none⟩) 0 0) [] [(b, rowS E [] [])] → Rg P Qf n F ks ops clr hs r ((t, .slice (some ⟨b, 0, none⟩) 0 0) :: l) ((b, rowS E [] []) :: hl)) : Rg P Qf n F ks ops clr hs (.st i .eff r) l hl :=
  Rg.run ho hg fun a w hf hh => by
    obtain ⟨inf, z, hi, hz, hsz, hby, hzs⟩ := hs0.info
    have hsize : (sizeOf E.tid).run P w = .ok E.k w := by simp [sizeOf, typeInfo, hi, hsz]
    exact ⟨{ w with heap := w.heap.push (rowS E [] []) }, (t, .slice (some ⟨w.heap.size, 0, none⟩) 0 0) :: l, (w.heap.size, rowS E [] []) :: hl, _,
      .inl ⟨_, by simp [execOp, Instr.buildSlice, run_underlying hs0.under, hsize, Instr.fill, newRow, arange0, rowS, flat], hf.put ht _⟩, hh.alloc _, ⟨(w.heap.size, rowS E [] []) :: q, (hh.alloc _).perm ((hq.perm.trans List.perm_append_comm).cons _)⟩, .same, h _ (.blk _ 0 [] [] (by simp) (by simp))⟩

/-- []T{x}: one thing in a block of its own. -/
theorem Rg.bslice1 {t st e k : Nat} {x : Operand} {v z : Value} {vs zs : List Value} [hu : TyUnder P st (.slice e)] [hs0 : TySize P e k] [hz : TyZero P e z] (ho : nth ops i = some ⟨some t, .buildSlice st 1 #[(0, x)], ty, pos, af, g⟩) (hg : wantB ops l g = some true) (ht : Nat.blt t n.n = true)
    (hx : ev l x = some v) (hc : cl v = some vs) (hcz : cl z = some zs) (hk : (vs.length == k && zs.length == k && Nat.blt 0 k && Nat.ble k 16777216) = true)
    (h : ∀ b, Rg P Qf n F ks ops clr ((b, cellsO vs e) :: hl) r ((t, .slice (some ⟨b, 0, none⟩) 1 1) :: l) ((b, cellsO vs e) :: hl)) : Rg P Qf n F ks ops clr hl (.st i .eff r) l hl :=
  Rg.run ho hg fun a w hf hh => by
    simp only [Bool.and_eq_true, beq_iff_eq, Nat.blt_eq, Nat.ble_eq] at hk
    obtain ⟨⟨⟨hk1, hk2⟩, hk3⟩, hk4⟩ := hk
    have hfold : ∀ (us pre : List Value) (cs : List Value), pre.length + us.length = cs.length → cs.take pre.length = pre → (us.zipIdx pre.length).foldl (fun (c : Array Value) (p : Value × Nat) => c.setIfInBounds p.2 p.1) cs.toArray = (pre ++ us).toArray := by
      intro us
      induction us with
      | nil =>
        intro pre cs ho hp
        rw [List.take_of_length_le (by simp at ho; omega)] at hp
        simp [hp]
      | cons u us ih =>
        intro pre cs ho hp
        simp only [List.length_cons] at ho
        rw [List.zipIdx_cons, List.foldl_cons]
        have := ih (pre ++ [u]) (cs.set pre.length u) (by simp; omega) (by
          rw [List.length_append, List.length_singleton, List.take_succ_eq_append_getElem (by simp; omega), List.take_set, hp, List.set_eq_of_length_le (Nat.le_refl _)]
          simp)
        simp only [List.setIfInBounds_toArray]
        rw [List.length_append, List.length_singleton] at this
        rw [this]
        simp
    have hfill : Instr.fill (fun i => some (i * k, k)) ((Array.range (1 * k)).map (fun j => z.cells[j % z.cells.size]!)) [(0, v)] = some vs.toArray := by
      have h1 : v.cells = vs.toArray := (cl_spec hc).1
      have h2 : ((Array.range (1 * k)).map (fun j => z.cells[j % z.cells.size]!)).size = k := by simp
      generalize (Array.range (1 * k)).map (fun j => z.cells[j % z.cells.size]!) = cs at h2
      have h3 := hfold vs [] cs.toList (by simp [hk1, h2]) (by simp)
      rw [Array.toArray_toList] at h3
      simp only [Instr.fill, h1, List.size_toArray, hk1, Nat.zero_mul, Nat.zero_add, h2, Nat.lt_irrefl, ne_eq, not_true_eq_false, decide_false, Bool.or_self, Bool.false_eq_true, if_false, gt_iff_lt]
      simp only [List.length_nil, List.nil_append] at h3
      rw [← Array.foldl_toList]
      simp only [Array.toList_zipIdx]
      exact congrArg some h3
    refine ⟨{ w with heap := w.heap.push (cellsO vs e) }, (t, .slice (some ⟨w.heap.size, 0, none⟩) 1 1) :: l, (w.heap.size, cellsO vs e) :: hl, _, .inl ⟨_, ?_, hf.put ht _⟩, hh.alloc _, (hh.alloc _).st, .one, h _⟩
    have h2 : ¬ (1 * k > 2 ^ 24) := by omega
    have h3 : ¬ (1 * k = 0) := by omega
    simp only [execOp, Instr.buildSlice, Sem.run_bind, run_underlying hu.under, Result.andThen_ok, hs0.size, h2, h3, if_false, hz.zero, Sem.run_pure, List.map_toArray, List.map_cons, List.map_nil, hf.ev hx]
    rw [hfill]
    rfl
theorem Rg.bslice1N {t st e k : Nat} {x : Operand} {v z : Value} {vs zs : List Value} {q : Hl} [hu : TyUnder P st (.slice e)] [hs0 : TySize P e k] [hz : TyZero P e z] (ho : nth ops i = some ⟨some t, .buildSlice st 1 #[(0, x)], ty, pos, af, g⟩) (hg : wantB ops l g = some true) (ht : Nat.blt t n.n = true)
    (hx : ev l x = some v) (hc : cl v = some vs) (hcz : cl z = some zs) (hk : (vs.length == k && zs.length == k && Nat.blt 0 k && Nat.ble k 16777216) = true)
    [hq : PullL hl hs q] (h : ∀ b, Rg P Qf n F ks ops clr hs r ((t, .slice (some ⟨b, 0, none⟩) 1 1) :: l) ((b, cellsO vs e) :: hl)) : Rg P Qf n F ks ops clr hs (.st i .eff r) l hl :=
  Rg.run ho hg fun a w hf hh => by
    simp only [Bool.and_eq_true, beq_iff_eq, Nat.blt_eq, Nat.ble_eq] at hk
    obtain ⟨⟨⟨hk1, hk2⟩, hk3⟩, hk4⟩ := hk
    have hfold : ∀ (us pre : List Value) (cs : List Value), pre.length + us.length = cs.length → cs.take pre.length = pre → (us.zipIdx pre.length).foldl (fun (c : Array Value) (p : Value × Nat) => c.setIfInBounds p.2 p.1) cs.toArray = (pre ++ us).toArray := by
      intro us
      induction us with
      | nil =>
        intro pre cs ho hp
        rw [List.take_of_length_le (by simp at ho; omega)] at hp
        simp [hp]
      | cons u us ih =>
        intro pre cs ho hp
        simp only [List.length_cons] at ho
        rw [List.zipIdx_cons, List.foldl_cons]
        have := ih (pre ++ [u]) (cs.set pre.length u) (by simp; omega) (by
          rw [List.length_append, List.length_singleton, List.take_succ_eq_append_getElem (by simp; omega), List.take_set, hp, List.set_eq_of_length_le (Nat.le_refl _)]
          simp)
        simp only [List.setIfInBounds_toArray]
        rw [List.length_append, List.length_singleton] at this
        rw [this]
        simp
    have hfill : Instr.fill (fun i => some (i * k, k)) ((Array.range (1 * k)).map (fun j => z.cells[j % z.cells.size]!)) [(0, v)] = some vs.toArray := by
      have h1 : v.cells = vs.toArray := (cl_spec hc).1
      have h2 : ((Array.range (1 * k)).map (fun j => z.cells[j % z.cells.size]!)).size = k := by simp
      generalize (Array.range (1 * k)).map (fun j => z.cells[j % z.cells.size]!) = cs at h2
      have h3 := hfold vs [] cs.toList (by simp [hk1, h2]) (by simp)
      rw [Array.toArray_toList] at h3
      simp only [Instr.fill, h1, List.size_toArray, hk1, Nat.zero_mul, Nat.zero_add, h2, Nat.lt_irrefl, ne_eq, not_true_eq_false, decide_false, Bool.or_self, Bool.false_eq_true, if_false, gt_iff_lt]
      simp only [List.length_nil, List.nil_append] at h3
      rw [← Array.foldl_toList]
      simp only [Array.toList_zipIdx]
      exact congrArg some h3
    refine ⟨{ w with heap := w.heap.push (cellsO vs e) }, (t, .slice (some ⟨w.heap.size, 0, none⟩) 1 1) :: l, (w.heap.size, cellsO vs e) :: hl, _, .inl ⟨_, ?_, hf.put ht _⟩, hh.alloc _, ⟨(w.heap.size, cellsO vs e) :: q, (hh.alloc _).perm ((hq.perm.trans List.perm_append_comm).cons _)⟩, .same, h _⟩
    have h2 : ¬ (1 * k > 2 ^ 24) := by omega
    have h3 : ¬ (1 * k = 0) := by omega
    simp only [execOp, Instr.buildSlice, Sem.run_bind, run_underlying hu.under, Result.andThen_ok, hs0.size, h2, h3, if_false, hz.zero, Sem.run_pure, List.map_toArray, List.map_cons, List.map_nil, hf.ev hx]
    rw [hfill]
    rfl
theorem setsL_mk : ∀ (us : List Value) (vs : List Value) (off : Nat), off + us.length ≤ vs.length → setsL vs off us = some (vs.take off ++ us ++ vs.drop (off + us.length))
  | [], vs, off, h => by simp [setsL]
  | u :: us, vs, off, h => by
    simp only [List.length_cons] at h
    have := setsL_mk us (vs.set off u) (off + 1) (by simp; omega)
    simp only [setsL, setL_mk u (show off < vs.length by omega), this]
    congr 1
    rw [List.take_succ_eq_append_getElem (by simp; omega), List.take_set, List.set_eq_of_length_le (by simp; omega)]
    simp only [List.getElem_set_self, List.append_assoc, List.cons_append, List.nil_append]
    congr 3
    rw [List.drop_set_of_lt (by omega)]
    congr 1
    simp; omega
theorem flat_set (ys : List α) (j : Nat) (y : α) (hj : j < ys.length) : flat E (ys.set j y) = (flat E ys).take (j * E.k) ++ E.cells y ++ (flat E ys).drop (j * E.k + E.k) := by
  have e1 : ys = ys.take j ++ (ys[j] :: ys.drop (j + 1)) := by rw [← List.drop_eq_getElem_cons hj, List.take_append_drop]
  have ht : (flat E (ys.take j)).length = j * E.k := by rw [flat_length]; congr 1; simp; omega
  have e2 : flat E ys = flat E (ys.take j) ++ (E.cells ys[j] ++ flat E (ys.drop (j + 1))) :=
    (congrArg (flat E) e1).trans (by rw [flat_append]; rfl)
  have e3 : ys.set j y = ys.take j ++ (y :: ys.drop (j + 1)) := by
    rw [List.set_eq_take_append_cons_drop, if_pos hj]
  rw [e3, flat_append, e2]
  have e4 : flat E (y :: ys.drop (j + 1)) = E.cells y ++ flat E (ys.drop (j + 1)) := rfl
  rw [e4]
  have hB := E.len ys[j]
  generalize flat E (ys.take j) = A at ht
  generalize flat E (ys.drop (j + 1)) = C
  generalize E.cells ys[j] = B at hB
  simp [List.take_append, List.drop_append, ht, hB]

theorem Rg.storeR [Inhabited α] {t b off : Nat} {x y : Operand} {d : Option Tmp} {z : α} {v : Value} {ys : List α} {sp : List Value} {put : Obj → Hl} (j : Nat) (ho : nth ops i = some ⟨d, .store t x y, ty, pos, af, g⟩) (hg : wantB ops l g = some true) (hd : d = none)
    (hx : ev l x = some (.pointer (some ⟨b, off, none⟩))) (hy : ev l y = some v) [hb : Lens hl b (rowS E ys sp) put] [ht : RowTy P E t] (hv : v = E.val z) (hoff : off = j * E.k) (hj : j < ys.length) (hclr : clr.contains i = true)
    (h : Rg P Qf n F ks ops clr (put (rowS E (ys.set j z) sp)) r l (put (rowS E (ys.set j z) sp))) : Rg P Qf n F ks ops clr hs (.st i .eff r) l hl :=
  Rg.run ho hg fun a w hf hh => by
    subst hd; subst hv; subst hoff
    have hlen := flat_lt E ys (i := E.k - 1) hj (by have := E.pos; omega)
    have hpos := E.pos
    have hq : setsL (flat E ys ++ sp) (j * E.k) (E.cells z) = some (flat E (ys.set j z) ++ sp) := by
      rw [setsL_mk _ _ _ (by rw [E.len, List.length_append]; omega), flat_set ys j z hj, E.len]
      congr 1
      rw [List.take_append_of_le_length (by omega), List.drop_append_of_le_length (by omega)]
      simp
    have hc : (E.val z).cells = (E.cells z).toArray := by rw [← E.vc]
    have hrun := run_storeAt (P := P) (t := t) ht.size hc (E.len z) (E.one z) (hh.own b _ hb.mem) hq
    exact ⟨_, l, _, _, .inr ⟨by simp [execOp, hf.ev hx, hf.ev hy, hrun, rowS], hf⟩, hb.putB hh _, (hb.putB hh _).st, .inl hclr, h⟩

theorem run_loadCells' {w : World} {b off : Nat} : ∀ (us : List Value) (i : Nat) (acc : Array Value), (∀ j u, us[j]? = some u → w.cell? ⟨b, off + i + j, none⟩ = some u) →
    (loadCellsFrom ⟨b, off, none⟩ i us.length acc).run P w = .ok (acc ++ us.toArray) w
  | [], i, acc, h => by simp [loadCellsFrom]
  | u :: us, i, acc, h => by
    have h0 := h 0 u rfl
    have h1 : (load ⟨b, off + i, none⟩).run P w = .ok u w := by
      rw [Nat.add_zero] at h0
      simp [load, Sem.run, h0]
    have h2 := run_loadCells' us (i + 1) (acc.push u) (fun j v hv => by
      have := h (j + 1) v (by simpa using hv)
      rwa [show off + i + (j + 1) = off + (i + 1) + j by omega] at this)
    simp only [List.length_cons, loadCellsFrom, addr_add, Sem.run_bind, h1, Result.andThen_ok, h2]
    simp
theorem run_loadArg [Inhabited α] {t b off j : Nat} {ys : List α} {w : World} (ht : RowTy P E t) (hc : ∀ j u, (flat E ys)[j]? = some u → w.cell? ⟨b, off + j, none⟩ = some u) (hj : j < ys.length) : (loadVar t ⟨b, off + j * E.k, none⟩).run P w = .ok (E.val ys[j]!) w := by
  have hcell : ∀ i u, (E.cells ys[j]!)[i]? = some u → w.cell? ⟨b, off + j * E.k + i, none⟩ = some u := fun i u hu => by
    have hi : i < E.k := by rw [← E.len ys[j]!]; exact (List.getElem?_eq_some_iff.1 hu).1
    rw [Nat.add_assoc]
    refine hc _ u ?_
    rw [flat_get E ys j i ys[j]! (by rw [getElem!_pos ys j hj]; exact List.getElem?_eq_getElem hj) hi]
    exact hu
  rcases ht.load with ⟨h1, h2⟩ | ⟨h1, hk, h2⟩
  · rw [h2]
    have := run_loadCells' (P := P) (b := b) (off := off + j * E.k) (w := w) (E.cells ys[j]!) 0 #[] (by simpa using hcell)
    rw [E.len] at this
    simp only [loadVar, Sem.run_bind, h1, ht.size, Result.andThen_ok, if_true, loadCells, this]
    simp
  · have h0 := hcell 0 (E.val ys[j]!) (by rw [h2]; rfl)
    rw [Nat.add_zero] at h0
    simp only [loadVar, Sem.run_bind, h1, Result.andThen_ok, Bool.false_eq_true, if_false]
    simp [load, Sem.run, h0]
theorem Ev.ldS [Inhabited α] {t b off o c m : Nat} {v : Value} {ys : List α} {x : Operand} {d : Option Tmp} (j : Nat) (hsrc : Src E F hl v ys) (hv : v = .slice (some ⟨b, off, none⟩) m c) (hx : ev l x = some (.pointer (some ⟨b, o, none⟩))) [ht : RowTy P E t] (ho : o = off + j * E.k) (hj : j < ys.length) :
    Ev P n F l hl ⟨d, .load t x, ty, pos, af, g⟩ (E.val ys[j]!) := fun a w hf hs => by
  subst hv; subst ho
  rcases hsrc with ⟨_, rfl⟩ | ⟨b', off', c', e, h⟩
  · exact absurd hj (Nat.not_lt_zero _)
  · cases e
    have h1 := run_loadArg (j := j) ht (h w hs) hj
    simp [execOp, hf.ev hx, Instr.loadAt, Instr.sureAddr, h1]
/-- A field of an element. -/
theorem Ev.ldSf [Inhabited α] {t b off o c m : Nat} {v u : Value} {ys : List α} {x : Operand} {d : Option Tmp} (j i : Nat) (hsrc : Src E F hl v ys) (hv : v = .slice (some ⟨b, off, none⟩) m c) (hx : ev l x = some (.pointer (some ⟨b, o, none⟩))) [ht : TyOne P t] (ho : o = off + j * E.k + i) (hj : j < ys.length)
    (hu : (E.cells ys[j]!)[i]? = some u) : Ev P n F l hl ⟨d, .load t x, ty, pos, af, g⟩ u := fun a w hf hs => by
  subst hv; subst ho
  rcases hsrc with ⟨_, rfl⟩ | ⟨b', off', c', e, h⟩
  · exact absurd hj (Nat.not_lt_zero _)
  · cases e
    have hi : i < E.k := by rw [← E.len ys[j]!]; exact (List.getElem?_eq_some_iff.1 hu).1
    have hc : w.cell? ⟨b, off + j * E.k + i, none⟩ = some u := by
      rw [Nat.add_assoc]
      refine h w hs _ u ?_
      rw [flat_get E ys j i ys[j]! (by rw [getElem!_pos ys j hj]; exact List.getElem?_eq_getElem hj) hi]
      exact hu
    have h0 : (load ⟨b, off + j * E.k + i, none⟩).run P w = .ok u w := by simp [load, Sem.run, hc]
    have h1 : (loadVar t ⟨b, off + j * E.k + i, none⟩).run P w = .ok u w := by
      simp only [loadVar, Sem.run_bind, ht.agg, Result.andThen_ok, Bool.false_eq_true, if_false]
      exact h0
    simp [execOp, hf.ev hx, Instr.loadAt, Instr.sureAddr, h1]
/-- .. of a row of the call's own -/
theorem Ev.ldRf [Inhabited α] {t b off : Nat} {ys : List α} {sp : List Value} {u : Value} {x : Operand} {d : Option Tmp} (j i : Nat) (hx : ev l x = some (.pointer (some ⟨b, off, none⟩))) [hb : Has F hl b (rowS E ys sp)] [ht : TyOne P t] (ho : off = j * E.k + i) (hj : j < ys.length)
    (hu : (E.cells ys[j]!)[i]? = some u) : Ev P n F l hl ⟨d, .load t x, ty, pos, af, g⟩ u := fun a w hf hs => by
  subst ho
  have hi : i < E.k := by rw [← E.len ys[j]!]; exact (List.getElem?_eq_some_iff.1 hu).1
  have hv : nth (flat E ys ++ sp) (j * E.k + i) = some u := by
    rw [nth_eq, List.getElem?_append_left (flat_lt E ys hj hi), flat_get E ys j i ys[j]! (by rw [getElem!_pos ys j hj]; exact List.getElem?_eq_getElem hj) hi]
    exact hu
  have h1 := run_loadVar1 (P := P) (t := t) (hb.st hs) hv
  simp [execOp, hf.ev hx, Instr.loadAt, Instr.sureAddr, h1]
/-- a slice that has elements has a block -/
theorem Arg.block {v : Value} {ys : List α} (h : Arg E F v ys) (h0 : 0 < ys.length) : ∃ b off c, v = .slice (some ⟨b, off, none⟩) ys.length c ∧ ys.length ≤ c := by
  rcases h with ⟨_, rfl⟩ | ⟨b, off, c, e, hc, _⟩
  · simp at h0
  · exact ⟨b, off, c, e, hc⟩
/-- .. and its first k -/
theorem Arg.take {p : Option Addr} {m c : Nat} {ys : List α} (h : Arg E F (.slice p m c) ys) {k : Nat} (hk : k ≤ ys.length) : Arg E F (.slice p k c) (ys.take k) := by
  rcases h with ⟨_, rfl⟩ | ⟨b, off, c, e, hc, h⟩
  · have : k = 0 := by simpa using hk
    subst this
    exact .inl ⟨⟨_, _, rfl⟩, rfl⟩
  · cases e
    refine .inr ⟨b, off, c, by simp [Nat.min_eq_left hk], by simp; omega, fun w hw j u hu => h w hw j u ?_⟩
    have e : flat E ys = flat E (ys.take k) ++ flat E (ys.drop k) := by
      conv => lhs; rw [← List.take_append_drop k ys]
      simp only [flat, List.flatMap_append]
    rw [e, List.getElem?_append_left (List.getElem?_eq_some_iff.1 hu).1, hu]
end
end Go.Proofs.Ytmocncadncgaaaa
