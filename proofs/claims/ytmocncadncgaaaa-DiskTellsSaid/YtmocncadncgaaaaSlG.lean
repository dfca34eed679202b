/- Numbers' bits and kinds, bytes and texts, slices beside nil, slices written out. -/
import Derived.Test.YtmocncadncgaaaaSlF
import Derived.Laws.BytesArg
namespace Go.Proofs.Ytmocncadncgaaaa
set_option linter.unusedVariables false

/-- Bytes in a row. -/
def byteEnc (t : TypeId) : Enc UInt8 where
  k := 1
  tid := t
  cells := fun b => [.int .u8 (b.toNat : Int)]
  val := fun b => .int .u8 (b.toNat : Int)
  pos := by decide
  len := fun _ => rfl
  one := fun x v hv => by simp at hv; subst hv; rfl
  vc := fun _ => rfl

theorem wrap_u8 (n : Nat) : IntKind.u8.wrap (n : Int) = ((UInt8.ofNat n).toNat : Int) := by
  simp only [IntKind.wrap, IntKind.bits, IntKind.signed]
  simp
theorem wrap_u {k : IntKind} (hk : k.signed = false) (n : Nat) : k.wrap (n : Int) = ((n % 2 ^ k.bits : Nat) : Int) := by
  simp [IntKind.wrap, hk]
theorem wrap_ult {k : IntKind} (hk : k.signed = false) {n : Nat} (hn : n < 2 ^ k.bits) : k.wrap (n : Int) = (n : Int) := by
  rw [wrap_u hk, Nat.mod_eq_of_lt hn]

section
variable {P : Program} {n : Nf} {F : Fm} {l : Env} {hl : Hl} {d : Option Tmp} {ty : TypeId} {pos : String} {af : Array Edge} {g : Option (Nat × Bool)}

theorem Pv.convI {s t : TypeId} {x : Operand} {k k' : IntKind} {z : Int} {ds : TypeDesc} [hs : TyUnder P s ds] [ht : TyUnder P t (.int k)] (hx : ev l x = some (.int k' z)) : Pv P n l ⟨d, .convert s t x, ty, pos, af, g⟩ (.int k (k.wrap z)) := fun a w hf => by
  simp [execOp, hf.ev hx, Go.convert, run_underlying hs.under, run_underlying ht.under, Conv.intToInt]
theorem Pv.convStr {s t : TypeId} {x : Operand} {z : ByteArray} {ds : TypeDesc} [hs : TyUnder P s ds] [ht : TyUnder P t .string] (hx : ev l x = some (.string z)) : Pv P n l ⟨d, .convert s t x, ty, pos, af, g⟩ (.string z) := fun a w hf => by
  simp [execOp, hf.ev hx, Go.convert, run_underlying hs.under, run_underlying ht.under]
theorem Ev.str {tb s t : TypeId} {x : Operand} {v : Value} {xs : List UInt8} [hs : TyUnder P s (.slice tb)] [hb : TyUnder P tb (.int .u8)] [ht : TyUnder P t .string] (hsrc : Src (byteEnc tb) F hl v xs) (hx : ev l x = some v) :
    Ev P n F l hl ⟨d, .convert s t x, ty, pos, af, g⟩ (.string ⟨xs.toArray⟩) := fun a w hf hst => by
  rcases hsrc with ⟨⟨p, c, rfl⟩, rfl⟩ | ⟨b, off, c, rfl, h⟩
  · cases p with
    | none =>
      have := run_convert_bytes_nil (P := P) w s tb hs.under hb.under 0 c t ht.under
      simp only [execOp, hf.ev hx, this, Sem.run_bind, Result.andThen_ok, Sem.run_pure]
      rfl
    | some a =>
      have := run_convert_bytes_string (P := P) w s t tb (some a) 0 c hs.under hb.under ht.under
      simp [execOp, hf.ev hx, this, Conv.bytesToString, loadCells, loadCellsFrom]
      rfl
  · have hlen : (xs.map fun b : UInt8 => (b.toNat : Int)).length = xs.length := List.length_map _
    have := run_convert_bytes_arg (P := P) w s tb hs.under hb.under b off xs.length c (xs.map fun b : UInt8 => (b.toNat : Int)) hlen (fun i hi => by
      have h1 := h w hst i (.int .u8 ((xs[i].toNat : Nat) : Int)) (by
        have := flat_get (byteEnc tb) xs i 0 xs[i] (List.getElem?_eq_getElem hi) (by simp [byteEnc])
        simp only [byteEnc, Nat.mul_one, Nat.add_zero] at this
        exact this)
      rw [h1]
      simp [List.getD, hi]) t ht.under
    have e : strOfNums (xs.map fun b : UInt8 => (b.toNat : Int)) = ⟨xs.toArray⟩ := by
      simp [strOfNums, List.map_map, Function.comp_def]
    rw [e] at this
    simp [execOp, hf.ev hx, this]

/-! ### Bits -/
theorem Pv.shr {t t' : TypeId} {x y : Operand} {k k' : IntKind} {p : Int} (m : Nat) (hx : ev l x = some (.int k p)) (hy : ev l y = some (.int k' (m : Int))) : Pv P n l ⟨d, .binOp .shr t x y t', ty, pos, af, g⟩ (.int k (p.fdiv (2 ^ Min.min m k.bits))) := fun a w hf => by
  have h0 : ¬ ((m : Int) < 0) := by omega
  simp [execOp, hf.ev hx, hf.ev hy, eqGuard_int, binOp, Op.shift, h0, Int.toNat_natCast]
theorem Pv.shl {t t' : TypeId} {x y : Operand} {k k' : IntKind} {p : Int} (m : Nat) (hx : ev l x = some (.int k p)) (hy : ev l y = some (.int k' (m : Int))) : Pv P n l ⟨d, .binOp .shl t x y t', ty, pos, af, g⟩ (.int k (k.wrap (p * 2 ^ Min.min m k.bits))) := fun a w hf => by
  have h0 : ¬ ((m : Int) < 0) := by omega
  simp [execOp, hf.ev hx, hf.ev hy, eqGuard_int, binOp, Op.shift, h0, Int.toNat_natCast]
/-- of numbers that are not below 0 -/
theorem Pv.shrN {t t' : TypeId} {x y : Operand} {k k' : IntKind} (p m : Nat) (hx : ev l x = some (.int k (p : Int))) (hy : ev l y = some (.int k' (m : Int))) (hm : m ≤ k.bits) : Pv P n l ⟨d, .binOp .shr t x y t', ty, pos, af, g⟩ (.int k ((p / 2 ^ m : Nat) : Int)) := by
  have h := Pv.shr (P := P) (n := n) (d := d) (ty := ty) (pos := pos) (af := af) (g := g) (t := t) (t' := t') m hx hy
  rw [Nat.min_eq_left hm, Int.fdiv_eq_ediv_of_nonneg _ (by exact_mod_cast Nat.zero_le _)] at h
  exact_mod_cast h
theorem Pv.shlN {t t' : TypeId} {x y : Operand} {k k' : IntKind} (p m : Nat) (hk : k.signed = false) (hx : ev l x = some (.int k (p : Int))) (hy : ev l y = some (.int k' (m : Int))) (hm : m ≤ k.bits) : Pv P n l ⟨d, .binOp .shl t x y t', ty, pos, af, g⟩ (.int k ((p * 2 ^ m % 2 ^ k.bits : Nat) : Int)) := by
  have h := Pv.shl (P := P) (n := n) (d := d) (ty := ty) (pos := pos) (af := af) (g := g) (t := t) (t' := t') m hx hy
  rw [Nat.min_eq_left hm, show ((p : Int) * 2 ^ m) = ((p * 2 ^ m : Nat) : Int) by push_cast; rfl, wrap_u hk] at h
  exact h
theorem ofInt_nat (m p : Nat) : (BitVec.ofInt m (p : Int)) = BitVec.ofNat m p := by
  apply BitVec.eq_of_toNat_eq
  simp [BitVec.toNat_ofInt, BitVec.toNat_ofNat]
theorem Pv.orN {t t' : TypeId} {x y : Operand} {k : IntKind} (p q : Nat) (hk : k.signed = false) (hx : ev l x = some (.int k (p : Int))) (hy : ev l y = some (.int k (q : Int))) (hp : p < 2 ^ k.bits) (hq : q < 2 ^ k.bits) : Pv P n l ⟨d, .binOp .or t x y t', ty, pos, af, g⟩ (.int k ((p ||| q : Nat) : Int)) := Pv.ar hx hy fun w => by
  rw [show binOp .or t (.int k p) (.int k q) = Op.intBits .or k p q by simp [binOp]]
  show Result.ok (Value.int k (k.wrap ((BitVec.ofInt k.bits p ||| BitVec.ofInt k.bits q).toNat : Nat))) w = _
  rw [ofInt_nat, ofInt_nat, BitVec.toNat_or, BitVec.toNat_ofNat, BitVec.toNat_ofNat, Nat.mod_eq_of_lt hp, Nat.mod_eq_of_lt hq, wrap_ult hk (Nat.or_lt_two_pow hp hq)]
theorem Pv.andN' {t t' : TypeId} {x y : Operand} {k : IntKind} (p q : Nat) (hk : k.signed = false) (hx : ev l x = some (.int k (p : Int))) (hy : ev l y = some (.int k (q : Int))) (hp : p < 2 ^ k.bits) (hq : q < 2 ^ k.bits) : Pv P n l ⟨d, .binOp .and t x y t', ty, pos, af, g⟩ (.int k ((p &&& q : Nat) : Int)) := Pv.ar hx hy fun w => by
  rw [show binOp .and t (.int k p) (.int k q) = Op.intBits .and k p q by simp [binOp]]
  show Result.ok (Value.int k (k.wrap ((BitVec.ofInt k.bits p &&& BitVec.ofInt k.bits q).toNat : Nat))) w = _
  rw [ofInt_nat, ofInt_nat, BitVec.toNat_and, BitVec.toNat_ofNat, BitVec.toNat_ofNat, Nat.mod_eq_of_lt hp, Nat.mod_eq_of_lt hq, wrap_ult hk (Nat.lt_of_le_of_lt Nat.and_le_left hp)]
theorem Pv.xorN {t t' : TypeId} {x y : Operand} {k : IntKind} (p q : Nat) (hk : k.signed = false) (hx : ev l x = some (.int k (p : Int))) (hy : ev l y = some (.int k (q : Int))) (hp : p < 2 ^ k.bits) (hq : q < 2 ^ k.bits) : Pv P n l ⟨d, .binOp .xor t x y t', ty, pos, af, g⟩ (.int k ((p ^^^ q : Nat) : Int)) := Pv.ar hx hy fun w => by
  rw [show binOp .xor t (.int k p) (.int k q) = Op.intBits .xor k p q by simp [binOp]]
  show Result.ok (Value.int k (k.wrap ((BitVec.ofInt k.bits p ^^^ BitVec.ofInt k.bits q).toNat : Nat))) w = _
  rw [ofInt_nat, ofInt_nat, BitVec.toNat_xor, BitVec.toNat_ofNat, BitVec.toNat_ofNat, Nat.mod_eq_of_lt hp, Nat.mod_eq_of_lt hq, wrap_ult hk (Nat.xor_lt_two_pow hp hq)]

/-! ### A slice beside nil -/
theorem run_equal_nilS {t e : TypeId} {p : Option Addr} {m c : Nat} {w : World} (h : P.underlying t = some (.slice e)) : (Op.equal t (.slice p m c) (.slice none 0 0)).run P w = .ok p.isNone w := by
  have key : ∀ n, (Op.equalIn (n + 1) t (.slice p m c) (.slice none 0 0)).run P w = .ok p.isNone w := fun n => by
    cases p <;> simp [Op.equalIn, run_underlying h]
  exact key 9999
theorem Pv.eqlNilS {t t' e : TypeId} {x y : Operand} {p : Option Addr} {m c : Nat} [h : TyUnder P t (.slice e)] (hx : ev l x = some (.slice p m c)) (hy : ev l y = some (.slice none 0 0)) : Pv P n l ⟨d, .binOp .eql t x y t', ty, pos, af, g⟩ (.bool p.isNone) := fun a w hf => by
  have := run_equal_nilS (P := P) (t := t) (p := p) (m := m) (c := c) (w := w) h.under
  cases p <;> simp [execOp, hf.ev hx, hf.ev hy, eqGuard, binOp, this]
theorem Pv.neqNilS {t t' e : TypeId} {x y : Operand} {p : Option Addr} {m c : Nat} [h : TyUnder P t (.slice e)] (hx : ev l x = some (.slice p m c)) (hy : ev l y = some (.slice none 0 0)) : Pv P n l ⟨d, .binOp .neq t x y t', ty, pos, af, g⟩ (.bool p.isSome) := fun a w hf => by
  have := run_equal_nilS (P := P) (t := t) (p := p) (m := m) (c := c) (w := w) h.under
  cases p <;> simp [execOp, hf.ev hx, hf.ev hy, eqGuard, binOp, this]

/-- A part of a slice that stays. -/
theorem Arg.sub {α : Type} {E : Enc α} {b off m c : Nat} {xs : List α} (h : Arg E F (.slice (some ⟨b, off, none⟩) m c) xs) (i j : Nat) (hij : i ≤ j) (hj : j ≤ xs.length) :
    Arg E F (.slice (some ⟨b, if c = i then off else off + i * E.k, none⟩) (j - i) (c - i)) ((xs.drop i).take (j - i)) := by
  rcases h with ⟨_, rfl⟩ | ⟨b', off', c', e, hc, hcell⟩
  · obtain rfl : j = 0 := by simpa using hj
    obtain rfl : i = 0 := by omega
    exact .inl ⟨⟨_, _, rfl⟩, by simp⟩
  · cases e
    have hlen : ((xs.drop i).take (j - i)).length = j - i := by simp; omega
    by_cases hci : c = i
    · have h0 : j - i = 0 := by omega
      rw [if_pos hci]
      refine .inr ⟨b, off, c - i, by rw [hlen], by rw [hlen]; omega, fun w hw q u hu => ?_⟩
      rw [h0, List.take_zero] at hu
      simp [flat] at hu
    · rw [if_neg hci]
      refine .inr ⟨b, off + i * E.k, c - i, by rw [hlen], by rw [hlen]; omega, fun w hw q u hu => ?_⟩
      have e1 : flat E xs = flat E (xs.take i) ++ (flat E ((xs.drop i).take (j - i)) ++ flat E ((xs.drop i).drop (j - i))) := by
        rw [← flat_append, List.take_append_drop, ← flat_append, List.take_append_drop]
      have hl2 : (flat E (xs.take i)).length = i * E.k := by rw [flat_length]; congr 1; simp; omega
      have := hcell w hw (i * E.k + q) u (by
        rw [e1, List.getElem?_append_right (by omega), hl2, show i * E.k + q - i * E.k = q by omega, List.getElem?_append_left (List.getElem?_eq_some_iff.1 hu).1, hu])
      rwa [← Nat.add_assoc] at this

/-! ### Arrays -/
theorem Pv.buildA {t e k m : Nat} {z : Value} {ps : List (Nat × Operand)} {vs : List (Nat × Value)} {c : Array Value} [hu : TyUnder P t (.array m e)] [hs : TySize P e k] [hz : TyZero P t z] (hp : evp l ps = some vs) (hc : Instr.fill (fun i => some (i * k, k)) z.cells vs = some c) : Pv P n l ⟨d, .build t ps.toArray, ty, pos, af, g⟩ (.agg c) := fun a w hf => by
  simp [execOp, hf.evp hp, Instr.build, run_underlying hu.under, hz.zero, hs.size, hc]
theorem Pv.index {t e m : Nat} {cs : List Value} {v : Value} {k : IntKind} {x y : Operand} (j : Nat) [hu : TyUnder P t (.array m e)] [h1 : TyOne P e] (hx : ev l x = some (.agg cs.toArray)) (hy : ev l y = some (.int k (j : Int))) (hj : j < m) (hv : cs[j]? = some v) (ho : v.oneCell' = true) : Pv P n l ⟨d, .index t x y, ty, pos, af, g⟩ v := fun a w hf => by
  simp [execOp, Instr.index, asIntOf, run_underlying hu.under, hf.ev hx, hf.ev hy, hj, h1.size, part, h1.agg, hv, Int.toNat_natCast]
theorem Pv.indexS {t : Nat} {s : ByteArray} {k : IntKind} {x y : Operand} (j : Nat) {b : UInt8} [hu : TyUnder P t .string] (hx : ev l x = some (.string s)) (hy : ev l y = some (.int k (j : Int))) (hv : s[j]? = some b) : Pv P n l ⟨d, .index t x y, ty, pos, af, g⟩ (.int .u8 (b.toNat : Int)) := fun a w hf => by
  simp [execOp, Instr.index, asIntOf, run_underlying hu.under, hf.ev hx, hf.ev hy, Int.toNat_natCast, hv]

/-! ### Slices written out: their cells by computing -/
variable {Qf : Exit → Act → World → Prop} {ks : List KItem} {ops : List Oper} {clr : List Nat} {hs : Hl} {r : Sd} {i : Nat}
theorem rep_get (zs : List Value) : ∀ (m j : Nat), j < m * zs.length → ((List.replicate m zs).flatten)[j]? = zs[j % zs.length]?
  | 0, j, h => by simp at h
  | m + 1, j, h => by
    rw [List.replicate_succ, List.flatten_cons]
    by_cases hj : j < zs.length
    · rw [List.getElem?_append_left hj, Nat.mod_eq_of_lt hj]
    · rw [List.getElem?_append_right (by omega), rep_get zs m (j - zs.length) (by rw [Nat.add_mul] at h; omega), ← Nat.mod_eq_sub_mod (by omega)]
theorem rep_cells (zs : List Value) (hz : 0 < zs.length) (m : Nat) : (Array.range (m * zs.length)).map (fun j => zs.toArray[j % zs.toArray.size]!) = ((List.replicate m zs).flatten).toArray := by
  apply Array.ext_getElem?
  intro j
  rw [Array.getElem?_map, show (((List.replicate m zs).flatten).toArray)[j]? = ((List.replicate m zs).flatten)[j]? by simp, List.size_toArray]
  by_cases hj : j < m * zs.length
  · have hm : j % zs.length < zs.length := Nat.mod_lt _ hz
    rw [rep_get zs m j hj, Array.getElem?_range, if_pos hj, Option.map_some, List.getElem?_eq_getElem hm]
    congr 1
    rw [getElem!_pos zs.toArray _ (by simpa using hm)]
    simp
  · have hl : ((List.replicate m zs).flatten).length = m * zs.length := by simp
    rw [List.getElem?_eq_none (by omega), Array.getElem?_range, if_neg hj]
    rfl
theorem Rg.bsliceN {t st e k m : Nat} {ps : List (Nat × Operand)} {vs : List (Nat × Value)} {z : Value} {zs cs : List Value} [hu : TyUnder P st (.slice e)] [hs0 : TySize P e k] [hz : TyZero P e z] (ho : nth ops i = some ⟨some t, .buildSlice st m ps.toArray, ty, pos, af, g⟩) (hg : wantB ops l g = some true) (ht : Nat.blt t n.n = true)
    (hv : evp l ps = some vs) (hcz : cl z = some zs) (hk : (zs.length == k && Nat.blt 0 k && Nat.blt 0 m && Nat.ble (m * k) 16777216) = true) (hc : Instr.fill (fun i => some (i * k, k)) ((List.replicate m zs).flatten).toArray vs = some cs.toArray)
    (h : ∀ b, Rg P Qf n F ks ops clr ((b, cellsO cs e) :: hl) r ((t, .slice (some ⟨b, 0, none⟩) m m) :: l) ((b, cellsO cs e) :: hl)) : Rg P Qf n F ks ops clr hl (.st i .eff r) l hl :=
  Rg.run ho hg fun a w hf hh => by
    simp only [Bool.and_eq_true, beq_iff_eq, Nat.blt_eq, Nat.ble_eq] at hk
    obtain ⟨⟨⟨hk1, hk2⟩, hk3⟩, hk4⟩ := hk
    refine ⟨{ w with heap := w.heap.push (cellsO cs e) }, (t, .slice (some ⟨w.heap.size, 0, none⟩) m m) :: l, (w.heap.size, cellsO cs e) :: hl, _, .inl ⟨_, ?_, hf.put ht _⟩, hh.alloc _, (hh.alloc _).st, .one, h _⟩
    have h2 : ¬ (m * k > 2 ^ 24) := by omega
    have h3 : ¬ (m * k = 0) := by
      intro e0
      rcases Nat.mul_eq_zero.1 e0 with h | h <;> omega
    have h4 := rep_cells zs (by omega) m
    rw [hk1] at h4
    simp only [execOp, Instr.buildSlice, Sem.run_bind, run_underlying hu.under, Result.andThen_ok, hs0.size, h2, h3, if_false, hz.zero, Sem.run_pure, List.map_toArray, hf.evp hv, (cl_spec hcz).1, h4]
    rw [hc]
    rfl
/-- The things in such a block, as a row. -/
theorem cells_as_row {α : Type} {E : Enc α} {e : TypeId} {cs : List Value} (ys : List α) (h : cs = flat E ys) (he : e = E.tid) : cellsO cs e = rowS E ys [] := by
  subst h; subst he
  simp [rowS, cellsO]
end
end Go.Proofs.Ytmocncadncgaaaa
