/- The operations, one rule each: what they yield, from what is known of the slots and of the heap. -/
import Derived.Test.YtmocncadncgaaaaSlB
import Derived.Laws.Sem
import Derived.Laws.World
import Derived.Laws.AppendOwn
import Derived.IntWalk
namespace Go.Proofs.Ytmocncadncgaaaa
set_option linter.unusedVariables false

abbrev cellsO (vs : List Value) (e : TypeId) : Obj := .cells vs.toArray e (0, 0)

/-! ### Types -/
class TyOne (P : Program) (t : TypeId) : Prop where
  agg : ∀ w, (isAgg t).run P w = .ok false w
  size : ∀ w, (sizeOf t).run P w = .ok 1 w
class TyAgg (P : Program) (t : TypeId) (k : outParam Nat) : Prop where
  agg : ∀ w, (isAgg t).run P w = .ok true w
  size : ∀ w, (sizeOf t).run P w = .ok k w
class TySize (P : Program) (t : TypeId) (k : outParam Nat) : Prop where
  size : ∀ w, (sizeOf t).run P w = .ok k w
instance {P : Program} {t : TypeId} [h : TyOne P t] : TySize P t 1 := ⟨h.size⟩
instance {P : Program} {t : TypeId} {k : Nat} [h : TyAgg P t k] : TySize P t k := ⟨h.size⟩
class TyZero (P : Program) (t : TypeId) (z : outParam Value) : Prop where
  zero : ∀ w, (zeroValue t).run P w = .ok z w
class TyUnder (P : Program) (t : TypeId) (d : outParam TypeDesc) : Prop where
  under : P.underlying t = some d
class TyInfo (P : Program) (t : TypeId) (i : outParam TypeInfo) : Prop where
  info : P.info? t = some i
class TyField (P : Program) (s : TypeId) (f : Nat) (off : outParam Nat) : Prop where
  place : ∀ b o w, (Instr.fieldAt s (.pointer (some ⟨b, o, none⟩)) f).run P w = .ok (.pointer (some ⟨b, o + off, none⟩)) w
class TyConc (P : Program) (t : TypeId) : Prop where
  conc : ∀ x w, (Instr.makeInterface t x).run P w = .ok (.iface t x) w
/-- a struct: its zero cells, and (offset, size) of its fields -/
class TyStruct (P : Program) (t : TypeId) (zs : outParam (List Value)) (fs : outParam (List (Nat × Nat))) : Prop where
  build : ∀ ps w, (Instr.build t ps).run P w = match Instr.fill (fun i => fs[i]?) zs.toArray ps.toList with | some c => .ok (.agg c) w | none => .halt (.stuck "build: no such field, or a part of the wrong size") w

section
variable {P : Program} {n : Nf} {F : Fm} {l : Env} {hl : Hl} {d : Option Tmp} {ty : TypeId} {pos : String} {af : Array Edge} {g : Option (Nat × Bool)}

theorem addr_add (b off k : Nat) : ((⟨b, off, none⟩ : Addr).add k) = ⟨b, off + k, none⟩ := by unfold Addr.add; split <;> simp_all
theorem tyField_mk {s f off k : Nat} {fs : Array Field} {fl : Field} (hu : P.underlying s = some (.struct fs)) (hf : fs[f]? = some fl) (ho : fl.offset = off) (hz : ∀ w, (sizeOf fl.type).run P w = .ok k w) (hk : k ≠ 0) : TyField P s f off := ⟨fun b o w => by
  simp [Instr.fieldAt, run_underlying hu, hf, Instr.sureAddr, fieldPlace, hz, hk, addr_add, ho]⟩

/-! ### Quiet in every world -/
theorem Pv.move {x : Operand} {v : Value} (hx : ev l x = some v) : Pv P n l ⟨d, .move x, ty, pos, af, g⟩ v := fun a w hf => by
  simp [execOp, hf.ev hx]
theorem Pv.assign {x : Operand} {v : Value} (hx : ev l x = some v) : Pv P n l ⟨d, .assign x, ty, pos, af, g⟩ v := fun a w hf => by
  simp [execOp, hf.ev hx]
theorem Pv.pickT {c x y : Operand} {v : Value} (hc : ev l c = some (.bool true)) (hx : ev l x = some v) : Pv P n l ⟨d, .pick c x y, ty, pos, af, g⟩ v := fun a w hf => by
  simp [execOp, hf.ev hx, hf.ev hc, asBool]
theorem Pv.pickF {c x y : Operand} {v : Value} (hc : ev l c = some (.bool false)) (hy : ev l y = some v) : Pv P n l ⟨d, .pick c x y, ty, pos, af, g⟩ v := fun a w hf => by
  simp [execOp, hf.ev hy, hf.ev hc, asBool]
theorem Pv.fa {s f b o off : Nat} {x : Operand} [ht : TyField P s f off] (hx : ev l x = some (.pointer (some ⟨b, o, none⟩))) : Pv P n l ⟨d, .fieldAddr s x f, ty, pos, af, g⟩ (.pointer (some ⟨b, o + off, none⟩)) := fun a w hf => by
  simp [execOp, hf.ev hx, ht.place]
theorem Pv.nilp {x : Operand} {a : Addr} (hx : ev l x = some (.pointer (some a))) : Pv P n l ⟨d, .nilCheck x, ty, pos, af, g⟩ (.pointer (some a)) := fun ac w hf => by
  simp [execOp, hf.ev hx]
theorem Pv.nili {x : Operand} {t : TypeId} {v : Value} (hx : ev l x = some (.iface t v)) : Pv P n l ⟨d, .nilCheck x, ty, pos, af, g⟩ (.iface t v) := fun ac w hf => by
  simp [execOp, hf.ev hx]
theorem Pv.nilf {x : Operand} {f : FuncId} {p q : Array Value} (hx : ev l x = some (.func (.func f) p q)) : Pv P n l ⟨d, .nilCheck x, ty, pos, af, g⟩ (.func (.func f) p q) := fun ac w hf => by
  simp [execOp, hf.ev hx]

theorem eqGuard_int {k k' : IntKind} {op : BinOp} {t : TypeId} {x y : Operand} {p q : Int} {w : World} : (eqGuard op t x y (.int k p) (.int k' q)).run P w = .ok () w := by
  unfold eqGuard
  by_cases h : (!(op matches .eql | .neq)) = true <;> simp

theorem Pv.cmp {op : BinOp} {t t' : TypeId} {x y : Operand} {k : IntKind} {p q : Int} {v : Value} (hx : ev l x = some (.int k p)) (hy : ev l y = some (.int k q)) (hop : (match op with | .eql | .neq | .lss | .leq | .gtr | .geq => true | _ => false) = true)
    (hv : ∀ w, (Op.intCmp op p q).run P w = .ok v w) : Pv P n l ⟨d, .binOp op t x y t', ty, pos, af, g⟩ v := fun a w hf => by
  have h1 : (binOp op t (.int k p) (.int k q)).run P w = .ok v w := by
    cases op <;> first | (simp [binOp]; exact hv w) | cases hop
  simp [execOp, hf.ev hx, hf.ev hy, eqGuard_int, h1]
theorem Pv.lss {t t' : TypeId} {x y : Operand} {k : IntKind} {p q : Int} (hx : ev l x = some (.int k p)) (hy : ev l y = some (.int k q)) : Pv P n l ⟨d, .binOp .lss t x y t', ty, pos, af, g⟩ (.bool (decide (p < q))) := Pv.cmp hx hy rfl fun _ => rfl
theorem Pv.leq {t t' : TypeId} {x y : Operand} {k : IntKind} {p q : Int} (hx : ev l x = some (.int k p)) (hy : ev l y = some (.int k q)) : Pv P n l ⟨d, .binOp .leq t x y t', ty, pos, af, g⟩ (.bool (decide (p ≤ q))) := Pv.cmp hx hy rfl fun _ => rfl
theorem Pv.gtr {t t' : TypeId} {x y : Operand} {k : IntKind} {p q : Int} (hx : ev l x = some (.int k p)) (hy : ev l y = some (.int k q)) : Pv P n l ⟨d, .binOp .gtr t x y t', ty, pos, af, g⟩ (.bool (decide (q < p))) := Pv.cmp hx hy rfl fun _ => rfl
theorem Pv.geq {t t' : TypeId} {x y : Operand} {k : IntKind} {p q : Int} (hx : ev l x = some (.int k p)) (hy : ev l y = some (.int k q)) : Pv P n l ⟨d, .binOp .geq t x y t', ty, pos, af, g⟩ (.bool (decide (q ≤ p))) := Pv.cmp hx hy rfl fun _ => rfl
theorem Pv.eql {t t' : TypeId} {x y : Operand} {k : IntKind} {p q : Int} (hx : ev l x = some (.int k p)) (hy : ev l y = some (.int k q)) : Pv P n l ⟨d, .binOp .eql t x y t', ty, pos, af, g⟩ (.bool (p == q)) := Pv.cmp hx hy rfl fun _ => rfl
theorem Pv.neq {t t' : TypeId} {x y : Operand} {k : IntKind} {p q : Int} (hx : ev l x = some (.int k p)) (hy : ev l y = some (.int k q)) : Pv P n l ⟨d, .binOp .neq t x y t', ty, pos, af, g⟩ (.bool (p != q)) := Pv.cmp hx hy rfl fun _ => rfl

theorem Pv.ar {op : BinOp} {t t' : TypeId} {x y : Operand} {k : IntKind} {p q : Int} {v : Value} (hx : ev l x = some (.int k p)) (hy : ev l y = some (.int k q))
    (hv : ∀ w, (binOp op t (.int k p) (.int k q)).run P w = .ok v w) : Pv P n l ⟨d, .binOp op t x y t', ty, pos, af, g⟩ v := fun a w hf => by
  simp [execOp, hf.ev hx, hf.ev hy, eqGuard_int, hv]
theorem Pv.addW {t t' : TypeId} {x y : Operand} {k : IntKind} {p q : Int} (hx : ev l x = some (.int k p)) (hy : ev l y = some (.int k q)) : Pv P n l ⟨d, .binOp .add t x y t', ty, pos, af, g⟩ (.int k (k.wrap (p + q))) := Pv.ar hx hy fun _ => by simp [binOp, Op.intArith]
theorem Pv.subW {t t' : TypeId} {x y : Operand} {k : IntKind} {p q : Int} (hx : ev l x = some (.int k p)) (hy : ev l y = some (.int k q)) : Pv P n l ⟨d, .binOp .sub t x y t', ty, pos, af, g⟩ (.int k (k.wrap (p - q))) := Pv.ar hx hy fun _ => by simp [binOp, Op.intArith]
theorem Pv.mulW {t t' : TypeId} {x y : Operand} {k : IntKind} {p q : Int} (hx : ev l x = some (.int k p)) (hy : ev l y = some (.int k q)) : Pv P n l ⟨d, .binOp .mul t x y t', ty, pos, af, g⟩ (.int k (k.wrap (p * q))) := Pv.ar hx hy fun _ => by simp [binOp, Op.intArith]

theorem i64_wrap {z : Int} (h : -9223372036854775808 ≤ z ∧ z ≤ 9223372036854775807) : IntKind.i64.wrap z = z := by
  simp only [IntKind.wrap, IntKind.bits, IntKind.signed]
  simp
  omega
theorem Pv.add {t t' : TypeId} {x y : Operand} {p q : Int} (hx : ev l x = some (.int .i64 p)) (hy : ev l y = some (.int .i64 q)) (h : -9223372036854775808 ≤ p + q ∧ p + q ≤ 9223372036854775807) : Pv P n l ⟨d, .binOp .add t x y t', ty, pos, af, g⟩ (.int .i64 (p + q)) := by
  have := Pv.addW (P := P) (n := n) (d := d) (ty := ty) (pos := pos) (af := af) (g := g) (t := t) (t' := t') hx hy
  rwa [i64_wrap h] at this
theorem Pv.sub {t t' : TypeId} {x y : Operand} {p q : Int} (hx : ev l x = some (.int .i64 p)) (hy : ev l y = some (.int .i64 q)) (h : -9223372036854775808 ≤ p - q ∧ p - q ≤ 9223372036854775807) : Pv P n l ⟨d, .binOp .sub t x y t', ty, pos, af, g⟩ (.int .i64 (p - q)) := by
  have := Pv.subW (P := P) (n := n) (d := d) (ty := ty) (pos := pos) (af := af) (g := g) (t := t) (t' := t') hx hy
  rwa [i64_wrap h] at this
theorem Pv.mul {t t' : TypeId} {x y : Operand} {p q : Int} (hx : ev l x = some (.int .i64 p)) (hy : ev l y = some (.int .i64 q)) (h : -9223372036854775808 ≤ p * q ∧ p * q ≤ 9223372036854775807) : Pv P n l ⟨d, .binOp .mul t x y t', ty, pos, af, g⟩ (.int .i64 (p * q)) := by
  have := Pv.mulW (P := P) (n := n) (d := d) (ty := ty) (pos := pos) (af := af) (g := g) (t := t) (t' := t') hx hy
  rwa [i64_wrap h] at this
/-- the division of two numbers that are not below 0 -/
theorem Pv.quo {t t' : TypeId} {x y : Operand} {p q : Int} (hx : ev l x = some (.int .i64 p)) (hy : ev l y = some (.int .i64 q)) (h : 0 ≤ p ∧ p ≤ 9223372036854775807 ∧ 0 < q) : Pv P n l ⟨d, .binOp .quo t x y t', ty, pos, af, g⟩ (.int .i64 (p / q)) := Pv.ar hx hy fun w => by
  have hq : q ≠ 0 := by omega
  have hd : p.tdiv q = p / q := Int.tdiv_eq_ediv_of_nonneg h.1
  have h1 : 0 ≤ p / q := Int.ediv_nonneg h.1 (by omega)
  have h2 : p / q ≤ p := Int.ediv_le_self _ h.1
  simp [binOp, Op.intDiv, hq, hd, i64_wrap (show -9223372036854775808 ≤ p / q ∧ p / q ≤ 9223372036854775807 by omega)]
theorem Pv.rem {t t' : TypeId} {x y : Operand} {p q : Int} (hx : ev l x = some (.int .i64 p)) (hy : ev l y = some (.int .i64 q)) (h : 0 ≤ p ∧ 0 < q) : Pv P n l ⟨d, .binOp .rem t x y t', ty, pos, af, g⟩ (.int .i64 (p % q)) := Pv.ar hx hy fun w => by
  have hq : q ≠ 0 := by omega
  have hd : p.tmod q = p % q := Int.tmod_eq_emod_of_nonneg h.1
  simp [binOp, Op.intDiv, hq, hd]
theorem Pv.min {x y : Operand} {t t' : TypeId} {k : IntKind} {p q : Int} (hx : ev l x = some (.int k p)) (hy : ev l y = some (.int k q)) : Pv P n l ⟨d, .call { callee := .builtin .min, args := #[x, y], argTypes := #[t, t'] }, ty, pos, af, g⟩ (.int k (min p q)) := fun a w hf => by
  simp [execOp, resolve, invoke, builtin, Builtin.min_, Builtin.min2, hf.ev hx, hf.ev hy]
  by_cases h : q < p
  · rw [if_pos h, Int.min_eq_right (by omega)]
  · rw [if_neg h, Int.min_eq_left (by omega)]
theorem Pv.max {x y : Operand} {t t' : TypeId} {k : IntKind} {p q : Int} (hx : ev l x = some (.int k p)) (hy : ev l y = some (.int k q)) : Pv P n l ⟨d, .call { callee := .builtin .max, args := #[x, y], argTypes := #[t, t'] }, ty, pos, af, g⟩ (.int k (max p q)) := fun a w hf => by
  simp [execOp, resolve, invoke, builtin, Builtin.max_, Builtin.max2, hf.ev hx, hf.ev hy]
  by_cases h : p < q
  · rw [if_pos h, Int.max_eq_right (by omega)]
  · rw [if_neg h, Int.max_eq_left (by omega)]
/-- the bits that two numbers share, the second one not below 0 -/
def andN (p q : Int) : Nat := ((BitVec.ofInt 64 p) &&& (BitVec.ofInt 64 q)).toNat
theorem andN_le {p q : Int} (h : 0 ≤ q ∧ q ≤ 9223372036854775807) : (andN p q : Int) ≤ q := by
  have h1 : andN p q ≤ (BitVec.ofInt 64 q).toNat := by rw [andN, BitVec.toNat_and]; exact Nat.and_le_right
  have h2 : ((BitVec.ofInt 64 q).toNat : Int) = q := by
    rw [BitVec.toNat_ofInt]
    omega
  omega
theorem Pv.and {t t' : TypeId} {x y : Operand} {p q : Int} (hx : ev l x = some (.int .i64 p)) (hy : ev l y = some (.int .i64 q)) (h : 0 ≤ q ∧ q ≤ 9223372036854775807) : Pv P n l ⟨d, .binOp .and t x y t', ty, pos, af, g⟩ (.int .i64 (andN p q : Nat)) := Pv.ar hx hy fun w => by
  have h1 := andN_le (p := p) h
  have h2 : IntKind.i64.wrap (andN p q : Nat) = (andN p q : Nat) := i64_wrap (by omega)
  show (Op.intBits .and .i64 p q).run P w = _
  show Result.ok (Value.int .i64 (IntKind.i64.wrap (andN p q : Nat))) w = _
  rw [h2]
theorem Pv.not {t : TypeId} {x : Operand} {b : Bool} (hx : ev l x = some (.bool b)) : Pv P n l ⟨d, .unOp .not t x, ty, pos, af, g⟩ (.bool (!b)) := fun a w hf => by
  simp [execOp, hf.ev hx, Op.unary]
theorem Pv.mkI {t : TypeId} {x : Operand} {v : Value} [ht : TyConc P t] (hx : ev l x = some v) : Pv P n l ⟨d, .makeInterface t x, ty, pos, af, g⟩ (.iface t v) := fun a w hf => by
  simp [execOp, hf.ev hx, ht.conc]
theorem Pv.extract {x : Operand} {i : Nat} {vs : List Value} {v : Value} (hx : ev l x = some (.tuple vs.toArray)) (hv : nth vs i = some v) : Pv P n l ⟨d, .extract x i, ty, pos, af, g⟩ v := fun a w hf => by
  rw [nth_eq] at hv
  simp [execOp, hf.ev hx, Instr.extract, hv]

/-- The operands' values, in order. -/
def evs (l : Env) : List Operand → Option (List Value)
  | [] => some []
  | x :: xs => match ev l x with
    | none => none
    | some v => match evs l xs with
      | none => none
      | some vs => some (v :: vs)
theorem Fr.evs {a : Act} (hf : Fr n l a) : ∀ {xs : List Operand} {vs : List Value}, Go.Proofs.Ytmocncadncgaaaa.evs l xs = some vs → xs.map a.eval = vs
  | [], vs, h => by simpa [Go.Proofs.Ytmocncadncgaaaa.evs] using h
  | x :: xs, vs, h => by
    simp only [Go.Proofs.Ytmocncadncgaaaa.evs] at h
    split at h
    · cases h
    · rename_i v hv
      split at h
      · cases h
      · rename_i us hus
        simp only [Option.some.injEq] at h
        rw [← h, List.map_cons, hf.ev hv, hf.evs hus]
def evp (l : Env) : List (Nat × Operand) → Option (List (Nat × Value))
  | [] => some []
  | (i, x) :: xs => match ev l x with
    | none => none
    | some v => match evp l xs with
      | none => none
      | some vs => some ((i, v) :: vs)
theorem Fr.evp {a : Act} (hf : Fr n l a) : ∀ {xs : List (Nat × Operand)} {vs : List (Nat × Value)}, Go.Proofs.Ytmocncadncgaaaa.evp l xs = some vs → xs.map (fun (i, x) => (i, a.eval x)) = vs
  | [], vs, h => by simpa [Go.Proofs.Ytmocncadncgaaaa.evp] using h
  | (i, x) :: xs, vs, h => by
    simp only [Go.Proofs.Ytmocncadncgaaaa.evp] at h
    split at h
    · cases h
    · rename_i v hv
      split at h
      · cases h
      · rename_i us hus
        simp only [Option.some.injEq] at h
        rw [← h, List.map_cons, hf.evp hus]
        simp only [hf.ev hv]
theorem Pv.mkF {fn : Fn} {p q : List Operand} {us vs : List Value} (hp : evs l p = some us) (hq : evs l q = some vs) : Pv P n l ⟨d, .makeFunc fn p.toArray q.toArray, ty, pos, af, g⟩ (.func fn us.toArray vs.toArray) := fun a w hf => by
  simp [execOp, Instr.makeFunc, hf.evs hp, hf.evs hq]
theorem Pv.build {t : TypeId} {zs : List Value} {fs : List (Nat × Nat)} {ps : List (Nat × Operand)} {vs : List (Nat × Value)} {c : Array Value} [ht : TyStruct P t zs fs] (hp : evp l ps = some vs) (hc : Instr.fill (fun i => fs[i]?) zs.toArray vs = some c) : Pv P n l ⟨d, .build t ps.toArray, ty, pos, af, g⟩ (.agg c) := fun a w hf => by
  simp [execOp, hf.evp hp, ht.build, hc]
theorem Pv.lenS {x : Operand} {t : TypeId} {e : TypeId} {p : Option Addr} {m c : Nat} [ht : TyUnder P t (.slice e)] (hx : ev l x = some (.slice p m c)) : Pv P n l ⟨d, .call { callee := .builtin .len, args := #[x], argTypes := #[t] }, ty, pos, af, g⟩ (.int .i64 m) := fun a w hf => by
  simp [execOp, resolve, invoke, builtin, Builtin.len_, run_underlying ht.under, hf.ev hx, goInt]
theorem Pv.ixA {t e k b off m c : Nat} {x y : Operand} {i : Int} (j : Nat) [ht : TyUnder P t (.slice e)] [hs : TySize P e k] (hx : ev l x = some (.slice (some ⟨b, off, none⟩) m c)) (hy : ev l y = some (.int .i64 i)) (hij : i = (j : Int)) (hj : j < m) :
    Pv P n l ⟨d, .indexAddr t x y, ty, pos, af, g⟩ (.pointer (some ⟨b, off + j * k, none⟩)) := fun a w hf => by
  subst hij
  have h2 : ((⟨b, off, none⟩ : Addr).add (j * k)) = ⟨b, off + j * k, none⟩ := by unfold Addr.add; split <;> simp_all
  simp [execOp, Instr.indexAt, run_underlying ht.under, hf.ev hx, hf.ev hy, asIntOf, hs.size, hj, h2, Int.toNat_natCast]

/-- x[lo:hi], the bounds within the length -/
theorem Pv.sl {t e k m c : Nat} {p : Option Addr} {x : Operand} {lo hi : Option Operand} {lv hv : Option Value} (i j : Nat) [ht : TyUnder P t (.slice e)] [hs : TySize P e k] (hx : ev l x = some (.slice p m c))
    (hlo : match lo with | none => i = 0 | some y => ev l y = some (.int .i64 (i : Int))) (hhi : match hi with | none => j = m | some y => ev l y = some (.int .i64 (j : Int))) (hij : i ≤ j) (hj : j ≤ c) (hm : hi = none → m ≤ c) :
    Pv P n l ⟨d, .slice t x lo hi none, ty, pos, af, g⟩ (.slice (if c = i then p else p.map (·.add (i * k))) (j - i) (c - i)) := fun a w hf => by
  cases lo with
  | none =>
    simp only at hlo; subst hlo
    cases hi with
    | none => simp only at hhi; subst hhi; simp [execOp, Instr.sliceAt, Instr.slice, Instr.sliceBounds, run_underlying ht.under, hf.ev hx, hs.size]
    | some y => simp only at hhi; simp [execOp, Instr.sliceAt, Instr.slice, Instr.sliceBounds, Instr.sliceBound, run_underlying ht.under, hf.ev hx, hf.ev hhi, hs.size, asIntOf, hj]
  | some z =>
    simp only at hlo
    cases hi with
    | none => simp only at hhi; subst hhi; simp [execOp, Instr.sliceAt, Instr.slice, Instr.sliceBounds, Instr.sliceBound, run_underlying ht.under, hf.ev hx, hf.ev hlo, hs.size, asIntOf, hij]
    | some y => simp only at hhi; simp [execOp, Instr.sliceAt, Instr.slice, Instr.sliceBounds, Instr.sliceBound, run_underlying ht.under, hf.ev hx, hf.ev hhi, hf.ev hlo, hs.size, asIntOf, hj, hij]

theorem Pv.slTo {t e k m c : Nat} {p : Option Addr} {x y : Operand} (j : Nat) [ht : TyUnder P t (.slice e)] [hs : TySize P e k] (hx : ev l x = some (.slice p m c)) (hy : ev l y = some (.int .i64 (j : Int))) (hj : j ≤ c) :
    Pv P n l ⟨d, .slice t x none (some y) none, ty, pos, af, g⟩ (.slice p j c) := fun a w hf => by
  have h := Pv.sl (P := P) (d := d) (ty := ty) (pos := pos) (af := af) (g := g) (lv := none) (hv := none) (lo := none) (hi := some y) 0 j (t := t) hx rfl hy (Nat.zero_le _) hj (fun h => by cases h) a w hf
  have e : (if c = 0 then p else p.map (·.add (0 * k))) = p := by
    split
    · rfl
    · cases p <;> simp [Addr.add]
  rw [h, e]; rfl
theorem Pv.slAt {t e k m c b off : Nat} {x y z : Operand} (i j : Nat) [ht : TyUnder P t (.slice e)] [hs : TySize P e k] (hx : ev l x = some (.slice (some ⟨b, off, none⟩) m c)) (hy : ev l y = some (.int .i64 (i : Int))) (hz : ev l z = some (.int .i64 (j : Int))) (hij : i ≤ j) (hj : j ≤ c) :
    Pv P n l ⟨d, .slice t x (some y) (some z) none, ty, pos, af, g⟩ (.slice (some ⟨b, if c = i then off else off + i * k, none⟩) (j - i) (c - i)) := fun a w hf => by
  have h := Pv.sl (P := P) (d := d) (ty := ty) (pos := pos) (af := af) (g := g) (lv := none) (hv := none) (lo := some y) (hi := some z) i j (t := t) hx hy hz hij hj (fun h => by cases h) a w hf
  rw [h]
  split <;> simp [addr_add]
theorem Pv.slFrom {t e k m c b off : Nat} {x y : Operand} (i : Nat) [ht : TyUnder P t (.slice e)] [hs : TySize P e k] (hx : ev l x = some (.slice (some ⟨b, off, none⟩) m c)) (hy : ev l y = some (.int .i64 (i : Int))) (hi : i ≤ m) (hm : m ≤ c) :
    Pv P n l ⟨d, .slice t x (some y) none none, ty, pos, af, g⟩ (.slice (some ⟨b, if c = i then off else off + i * k, none⟩) (m - i) (c - i)) := fun a w hf => by
  have h := Pv.sl (P := P) (d := d) (ty := ty) (pos := pos) (af := af) (g := g) (lv := none) (hv := none) (lo := some y) (hi := none) i m (t := t) hx hy rfl hi hm (fun _ => hm) a w hf
  rw [h]
  split <;> simp [addr_add]
theorem Pv.as {o : Oper} {v : Value} (v' : Value) (h : Pv P n l o v) (e : v = v') : Pv P n l o v' := e ▸ h
theorem Pv.asI {o : Oper} {k : IntKind} {z : Int} (j : Nat) (h : Pv P n l o (.int k z)) (e : z = (j : Int)) : Pv P n l o (.int k (j : Int)) := e ▸ h

/-! ### Loads -/
def grab : List Value → Nat → Nat → Option (List Value)
  | _, _, 0 => some []
  | vs, off, k + 1 => match nth vs off with
    | none => none
    | some v => match grab vs (off + 1) k with
      | none => none
      | some r => some (v :: r)

theorem run_load {w : World} {b off : Nat} {vs : List Value} {e : TypeId} {z : Nat × Nat} {v : Value} (hb : w.heap[b]? = some (.cells vs.toArray e z)) (hv : nth vs off = some v) : (load ⟨b, off, none⟩).run P w = .ok v w := by
  rw [nth_eq] at hv
  have : w.cell? ⟨b, off, none⟩ = some v := by simp [World.cell?, hb, hv]
  simp [load, Sem.run, this]

theorem run_loadCells {w : World} {b off : Nat} {vs : List Value} {e : TypeId} {z : Nat × Nat} (hb : w.heap[b]? = some (.cells vs.toArray e z)) : ∀ (k i : Nat) (us : List Value) (acc : Array Value), grab vs (off + i) k = some us →
    (loadCellsFrom ⟨b, off, none⟩ i k acc).run P w = .ok (acc ++ us.toArray) w
  | 0, i, us, acc, h => by
    simp only [grab, Option.some.injEq] at h
    subst h
    simp [loadCellsFrom]
  | k + 1, i, us, acc, h => by
    simp only [grab] at h
    split at h
    · cases h
    · rename_i v hv
      split at h
      · cases h
      · rename_i r hr
        simp only [Option.some.injEq] at h
        subst h
        have h1 := run_load (P := P) hb hv
        have h2 := run_loadCells hb k (i + 1) r (acc.push v) (by rw [← Nat.add_assoc]; exact hr)
        simp only [loadCellsFrom, addr_add, Sem.run_bind, h1, Result.andThen_ok, h2]
        simp

theorem run_loadVar1 {w : World} {b off : Nat} {vs : List Value} {e t : TypeId} {z : Nat × Nat} {v : Value} [ht : TyOne P t] (hb : w.heap[b]? = some (.cells vs.toArray e z)) (hv : nth vs off = some v) : (loadVar t ⟨b, off, none⟩).run P w = .ok v w := by
  simp only [loadVar, Sem.run_bind, ht.agg, Result.andThen_ok, Bool.false_eq_true, if_false]
  exact run_load hb hv
theorem run_loadVarA {w : World} {b off k : Nat} {vs us : List Value} {e t : TypeId} {z : Nat × Nat} [ht : TyAgg P t k] (hb : w.heap[b]? = some (.cells vs.toArray e z)) (hv : grab vs off k = some us) : (loadVar t ⟨b, off, none⟩).run P w = .ok (.agg us.toArray) w := by
  simp only [loadVar, Sem.run_bind, ht.agg, ht.size, Result.andThen_ok, if_true, loadCells]
  have := run_loadCells (P := P) (off := off) hb k 0 us #[] (by simpa using hv)
  rw [this]
  simp

theorem Ev.ld {t b off : Nat} {e : TypeId} {vs : List Value} {v : Value} {x : Operand} [ht : TyOne P t] (hx : ev l x = some (.pointer (some ⟨b, off, none⟩))) [hb : Has F hl b (cellsO vs e)] (hv : nth vs off = some v) : Ev P n F l hl ⟨d, .load t x, ty, pos, af, g⟩ v := fun a w hf hs => by
  have h1 := run_loadVar1 (P := P) (t := t) (hb.st hs) hv
  simp [execOp, hf.ev hx, Instr.loadAt, Instr.sureAddr, h1]
theorem Ev.ldA {t b off k : Nat} {e : TypeId} {vs us : List Value} {x : Operand} [ht : TyAgg P t k] (hx : ev l x = some (.pointer (some ⟨b, off, none⟩))) [hb : Has F hl b (cellsO vs e)] (hv : grab vs off k = some us) : Ev P n F l hl ⟨d, .load t x, ty, pos, af, g⟩ (.agg us.toArray) := fun a w hf hs => by
  have h1 := run_loadVarA (P := P) (t := t) (hb.st hs) hv
  simp [execOp, hf.ev hx, Instr.loadAt, Instr.sureAddr, h1]

theorem ResV.cell1 {t b off : Nat} {ty e : TypeId} {vs : List Value} {v : Value} [ht : TyOne P ty] (h : lk l t = some (.pointer (some ⟨b, off, none⟩))) [hb : Has F hl b (cellsO vs e)] (hv : nth vs off = some v) : ResV P F l hl (.cell t ty) v := .cell h fun w hs => run_loadVar1 (hb.st hs) hv
theorem ResV.cellA {t b off k : Nat} {ty e : TypeId} {vs us : List Value} [ht : TyAgg P ty k] (h : lk l t = some (.pointer (some ⟨b, off, none⟩))) [hb : Has F hl b (cellsO vs e)] (hv : grab vs off k = some us) : ResV P F l hl (.cell t ty) (.agg us.toArray) := .cell h fun w hs => run_loadVarA (hb.st hs) hv

theorem Ev.as {o : Oper} {v : Value} (v' : Value) (h : Ev P n F l hl o v) (e : v = v') : Ev P n F l hl o v' := e ▸ h
theorem Ev.asI {o : Oper} {k : IntKind} {z : Int} (j : Nat) (h : Ev P n F l hl o (.int k z)) (e : z = (j : Int)) : Ev P n F l hl o (.int k (j : Int)) := e ▸ h

/-! ### Rows: blocks that hold a list of things of one kind -/
structure Enc (α : Type) where
  k : Nat
  tid : TypeId
  cells : α → List Value
  val : α → Value
  pos : 0 < k
  len : ∀ x, (cells x).length = k
  one : ∀ x, ∀ v ∈ cells x, v.oneCell' = true
  vc : ∀ x, (val x).cells.toList = cells x
def flat {α : Type} (E : Enc α) (ys : List α) : List Value := ys.flatMap E.cells
/-- the things, and the spare cells behind them -/
def rowS {α : Type} (E : Enc α) (ys : List α) (sp : List Value) : Obj := .cells (flat E ys ++ sp).toArray E.tid (0, 0)

theorem flat_length {α : Type} (E : Enc α) : ∀ ys : List α, (flat E ys).length = ys.length * E.k
  | [] => by simp [flat]
  | y :: ys => by
    have := flat_length E ys
    simp only [flat, List.flatMap_cons, List.length_append, E.len, List.length_cons, Nat.add_mul, Nat.one_mul] at this ⊢
    omega
theorem flat_get {α : Type} (E : Enc α) : ∀ (ys : List α) (j i : Nat) (y : α), ys[j]? = some y → i < E.k → (flat E ys)[j * E.k + i]? = (E.cells y)[i]?
  | [], j, i, y, h, _ => by simp at h
  | x :: ys, 0, i, y, h, hi => by
    simp only [List.getElem?_cons_zero, Option.some.injEq] at h
    subst h
    simp only [flat, List.flatMap_cons, Nat.zero_mul, Nat.zero_add]
    rw [List.getElem?_append_left (by rw [E.len]; exact hi)]
  | x :: ys, j + 1, i, y, h, hi => by
    have := flat_get E ys j i y (by simpa using h) hi
    simp only [flat, List.flatMap_cons] at this ⊢
    rw [List.getElem?_append_right (by rw [E.len, Nat.add_mul]; omega), E.len, ← this]
    congr 1
    rw [Nat.add_mul]; omega

theorem grab_eq : ∀ (k : Nat) (vs : List Value) (off : Nat) (us : List Value), us.length = k → (∀ i, i < k → vs[off + i]? = us[i]?) → grab vs off k = some us
  | 0, vs, off, us, hl, h => by
    rw [List.eq_nil_of_length_eq_zero hl]; rfl
  | k + 1, vs, off, [], hl, h => by cases hl
  | k + 1, vs, off, u :: us, hl, h => by
    have h0 := h 0 (by omega)
    simp only [Nat.add_zero, List.getElem?_cons_zero] at h0
    simp only [grab]
    rw [nth_eq, h0]
    have := grab_eq k vs (off + 1) us (by simpa using hl) (fun i hi => by
      have := h (i + 1) (by omega)
      rw [show off + 1 + i = off + (i + 1) by omega]
      simpa using this)
    rw [this]

theorem flat_lt {α : Type} (E : Enc α) (ys : List α) {j i : Nat} (hj : j < ys.length) (hi : i < E.k) : j * E.k + i < (flat E ys).length := by
  have := Nat.mul_le_mul_right E.k (show j + 1 ≤ ys.length from hj)
  rw [flat_length]
  rw [Nat.add_mul] at this
  omega
theorem grab_row {α : Type} [Inhabited α] (E : Enc α) (ys : List α) (sp : List Value) (j : Nat) (hj : j < ys.length) : grab (flat E ys ++ sp) (j * E.k) E.k = some (E.cells ys[j]!) :=
  grab_eq _ _ _ _ (E.len _) fun i hi => by
    rw [List.getElem?_append_left (flat_lt E ys hj hi)]
    exact flat_get E ys j i _ (by rw [getElem!_pos ys j hj]; exact List.getElem?_eq_getElem hj) hi

theorem rowS_take {α : Type} (E : Enc α) (ys : List α) (sp : List Value) (n : Nat) : rowS E ys sp = rowS E (ys.take n) (flat E (ys.drop n) ++ sp) := by
  unfold rowS
  have : flat E ys = flat E (ys.take n) ++ flat E (ys.drop n) := by
    conv => lhs; rw [← List.take_append_drop n ys]
    simp only [flat, List.flatMap_append]
  rw [this, List.append_assoc]

/-- How a row's element is loaded: as an aggregate, or as the one cell that it is. -/
class RowTy (P : Program) {α : Type} (E : Enc α) (t : outParam TypeId) : Prop where
  size : ∀ w, (sizeOf t).run P w = .ok E.k w
  load : (∀ w, (isAgg t).run P w = .ok true w) ∧ (∀ x, E.val x = .agg (E.cells x).toArray) ∨ (∀ w, (isAgg t).run P w = .ok false w) ∧ E.k = 1 ∧ (∀ x, E.cells x = [E.val x])
theorem run_loadRow {α : Type} [Inhabited α] {E : Enc α} {t b j : Nat} {ys : List α} {sp : List Value} {w : World} (ht : RowTy P E t) (hb : w.heap[b]? = some (rowS E ys sp)) (hj : j < ys.length) : (loadVar t ⟨b, j * E.k, none⟩).run P w = .ok (E.val ys[j]!) w := by
  have hg := grab_row E ys sp j hj
  rcases ht.load with ⟨h1, h2⟩ | ⟨h1, hk, h2⟩
  · rw [h2]
    exact @run_loadVarA P w b _ _ _ _ _ t _ ⟨h1, ht.size⟩ hb hg
  · refine @run_loadVar1 P w b _ _ _ t _ _ ⟨h1, by rw [← hk]; exact ht.size⟩ hb ?_
    rw [hk, h2] at hg
    rw [hk]
    simp only [grab] at hg
    split at hg
    · cases hg
    · rename_i v hv
      simp only [Option.some.injEq, List.cons.injEq, and_true] at hg
      rw [hv, hg]
theorem Ev.ldR {α : Type} [Inhabited α] {E : Enc α} {t b off : Nat} {ys : List α} {sp : List Value} {x : Operand} (j : Nat) (hx : ev l x = some (.pointer (some ⟨b, off, none⟩))) [hb : Has F hl b (rowS E ys sp)] [ht : RowTy P E t] (ho : off = j * E.k) (hj : j < ys.length) :
    Ev P n F l hl ⟨d, .load t x, ty, pos, af, g⟩ (E.val ys[j]!) := fun a w hf hs => by
  subst ho
  have h1 := run_loadRow ht (hb.st hs) hj
  simp [execOp, hf.ev hx, Instr.loadAt, Instr.sureAddr, h1]

/-- '==' of two things of one kind (a struct of numbers and texts). -/
class TyEqE (P : Program) (t : TypeId) {α : Type} (E : Enc α) [DecidableEq α] : Prop where
  agg : ∀ x, ∃ c, E.val x = .agg c
  guard : P.eqGuardType P.depth t = false
  eq : ∀ x y w, (Op.equal t (E.val x) (E.val y)).run P w = .ok (decide (x = y)) w
theorem Pv.eqlE {α : Type} [DecidableEq α] (E : Enc α) {t t' : TypeId} {x y : Operand} (p q : α) [h : TyEqE P t E] (hx : ev l x = some (E.val p)) (hy : ev l y = some (E.val q)) : Pv P n l ⟨d, .binOp .eql t x y t', ty, pos, af, g⟩ (.bool (decide (p = q))) := fun a w hf => by
  obtain ⟨c, hc⟩ := h.agg p
  obtain ⟨e, he⟩ := h.agg q
  have := h.eq p q w
  rw [hc, he] at this
  simp [execOp, hf.ev hx, hf.ev hy, hc, he, eqGuard, h.guard, binOp, this]
theorem Pv.neqE {α : Type} [DecidableEq α] (E : Enc α) {t t' : TypeId} {x y : Operand} (p q : α) [h : TyEqE P t E] (hx : ev l x = some (E.val p)) (hy : ev l y = some (E.val q)) : Pv P n l ⟨d, .binOp .neq t x y t', ty, pos, af, g⟩ (.bool (!decide (p = q))) := fun a w hf => by
  obtain ⟨c, hc⟩ := h.agg p
  obtain ⟨e, he⟩ := h.agg q
  have := h.eq p q w
  rw [hc, he] at this
  simp [execOp, hf.ev hx, hf.ev hy, hc, he, eqGuard, h.guard, binOp, this]
/-- bools -/
theorem run_equal_bool {t : TypeId} {p q : Bool} {w : World} (h : P.underlying t = some .bool) : (Op.equal t (.bool p) (.bool q)).run P w = .ok (p == q) w := by
  have key : ∀ n, (Op.equalIn (n + 1) t (.bool p) (.bool q)).run P w = .ok (p == q) w := fun n => by
    simp only [Op.equalIn, Sem.run_bind, run_underlying h, Result.andThen_ok, Sem.run_pure]
  exact key 9999
theorem Pv.eqlB {t t' : TypeId} {x y : Operand} {p q : Bool} [h : TyUnder P t .bool] (hx : ev l x = some (.bool p)) (hy : ev l y = some (.bool q)) : Pv P n l ⟨d, .binOp .eql t x y t', ty, pos, af, g⟩ (.bool (p == q)) := fun a w hf => by
  have := run_equal_bool (P := P) (t := t) (p := p) (q := q) (w := w) h.under
  simp [execOp, hf.ev hx, hf.ev hy, eqGuard, binOp, this]
theorem Pv.neqB {t t' : TypeId} {x y : Operand} {p q : Bool} [h : TyUnder P t .bool] (hx : ev l x = some (.bool p)) (hy : ev l y = some (.bool q)) : Pv P n l ⟨d, .binOp .neq t x y t', ty, pos, af, g⟩ (.bool (!(p == q))) := fun a w hf => by
  have := run_equal_bool (P := P) (t := t) (p := p) (q := q) (w := w) h.under
  simp [execOp, hf.ev hx, hf.ev hy, eqGuard, binOp, this]
end
end Go.Proofs.Ytmocncadncgaaaa
