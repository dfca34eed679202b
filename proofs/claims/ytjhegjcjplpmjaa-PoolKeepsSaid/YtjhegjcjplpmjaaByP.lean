/- Numbers as bytes, the least first. -/
import Derived.Test.YtjhegjcjplpmjaaSlR
import Derived.Test.YtjhegjcjplpmjaaSlG
import Derived.Test.YtjhegjcjplpmjaaSlTy
import Derived.Test.YtjhegjcjplpmjaaSlM
import Derived.Test.YtjhegjcjplpmjaaSlN
namespace Go.Proofs.Ytjhegjcjplpmjaa
set_option linter.unusedVariables false

/-- so many bytes of a number -/
def leBytes : Nat → Nat → List UInt8
  | 0, _ => []
  | s + 1, n => UInt8.ofNat n :: leBytes s (n / 256)
/-- the number of bytes -/
def leNum : List UInt8 → Nat
  | [] => 0
  | b :: r => b.toNat + 256 * leNum r
@[simp] theorem leBytes_length : ∀ (s n : Nat), (leBytes s n).length = s
  | 0, _ => rfl
  | s + 1, n => by simp [leBytes, leBytes_length s]
theorem leBytes_snoc : ∀ (s n : Nat), leBytes (s + 1) n = leBytes s n ++ [UInt8.ofNat (n / 256 ^ s)]
  | 0, n => by simp [leBytes]
  | s + 1, n => by
    have h := leBytes_snoc s (n / 256)
    rw [leBytes, h, Nat.div_div_eq_div_mul, show 256 * 256 ^ s = 256 ^ (s + 1) by rw [Nat.pow_succ, Nat.mul_comm]]
    rfl
theorem leNum_lt : ∀ l : List UInt8, leNum l < 256 ^ l.length
  | [] => by simp [leNum]
  | b :: r => by
    have h := leNum_lt r
    have hb := b.toNat_lt
    simp only [leNum, List.length_cons, Nat.pow_succ]
    omega
theorem leNum_leBytes : ∀ (s n : Nat), leNum (leBytes s n) = n % 256 ^ s
  | 0, n => by simp [leBytes, leNum, Nat.mod_one]
  | s + 1, n => by
    rw [leBytes, leNum, leNum_leBytes s, Nat.pow_succ, Nat.mul_comm (256 ^ s) 256, Nat.mod_mul]
    simp
theorem leBytes_leNum : ∀ l : List UInt8, leBytes l.length (leNum l) = l
  | [] => rfl
  | b :: r => by
    have hb := b.toNat_lt
    rw [List.length_cons, leBytes, leNum, show (b.toNat + 256 * leNum r) / 256 = leNum r by omega, leBytes_leNum r]
    congr 1
    have : UInt8.ofNat (b.toNat + 256 * leNum r) = UInt8.ofNat b.toNat := by
      apply UInt8.toNat_inj.1
      simp
    rw [this, UInt8.ofNat_toNat]
/-- one step from behind: n<<8 | c -/
theorem leNum_step {n b : Nat} (hn : n < 2 ^ 56) (hb : b < 256) : (n * 2 ^ 8 % 2 ^ 64) ||| b = b + 256 * n := by
  rw [Nat.mod_eq_of_lt (by omega), Nat.mul_comm n, ← Nat.two_pow_add_eq_or_of_lt (by omega)]
  omega
/-- one step from ahead: n + c<<8i -/
theorem leNum_snoc : ∀ (l : List UInt8) (b : UInt8), leNum (l ++ [b]) = leNum l + b.toNat * 256 ^ l.length
  | [], b => by simp [leNum]
  | x :: l, b => by
    have h := leNum_snoc l b
    simp only [List.cons_append, leNum, h, List.length_cons, Nat.pow_succ]
    rw [Nat.mul_add, Nat.add_assoc]
    congr 2
    rw [Nat.mul_comm (256 ^ l.length) 256, Nat.mul_left_comm]

/-! ### What goes from the last to the first, with places -/
def bwd (xs : List UInt8) : List (Nat × UInt8) := (xs.zipIdx.map fun p => (p.2, p.1)).reverse
theorem bwd_length (xs : List UInt8) : (bwd xs).length = xs.length := by simp [bwd]
theorem bwd_get (xs : List UInt8) {k : Nat} (hk : k < xs.length) : (bwd xs)[k]? = some (xs.length - 1 - k, xs[xs.length - 1 - k]!) := by
  unfold bwd
  rw [List.getElem?_reverse (by simpa using hk)]
  simp only [List.length_map, List.length_zipIdx, List.getElem?_map, List.getElem?_zipIdx, Nat.zero_add]
  rw [List.getElem?_eq_getElem (by omega), getElem!_pos xs _ (by omega)]
  rfl
theorem take_snoc {α : Type} {ys : List α} {k : Nat} {x : α} (h : ys[k]? = some x) : ys.take k ++ [x] = ys.take (k + 1) := by
  rw [List.take_add_one, h]; rfl
theorem prefix_get {α : Type} {pre ys : List α} {x : α} (h : pre ++ [x] <+: ys) : ys[pre.length]? = some x := by
  obtain ⟨t, rfl⟩ := h
  simp
theorem prefix_take {α : Type} {pre ys : List α} {x : α} (h : pre ++ [x] <+: ys) : pre.length < ys.length ∧ pre = ys.take pre.length := by
  obtain ⟨t, rfl⟩ := h
  simp
end Go.Proofs.Ytjhegjcjplpmjaa
