/- Parts of an own slice as a source; slices written out, as rows; exclusive or; the rest of naturals. -/
import Derived.Test.YtmocncadncgaaaaSlN
import Derived.Test.YtmocncadncgaaaaSlR
namespace Go.Proofs.Ytmocncadncgaaaa
set_option linter.unusedVariables false

theorem Arg.cap {α : Type} {E : Enc α} {F : Fm} {p : Option Addr} {m c : Nat} {ys : List α} (h : Arg E F (.slice p m c) ys) : m = ys.length ∧ ys.length ≤ c := by
  rcases h with ⟨⟨p', c', e⟩, rfl⟩ | ⟨b, off, c', e, hc, _⟩
  · cases e; exact ⟨rfl, Nat.zero_le _⟩
  · cases e; exact ⟨rfl, hc⟩

section
variable {P : Program} {n : Nf} {F : Fm} {l : Env} {hl : Hl} {d : Option Tmp} {ty : TypeId} {pos : String} {af : Array Edge} {g : Option (Nat × Bool)} {α : Type} {E : Enc α}
variable {Qf : Exit → Act → World → Prop} {ks : List KItem} {ops : List Oper} {clr : List Nat} {hs : Hl} {r : Sd} {i : Nat}

theorem cells_row {w : World} {b : Nat} {xs : List α} {sp : List Value} (h : w.heap[b]? = some (rowS E xs sp)) {j : Nat} {u : Value} (hu : (flat E xs)[j]? = some u) : w.cell? ⟨b, j, none⟩ = some u := by
  simp only [World.cell?, h, rowS, Option.isSome_none, Bool.false_eq_true, if_false, List.getElem?_toArray]
  rw [List.getElem?_append_left (List.getElem?_eq_some_iff.1 hu).1, hu]
theorem flat_parts (xs : List α) (k : Nat) : flat E xs = flat E (xs.take k) ++ flat E (xs.drop k) := by
  conv => lhs; rw [← List.take_append_drop k xs]
  simp only [flat, List.flatMap_append]
/-- The first k of an own slice. -/
theorem Src.upTo {b c k : Nat} {xs : List α} {sp : List Value} [h : Has F hl b (rowS E xs sp)] (hk : k ≤ xs.length) : Src E F hl (.slice (some ⟨b, 0, none⟩) k c) (xs.take k) :=
  .inr ⟨b, 0, c, by simp [Nat.min_eq_left hk], fun w hw j u hu => by
    rw [Nat.zero_add]
    refine cells_row (E := E) (xs := xs) (h.st hw) ?_
    rw [flat_parts xs k, List.getElem?_append_left (List.getElem?_eq_some_iff.1 hu).1, hu]⟩
/-- .. and the others. -/
theorem Src.behind {b c k : Nat} {xs : List α} {sp : List Value} [h : Has F hl b (rowS E xs sp)] (hk : k ≤ xs.length) (hc : xs.length ≤ c) : Src E F hl (.slice (some ⟨b, if c = k then 0 else 0 + k * E.k, none⟩) (xs.length - k) (c - k)) (xs.drop k) := by
  by_cases e : c = k
  · have : xs.drop k = [] := List.drop_eq_nil_of_le (by omega)
    rw [this, show xs.length - k = 0 by omega]
    exact Src.empty
  · rw [if_neg e]
    refine .inr ⟨b, 0 + k * E.k, c - k, by simp, fun w hw j u hu => ?_⟩
    refine cells_row (E := E) (xs := xs) (h.st hw) ?_
    have hl2 : (flat E (xs.take k)).length = k * E.k := by rw [flat_length]; congr 1; simp; omega
    rw [flat_parts xs k, List.getElem?_append_right (by omega), hl2, show 0 + k * E.k + j - k * E.k = j by omega, hu]

/-- []T{x}, as a row -/
theorem Rg.bslice1R {t st e k : Nat} {x : Operand} {v z : Value} {zs : List Value} (y : α) [hu : TyUnder P st (.slice e)] [hs0 : TySize P e k] [hz : TyZero P e z] (ho : nth ops i = some ⟨some t, .buildSlice st 1 #[(0, x)], ty, pos, af, g⟩) (hg : wantB ops l g = some true) (ht : Nat.blt t n.n = true)
    (hx : ev l x = some v) (hc : cl v = some (E.cells y)) (hcz : cl z = some zs) (hk : ((E.cells y).length == k && zs.length == k && Nat.blt 0 k && Nat.ble k 16777216) = true) (hr : cellsO (E.cells y) e = rowS E [y] [])
    (h : ∀ b, Own E (.slice (some ⟨b, 0, none⟩) 1 1) [y] [(b, rowS E [y] [])] → Rg P Qf n F ks ops clr ((b, rowS E [y] []) :: hl) r ((t, .slice (some ⟨b, 0, none⟩) 1 1) :: l) ((b, rowS E [y] []) :: hl)) : Rg P Qf n F ks ops clr hl (.st i .eff r) l hl :=
  Rg.bslice1 ho hg ht hx hc hcz hk fun b => by
    rw [hr]
    exact h b (Own.blk' b 1 1 [y] [] rfl (by simp) (by decide))
/-- []T{x, y, ..}, as a row -/
theorem Rg.bsliceR {t st e k m : Nat} {ps : List (Nat × Operand)} {vs : List (Nat × Value)} {z : Value} {zs cs : List Value} (ys : List α) [hu : TyUnder P st (.slice e)] [hs0 : TySize P e k] [hz : TyZero P e z] (ho : nth ops i = some ⟨some t, .buildSlice st m ps.toArray, ty, pos, af, g⟩) (hg : wantB ops l g = some true) (ht : Nat.blt t n.n = true)
    (hv : evp l ps = some vs) (hcz : cl z = some zs) (hk : (zs.length == k && Nat.blt 0 k && Nat.blt 0 m && Nat.ble (m * k) 16777216) = true) (hc : Instr.fill (fun i => some (i * k, k)) ((List.replicate m zs).flatten).toArray vs = some cs.toArray)
    (hr : cellsO cs e = rowS E ys []) (hm : m = ys.length) (hml : m ≤ maxLen)
    (h : ∀ b, Own E (.slice (some ⟨b, 0, none⟩) m m) ys [(b, rowS E ys [])] → Rg P Qf n F ks ops clr ((b, rowS E ys []) :: hl) r ((t, .slice (some ⟨b, 0, none⟩) m m) :: l) ((b, rowS E ys []) :: hl)) : Rg P Qf n F ks ops clr hl (.st i .eff r) l hl :=
  Rg.bsliceN ho hg ht hv hcz hk hc fun b => by
    rw [hr]
    exact h b (Own.blk' b m m ys [] hm (by simp) hml)

/-- A call that turns nothing and lays new blocks, over which nothing floats. -/
theorem Rg.callAC {t f : Nat} {o : Op} {args : Array Value} {post : Value → Hl → Prop} (ho : nth ops i = some ⟨some t, o, ty, pos, af, g⟩) (hg : wantB ops l g = some true) (ht : Nat.blt t n.n = true) (hc : Callz P n l ⟨some t, o, ty, pos, af, g⟩ f args)
    (hspec : Spec P f args (frz F hl) [] post) (hclr : clr.contains i = true) (h : ∀ v s, post v s → Rg P Qf n F ks ops clr (s ++ hl) r ((t, v) :: l) (s ++ hl)) : Rg P Qf n F ks ops clr hs (.st i .eff r) l hl :=
  Rg.calls [] hl ho hg (fun a w hf _ => hc a w hf) (List.Perm.refl _) hspec fun v hl' hpost => ⟨hl' ++ hl, fun _ hw => hw.st, .inl hclr, fun a hf => ⟨_, hf.put ht v, h v hl' hpost⟩⟩

theorem Arg.srcF {s : Hl} {v : Value} {ys : List α} (h : Arg E (frz F s) v ys) [hsb : Sb s hl] : Src E F hl v ys := by
  rcases h with h | ⟨b, off, c, e, _, h⟩
  · exact .inl h
  · exact .inr ⟨b, off, c, e, fun w ⟨hn, hw⟩ => h w fun b o hbo => hbo.elim (fun hm => hw.own b o (List.mem_append_right _ (hsb.sub _ hm))) (hw.frame b o)⟩
theorem flat_set1 [Inhabited α] {ys : List α} {j i : Nat} {z : α} {u : Value} (hj : j < ys.length) (hi : i < E.k) (hz : E.cells z = (E.cells ys[j]!).set i u) : flat E (ys.set j z) = (flat E ys).set (j * E.k + i) u := by
  have e : flat E ys = (flat E ys).take (j * E.k) ++ E.cells ys[j]! ++ (flat E ys).drop (j * E.k + E.k) := by
    have := flat_set (E := E) ys j ys[j]! hj
    rw [getElem!_pos ys j hj, List.set_getElem_self] at this
    rw [getElem!_pos ys j hj]
    exact this
  have hlen := flat_lt E ys (i := E.k - 1) hj (by have := E.pos; omega)
  have ht : ((flat E ys).take (j * E.k)).length = j * E.k := by simp; omega
  rw [flat_set ys j z hj, hz]
  conv => rhs; rw [e]
  rw [List.append_assoc, List.append_assoc, List.set_append_right _ _ (by omega), ht, show j * E.k + i - j * E.k = i by omega, List.set_append_left _ _ (by rw [E.len]; exact hi)]
/-- One cell of an element is stored. -/
theorem Rg.storeRf [Inhabited α] {t b off : Nat} {x y : Operand} {d : Option Tmp} {z : α} {v : Value} {ys : List α} {sp : List Value} {put : Obj → Hl} (j i0 : Nat) (ho : nth ops i = some ⟨d, .store t x y, ty, pos, af, g⟩) (hg : wantB ops l g = some true) (hd : d = none)
    (hx : ev l x = some (.pointer (some ⟨b, off, none⟩))) (hy : ev l y = some v) [hb : Lens hl b (rowS E ys sp) put] [ht : TyOne P t] (hc1 : v.oneCell' = true) (hz : E.cells z = (E.cells ys[j]!).set i0 v) (hi : i0 < E.k) (hoff : off = j * E.k + i0) (hj : j < ys.length) (hclr : clr.contains i = true)
    (h : Rg P Qf n F ks ops clr (put (rowS E (ys.set j z) sp)) r l (put (rowS E (ys.set j z) sp))) : Rg P Qf n F ks ops clr hs (.st i .eff r) l hl :=
  Rg.run ho hg fun a w hf hh => by
    subst hd; subst hoff
    have hlen := flat_lt E ys hj hi
    have hq : setsL (flat E ys ++ sp) (j * E.k + i0) [v] = some (flat E (ys.set j z) ++ sp) := by
      rw [setsL_mk _ _ _ (by simp; omega), flat_set1 hj hi hz, List.set_eq_take_append_cons_drop, if_pos hlen, List.take_append_of_le_length (by omega), List.drop_append_of_le_length (by simp; omega)]
      simp
    have hrun := run_storeAt (P := P) (t := t) (us := [v]) ht.size (cells_one hc1) rfl (by simpa using hc1) (hh.own b _ hb.mem) hq
    exact ⟨_, l, _, _, .inr ⟨by simp [execOp, hf.ev hx, hf.ev hy, hrun, rowS], hf⟩, hb.putB hh _, (hb.putB hh _).st, .inl hclr, h⟩

/-- A function that the model answers here and now. -/
theorem Rg.ext {t f : Nat} {xs : List Operand} {vs : List Value} {ats : Array TypeId} {v : Value} (ho : nth ops i = some ⟨some t, .call { callee := .value (.func f), args := xs.toArray, argTypes := ats }, ty, pos, af, g⟩) (hg : wantB ops l g = some true) (ht : Nat.blt t n.n = true)
    (hv : evs l xs = some vs) (hc : ∀ w, (callFunc f vs.toArray).run P w = .ok (.value v) w) (h : Rg P Qf n F ks ops clr hl r ((t, v) :: l) hl) : Rg P Qf n F ks ops clr hl (.st i .eff r) l hl :=
  Rg.run ho hg fun a w hf hh => ⟨w, (t, v) :: l, hl, hl, .inl ⟨v, by simp [execOp, resolve, Deferred.ofValue, Act.eval, invoke, hc, hf.evs hv], hf.put ht v⟩, hh, hh.st, .same, h⟩

/-- A call, where what floats reads other blocks alone. -/
theorem Rg.callHN {t f : Nat} {o : Op} {args : Array Value} {pre rest q : Hl} {post : Value → Hl → Prop} (ho : nth ops i = some ⟨some t, o, ty, pos, af, g⟩) (hg : wantB ops l g = some true) (ht : Nat.blt t n.n = true) (hc : Callz P n l ⟨some t, o, ty, pos, af, g⟩ f args)
    (hspec : ∀ F', (∀ b o, (b, o) ∈ rest ∨ F.at_ b o → F'.at_ b o) → Spec P f args F' pre post) [hp : PullL hl pre rest] [hq : PullL rest hs q] (h : ∀ v hl', post v hl' → Rg P Qf n F ks ops clr hs r ((t, v) :: l) (hl' ++ rest)) : Rg P Qf n F ks ops clr hs (.st i .eff r) l hl :=
  Rg.calls pre rest ho hg (fun a w hf _ => hc a w hf) hp.perm (hspec (frz F rest) fun _ _ h => h) fun v hl' hpost => ⟨hs, fun w hw => ⟨hl' ++ q, hw.perm (by rw [List.append_assoc]; exact (hq.perm.trans List.perm_append_comm).append_left hl')⟩, .same, fun a hf => ⟨_, hf.put ht v, h v hl' hpost⟩⟩

theorem Pv.xorI {t t' : TypeId} {x y : Operand} {k : IntKind} {p q : Int} (hx : ev l x = some (.int k p)) (hy : ev l y = some (.int k q)) : Pv P n l ⟨d, .binOp .xor t x y t', ty, pos, af, g⟩ (.int k (k.wrap ((BitVec.ofInt k.bits p ^^^ BitVec.ofInt k.bits q).toNat : Nat))) := Pv.ar hx hy fun w => by
  rw [show binOp .xor t (.int k p) (.int k q) = Op.intBits .xor k p q by simp [binOp]]
  rfl
/-- the sum of two naturals -/
theorem Pv.addN {t t' : TypeId} {x y : Operand} {k : IntKind} (p q : Nat) (hk : k.signed = false) (hx : ev l x = some (.int k (p : Int))) (hy : ev l y = some (.int k (q : Int))) (hq : p + q < 2 ^ k.bits) : Pv P n l ⟨d, .binOp .add t x y t', ty, pos, af, g⟩ (.int k ((p + q : Nat) : Int)) :=
  Pv.asI _ (Pv.addW hx hy) (by rw [← Int.natCast_add]; exact wrap_ult hk hq)
/-- the rest of two naturals -/
theorem Pv.remN {t t' : TypeId} {x y : Operand} {k : IntKind} (p q : Nat) (hx : ev l x = some (.int k (p : Int))) (hy : ev l y = some (.int k (q : Int))) (hq : 0 < q) : Pv P n l ⟨d, .binOp .rem t x y t', ty, pos, af, g⟩ (.int k ((p % q : Nat) : Int)) := Pv.ar hx hy fun w => by
  have h0 : (q : Int) ≠ 0 := by omega
  have hd : (p : Int).tmod (q : Int) = ((p % q : Nat) : Int) := by rw [Int.tmod_eq_emod_of_nonneg (by omega)]; rfl
  simp [binOp, Op.intDiv, h0, hd]
  intro hk
  omega
end
end Go.Proofs.Ytmocncadncgaaaa
