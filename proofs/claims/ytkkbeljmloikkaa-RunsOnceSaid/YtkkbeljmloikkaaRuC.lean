/- Runs: rows of rows; Chunk, Cut; the document's Cut and Merge. -/
import Derived.Test.YtkkbeljmloikkaaRuT
namespace Go.Proofs.Ytkkbeljmloikkaa
set_option linter.unusedVariables false

/-! ### A slice as a thing -/
structure Sv where
  p : Option Addr
  m : Nat
  c : Nat
  deriving Inhabited
abbrev Sv.v (s : Sv) : Value := .slice s.p s.m s.c
def slE : Enc Sv where
  k := 1
  tid := 22
  cells := fun s => [s.v]
  val := fun s => s.v
  pos := by decide
  len := fun _ => rfl
  one := fun x v hv => by simp at hv; subst hv; rfl
  vc := fun _ => rfl
instance : RowTy Try.prog slE 22 := ⟨Try.sizeOf22, .inr ⟨Try.isAgg22, rfl, fun _ => rfl⟩⟩
instance : TySl Try.prog 28 slE 24 := ⟨Try.underlying28, Try.t22, .slice none 0 0, by kernel_rfl, by kernel_rfl, rfl, rfl, rfl⟩
instance : TyZero Try.prog slE.tid (slE.val ⟨none, 0, 0⟩) := inferInstanceAs (TyZero Try.prog 22 (.slice none 0 0))

/-- Rows of their own. -/
inductive OwnsR : List Sv → List (List Rc) → Hl → Prop
  | nil : OwnsR [] [] []
  | snoc {vs : List Sv} {xss : List (List Rc)} {hl seg : Hl} {s : Sv} {xs : List Rc} (h : OwnsR vs xss hl) (own : Own recE s.v xs seg) : OwnsR (vs ++ [s]) (xss ++ [xs]) (seg ++ hl)
theorem OwnsR.len {vs : List Sv} {xss : List (List Rc)} {hl : Hl} (h : OwnsR vs xss hl) : vs.length = xss.length := by
  induction h with
  | nil => rfl
  | snoc h own ih => simp [ih]
theorem OwnsR.arg {vs : List Sv} {xss : List (List Rc)} {hl : Hl} (h : OwnsR vs xss hl) {F : Fm} (hF : ∀ b o, (b, o) ∈ hl → F.at_ b o) : ∀ i, i < xss.length → Arg recE F vs[i]!.v xss[i]! := by
  induction h with
  | nil => intro i hi; simp at hi
  | @snoc vs xss hl seg s xs h own ih =>
    intro i hi
    have hlen := h.len
    simp at hi
    by_cases e : i < xss.length
    · rw [getElem!_pos (vs ++ [s]) i (by simp; omega), getElem!_pos (xss ++ [xs]) i (by simp; omega), List.getElem_append_left (by omega), List.getElem_append_left e, ← getElem!_pos vs i (by omega), ← getElem!_pos xss i e]
      exact ih (fun b o hb => hF b o (List.mem_append_right _ hb)) i e
    · have e1 : i = xss.length := by omega
      rw [getElem!_pos (vs ++ [s]) i (by simp; omega), getElem!_pos (xss ++ [xs]) i (by simp; omega), List.getElem_append_right (by omega), List.getElem_append_right (by omega)]
      simp [e1, hlen]
      exact Arg.own own fun b o hb => hF b o (List.mem_append_left _ hb)
/-- A row of rows that may be read. -/
structure ArgRR (F : Fm) (v : Value) (vs : List Sv) (xss : List (List Rc)) : Prop where
  top : Arg slE F v vs
  len : vs.length = xss.length
  rows : ∀ i, i < xss.length → Arg recE F vs[i]!.v xss[i]!
theorem ArgRR.mono {F F' : Fm} {v : Value} {vs : List Sv} {xss : List (List Rc)} (h : ArgRR F v vs xss) (hF : ∀ b o, F.at_ b o → F'.at_ b o) : ArgRR F' v vs xss :=
  ⟨h.top.mono hF, h.len, fun i hi => (h.rows i hi).mono hF⟩
/-- .. of its own -/
def OwnRR (v : Value) (xss : List (List Rc)) (hl : Hl) : Prop := ∃ vs s0 s1, Own slE v vs s0 ∧ OwnsR vs xss s1 ∧ hl = s0 ++ s1
theorem OwnRR.arg {v : Value} {xss : List (List Rc)} {hl : Hl} (h : OwnRR v xss hl) {F : Fm} (hF : ∀ b o, (b, o) ∈ hl → F.at_ b o) : ∃ vs, ArgRR F v vs xss := by
  obtain ⟨vs, s0, s1, own, owns, rfl⟩ := h
  exact ⟨vs, Arg.own own fun b o hb => hF b o (List.mem_append_left _ hb), owns.len, owns.arg fun b o hb => hF b o (List.mem_append_right _ hb)⟩

/-! ### Chunk -/
def chunkP (p : Option Addr) (o : Nat) : Option Addr := p.map fun a => ⟨a.block, a.off + o, none⟩
abbrev chunkV (p : Option Addr) (n len i : Nat) : Value := .slice (chunkP p (i * n * 2)) (min n (len - i * n)) (min n (len - i * n))
def chunkL (n : Nat) (xs : List Rc) (i : Nat) : List Rc := (xs.drop (i * n)).take (min n (xs.length - i * n))
/-- how many there are -/
def nc (n len : Nat) : Nat := (len + n - 1) / n
theorem nc_lt {n len k : Nat} (hn : 1 ≤ n) : k < nc n len ↔ k * n < len := by
  unfold nc
  rw [Nat.lt_iff_add_one_le, Nat.le_div_iff_mul_le (by omega), Nat.add_mul, Nat.one_mul]
  omega
theorem chunk_arg {F : Fm} {p : Option Addr} {n c i : Nat} {xs : List Rc} (ha : Arg recE F (.slice p xs.length c) xs) (hi : i * n < xs.length) : Arg recE F (chunkV p n xs.length i) (chunkL n xs i) := by
  rcases ha with ⟨e, h⟩ | ⟨b, off, c', e, hc, hcell⟩
  · subst h; simp at hi
  · cases e
    have hlen : (chunkL n xs i).length = min n (xs.length - i * n) := by simp [chunkL]
    refine .inr ⟨b, off + i * n * 2, min n (xs.length - i * n), by rw [hlen]; rfl, by rw [hlen]; exact Nat.le_refl _, fun w hw q u hu => ?_⟩
    have e1 : flat recE xs = flat recE (xs.take (i * n)) ++ (flat recE (chunkL n xs i) ++ flat recE ((xs.drop (i * n)).drop (min n (xs.length - i * n)))) := by
      rw [chunkL, ← flat_append, List.take_append_drop, ← flat_append, List.take_append_drop]
    have hl2 : (flat recE (xs.take (i * n))).length = i * n * 2 := by rw [flat_length, List.length_take, Nat.min_eq_left (by omega)]; rfl
    have := hcell w hw (i * n * 2 + q) u (by
      rw [e1, List.getElem?_append_right (by omega), hl2, show i * n * 2 + q - i * n * 2 = q by omega, List.getElem?_append_left (List.getElem?_eq_some_iff.1 hu).1, hu])
    rwa [← Nat.add_assoc] at this
theorem range_split {pre : List Nat} {x m : Nat} (h : pre ++ [x] = List.range m) : x + 1 ≤ m ∧ pre = List.range x := by
  cases m with
  | zero => simp at h
  | succ m =>
    rw [List.range_succ] at h
    obtain ⟨h1, h2⟩ := List.append_inj' h rfl
    cases h2
    exact ⟨Nat.le_refl _, h1⟩

theorem chunk_spec {F : Fm} {p : Option Addr} {m c : Nat} (n : Nat) (hn : 1 ≤ n) :
    Spec Try.prog 29 #[.slice p m c, .int .i64 (n : Int)] F [] fun v s => ∃ b1 b2, v = .func (.func 39) #[] #[.pointer (some ⟨b1, 0, none⟩), .pointer (some ⟨b2, 0, none⟩)] ∧ s = [(b2, cellsO [.int .i64 (n : Int)] 3), (b1, cellsO [.slice p m c] 22)] := by
  refine Spec.of (n := 9) (vs := [.slice p m c, .int .i64 (n : Int)]) Try.func29 rfl Try.ntmps29 rfl ?_
  refine Vc.seq ?_
  refine Vc.text (List.range 3) (sd [(0, .eff), (1, .eff), (2, .pure)]) rfl ?_
  refine Rg.box rfl rfl rfl rfl rfl (fun b2 => ?_)
  refine Rg.box rfl rfl rfl rfl rfl (fun b3 => ?_)
  refine Rg.pure rfl rfl rfl (Pv.assign rfl) ?_
  refine Rg.nil ?_
  refine Vc.seq ?_
  refine Vc.seq ?_
  refine Vc.text (List.range 2) (sd [(0, .read), (1, .pure)]) rfl ?_
  refine Rg.read rfl rfl rfl (Ev.ld rfl rfl) ?_
  refine Rg.pure rfl rfl rfl (Pv.lss rfl rfl) ?_
  refine Rg.nil ?_
  refine Vc.cond rfl (fun h6 => absurd h6 (by simp only [decide_eq_true_eq]; omega)) (fun h6 => ?_)
  refine Vc.skip ?_
  refine Vc.seq ?_
  refine Vc.text (List.range 2) (sd [(0, .pure), (1, .pure)]) rfl ?_
  refine Rg.pure rfl rfl rfl (Pv.mkF rfl rfl) ?_
  refine Rg.pure rfl rfl rfl (Pv.assign rfl) ?_
  refine Rg.nil ?_
  exact Vc.ret (Vc.retsH rfl (.cons (.tmp rfl) (.nil)) (⟨b2, b3, rfl, rfl⟩) pulled)

theorem chunk_iter {F : Fm} {p : Option Addr} {c : Nat} {xs : List Rc} (ha : Arg recE F (.slice p xs.length c) xs) (hN : xs.length < 1073741824) (n : Nat) (hn : 1 ≤ n) (hn2 : n ≤ 1000) (b1 b2 : Nat) :
    Iter Try.prog 39 [.pointer (some ⟨b1, 0, none⟩), .pointer (some ⟨b2, 0, none⟩)] F (fun i => [chunkV p n xs.length i]) (fun pre => ∃ m, m ≤ nc n xs.length ∧ pre = List.range m) (fun ys => ys = List.range (nc n xs.length)) [(b2, cellsO [.int .i64 (n : Int)] 3), (b1, cellsO [.slice p xs.length c] 22)] := by
  intro lr J F1 hF1 hY hc0 hJ0
  have ha1 := ha.mono hF1
  have hcap := ha1.cap.2
  refine Spec.of (n := 31) (vs := [.func (.yield lr) #[] #[], .pointer (some ⟨b1, 0, none⟩), .pointer (some ⟨b2, 0, none⟩)]) Try.func39 rfl Try.ntmps39 rfl ?_
  refine Vc.seq ?_
  refine Vc.text (List.range 1) (sd [(0, .pure)]) rfl ?_
  refine Rg.pure rfl rfl rfl (Pv.assign rfl) ?_
  refine Rg.nil ?_
  refine Vc.block ?_
  refine Vc.loop3 (fun (k i : Nat) (hc : Hl) => i = k * n ∧ k ≤ nc n xs.length ∧ i ≤ xs.length + n ∧ J (List.range k) hc) (fun k i hc => [(0, .func (.yield lr) #[] #[]), (1, .pointer (some ⟨b1, 0, none⟩)), (2, .pointer (some ⟨b2, 0, none⟩)), (4, .int .i64 (i : Int))]) (fun k i hc => (b2, cellsO [.int .i64 (n : Int)] 3) :: (b1, cellsO [.slice p xs.length c] 22) :: hc) (fun k i hc => xs.length + n - i) 0 0 hc0 ⟨by omega, Nat.zero_le _, Nat.zero_le _, hJ0⟩ (.cons rfl (.cons rfl (.cons rfl (.cons rfl .nil)))) pulled ?_
  rintro k i hc ⟨hik, hk, hib, hJ⟩
  refine Vc.seq ?_
  refine Vc.seq ?_
  refine Vc.text (List.range 4) (sd [(0, .pure), (1, .read), (2, .pure), (3, .pure)]) rfl ?_
  refine Rg.pure rfl rfl rfl (Pv.move rfl) ?_
  refine Rg.read rfl rfl rfl (Ev.ld rfl rfl) ?_
  refine Rg.pure rfl rfl rfl (Pv.lenS rfl) ?_
  refine Rg.pure rfl rfl rfl (Pv.lss rfl rfl) ?_
  refine Rg.nil ?_
  refine Vc.cond rfl (fun h9 => ?_) (fun h9 => ?_)
  ·
    simp only [decide_eq_true_eq] at h9
    obtain ⟨b, off, c', e, _⟩ := ha1.block (by omega)
    cases e
    have hi1 : i < xs.length := by omega
    have hk1 : k < nc n xs.length := (nc_lt hn).2 (by omega)
    have hks : (k + 1) * n = k * n + n := by rw [Nat.add_mul, Nat.one_mul]
    have hY1 := hY (List.range k) k ⟨k + 1, hk1, List.range_succ.symm⟩ hc hJ
    simp only [chunkV, ← hik] at hY1
    refine Vc.skip ?_
    refine Vc.seq ?_
    refine Vc.block ?_
    refine Vc.seq ?_
    refine Vc.draw [] (sd [(0, .read), (1, .read), (2, .pure), (3, .pure), (4, .pure), (5, .pure), (6, .pure)]) mixed (by kernel_rfl) ?_
    refine Rg.read rfl rfl rfl (Ev.ld rfl rfl) ?_
    refine Rg.read rfl rfl rfl (Ev.ld rfl rfl) ?_
    refine Rg.pure rfl rfl rfl (Pv.move rfl) ?_
    refine Rg.pure rfl rfl rfl (Pv.slFrom (i) rfl rfl (by omega) (by omega)) ?_
    refine Rg.pure rfl rfl rfl (Pv.lenS rfl) ?_
    refine Rg.pure rfl rfl rfl (Pv.asI (min n (xs.length - i)) (Pv.min rfl rfl) (by omega)) ?_
    refine Rg.pure rfl rfl rfl (Pv.assign rfl) ?_
    refine Rg.nil ?_
    refine Vc.seq ?_
    refine Vc.text (List.range 12) (sd [(0, .pure), (1, .read), (2, .pure), (3, .pure), (4, .pure), (5, .pure), (6, .pure), (7, .pure), (8, .pure), (9, .pure), (10, .eff), (11, .pure)]) rfl ?_
    refine Rg.pure rfl rfl rfl (Pv.move rfl) ?_
    refine Rg.read rfl rfl rfl (Ev.ld rfl rfl) ?_
    refine Rg.pure rfl rfl rfl (Pv.move rfl) ?_
    refine Rg.pure rfl rfl rfl (Pv.move rfl) ?_
    refine Rg.pure rfl rfl rfl (Pv.move rfl) ?_
    refine Rg.pure rfl rfl rfl (Pv.asI (i + min n (xs.length - i)) (Pv.add rfl rfl (by omega)) (by omega)) ?_
    refine Rg.pure rfl rfl rfl (Pv.move rfl) ?_
    refine Rg.pure rfl rfl rfl (Pv.move rfl) ?_
    refine Rg.pure rfl rfl rfl (Pv.asI (i + min n (xs.length - i)) (Pv.add rfl rfl (by omega)) (by omega)) ?_
    refine Rg.pure rfl rfl rfl (Pv.as (.slice (chunkP (some ⟨b, off, none⟩) (i * 2)) (min n (xs.length - i)) (min n (xs.length - i))) (Pv.sl3 i (i + min n (xs.length - i)) (i + min n (xs.length - i)) rfl rfl rfl rfl (by omega) (by omega) (by omega)) (by rw [if_neg (by omega), show i + min n (xs.length - i) - i = min n (xs.length - i) by omega]; rfl)) ?_
    refine Rg.yieldH rfl rfl rfl rfl rfl (fun F' hF' => hY1 F' (fun b o h => hF' b o (.inr h))) rfl ?_
    rintro _ hc' ⟨rfl, hJ'⟩
    rw [← List.range_succ] at hJ'
    refine Rg.pure rfl rfl rfl (Pv.not rfl) ?_
    refine Rg.nil ?_
    refine Vc.cond rfl (fun h30 => absurd h30 (by simp)) (fun h30 => ?_)
    refine Vc.skip ?_
    refine Vc.blk ?_
    refine Vc.text (List.range 4) (sd [(0, .pure), (1, .read), (2, .pure), (3, .pure)]) rfl ?_
    refine Rg.pure rfl rfl rfl (Pv.move rfl) ?_
    refine Rg.read rfl rfl rfl (Ev.ld rfl rfl) ?_
    refine Rg.pure rfl rfl rfl (Pv.asI (i + n) (Pv.add rfl rfl (by omega)) (by omega)) ?_
    refine Rg.pure rfl rfl rfl (Pv.assign rfl) ?_
    refine Rg.nil ?_
    exact Vc.inv3 (k + 1) (i + n) hc' ⟨⟨by omega, hk1, by omega, hJ'⟩, by omega⟩ (.cons rfl (.cons rfl (.cons rfl (.cons rfl .nil)))) pulled
  ·
    simp only [decide_eq_false_iff_not] at h9
    have hkn : k = nc n xs.length := by
      have := mt (nc_lt (k := k) (len := xs.length) hn).1 (by omega)
      omega
    refine Vc.exit rfl ?_
    exact Vc.fin (Vc.retsH rfl .nil (⟨List.range (nc n xs.length), rfl, hkn ▸ hJ⟩) pulled)

def cutG (n : Nat) (how : Int) (xs : List Rc) : List (List Rc) := (List.range (nc n xs.length)).map fun i => sortedG how (chunkL n xs i)
theorem chunkL_nr {n i : Nat} {xs : List Rc} (h : NR xs) : NR (chunkL n xs i) := fun r hr => h r (List.mem_of_mem_drop (List.mem_of_mem_take hr))
theorem chunkL_length (n i : Nat) (xs : List Rc) : (chunkL n xs i).length = min n (xs.length - i * n) := by simp [chunkL]
theorem nc_le {n len : Nat} (hn : 1 ≤ n) : nc n len ≤ len := by
  unfold nc
  rw [Nat.div_le_iff_le_mul_add_pred (by omega)]
  have := Nat.mul_le_mul_right len hn
  omega

theorem cut_spec {F : Fm} {va : Value} {xs : List Rc} (ha : Arg recE F va xs) (hN : xs.length < 1000000) (hR : NR xs) (z how : Int) (hz : z ≤ 1000) :
    Spec Try.prog 14 #[va, .int .i64 z, .int .i64 how] F [] fun v s => ∃ u er, v = .tuple #[u, .int .i64 er] ∧ ((1 ≤ z ∧ okHow how = true ∧ er = 0 ∧ OwnRR u (cutG z.toNat how xs) s) ∨ ((z < 1 ∨ okHow how = false) ∧ er = 1 ∧ u = .slice none 0 0)) := by
  obtain ⟨p, c, rfl⟩ := ha.shape
  refine Spec.of (n := 36) (vs := [.slice p xs.length c, .int .i64 z, .int .i64 how]) Try.func14 rfl Try.ntmps14 rfl ?_
  refine Vc.seq ?_
  refine Vc.text (List.range 3) (sd [(0, .eff), (1, .eff), (2, .eff)]) rfl ?_
  refine Rg.box rfl rfl rfl rfl rfl (fun b5 => ?_)
  refine Rg.alloc rfl rfl rfl rfl (fun b6 => ?_)
  refine Rg.alloc rfl rfl rfl rfl (fun b7 => ?_)
  refine Rg.nil ?_
  refine Vc.seq ?_
  refine Vc.seq ?_
  refine Vc.text (List.range 7) (sd [(0, .pure), (1, .pure), (2, .pure), (3, .read), (4, .eff), (5, .pure), (6, .pure)]) rfl ?_
  refine Rg.pure rfl rfl rfl (Pv.move rfl) ?_
  refine Rg.pure rfl rfl rfl (Pv.lss rfl rfl) ?_
  refine Rg.pure rfl rfl rfl (Pv.move rfl) ?_
  refine Rg.split (t := 13) rfl (fun h13 => ?_) (fun h13 => ?_)
  ·
    simp only [decide_eq_true_eq] at h13
    iterate 3 (first | refine Rg.skipP rfl rfl rfl ?_ | refine Rg.skipR rfl rfl rfl ?_ | refine Rg.skipE rfl rfl rfl ?_)
    refine Rg.pure rfl rfl rfl (Pv.pickT rfl rfl) ?_
    refine Rg.nil ?_
    refine Vc.condT rfl ?_
    refine Vc.seq ?_
    refine Vc.text (List.range 2) (sd [(0, .eff), (1, .eff)]) rfl ?_
    refine Rg.store rfl rfl rfl rfl rfl rfl rfl rfl ?_
    refine Rg.store rfl rfl rfl rfl rfl rfl rfl rfl ?_
    refine Rg.nil ?_
    exact Vc.ret (Vc.retsH (hl' := []) rfl (.cons (.cell1 rfl rfl) (.cons (.cell1 rfl rfl) .nil)) ⟨_, _, rfl, .inr ⟨.inl h13, rfl, rfl⟩⟩ pulled)
  ·
    simp only [decide_eq_false_iff_not] at h13
    refine Rg.read rfl rfl rfl (Ev.ld rfl rfl) ?_
    refine Rg.callP rfl rfl rfl (run_callF rfl) (right_spec _ _) ?_
    rintro _ rfl
    refine Rg.pure rfl rfl rfl (Pv.not rfl) ?_
    refine Rg.pure rfl rfl rfl (Pv.pickF rfl rfl) ?_
    refine Rg.nil ?_
    refine Vc.cond rfl (fun h17 => ?_) (fun h17 => ?_)
    ·
      have hno : okHow how = false := by simpa only [okHow, Bool.not_eq_true'] using h17
      refine Vc.seq ?_
      refine Vc.text (List.range 2) (sd [(0, .eff), (1, .eff)]) rfl ?_
      refine Rg.store rfl rfl rfl rfl rfl rfl rfl rfl ?_
      refine Rg.store rfl rfl rfl rfl rfl rfl rfl rfl ?_
      refine Rg.nil ?_
      exact Vc.ret (Vc.retsH (hl' := []) rfl (.cons (.cell1 rfl rfl) (.cons (.cell1 rfl rfl) .nil)) ⟨_, _, rfl, .inr ⟨.inr hno, rfl, rfl⟩⟩ pulled)
    ·
      have hok : okHow how = true := by simpa [okHow] using h17
      obtain ⟨n, rfl⟩ : ∃ n : Nat, z = n := ⟨z.toNat, by omega⟩
      refine Vc.skip ?_
      refine Vc.seq ?_
      refine Vc.seq ?_
      refine Vc.text (List.range 3) (sd [(0, .pure), (1, .pure), (2, .eff)]) rfl ?_
      refine Rg.pure rfl rfl rfl (Pv.move rfl) ?_
      refine Rg.pure rfl rfl rfl (Pv.move rfl) ?_
      refine Rg.callA rfl rfl rfl (run_callF rfl) (chunk_spec n (by omega)) ?_
      rintro _ _ ⟨c1, c2, rfl, rfl⟩
      refine Rg.nil ?_
      refine Vc.block ?_
      refine Vc.rangeFunc (enc := fun i => [chunkV p n xs.length i]) (Sp := fun pre => ∃ m, m ≤ nc n xs.length ∧ pre = List.range m) (S := fun ys => ys = List.range (nc n xs.length)) (hi := [(c2, cellsO [.int .i64 (n : Int)] 3), (c1, cellsO [.slice p xs.length c] 22)]) (rest := []) (fun pre hc => ∃ v vs s0 s1, Own slE v vs s0 ∧ OwnsR vs (pre.map fun i => sortedG how (chunkL n xs i)) s1 ∧ hc = (b5, cellsO [.int .i64 how] 3) :: (b6, cellsO [v] 28) :: (b7, cellsO [.int .i64 0] 25) :: (s0 ++ s1)) [(b5, cellsO [.int .i64 how] 3), (b6, cellsO [.slice none 0 0] 28), (b7, cellsO [.int .i64 0] 25)] rfl rfl (fun _ => rfl) rfl pulled (fun F1 hF1 => chunk_iter (ha.mono fun b o h => hF1 b o (.inr h)) (by omega) n (by omega) (by omega) c1 c2) ⟨_, [], [], [], Own.nil, OwnsR.nil, rfl⟩ ?_ ?_
      ·
        rintro lr rc pre x hc F1 hF1 ⟨m, hm, hpre⟩ ⟨v, vs, s0, s1, own, owns, rfl⟩
        obtain ⟨hx1, hpr⟩ := range_split hpre
        have hxn : x < nc n xs.length := by omega
        have hnl : nc n xs.length ≤ xs.length := nc_le (by omega)
        have hac := chunk_arg (n := n) (ha.mono fun b o h => hF1 b o (.inr h)) ((nc_lt (by omega)).1 hxn)
        have hvl : vs.length < 1000000 := by rw [owns.len, hpr]; simp; omega
        refine Vc.text (List.range 1) (sd [(0, .pure)]) rfl ?_
        refine Rg.pure rfl rfl rfl (Pv.assign rfl) ?_
        refine Rg.nil ?_
        refine Vc.begin ?_
        refine Vc.block ?_
        refine Vc.seq ?_
        refine Vc.text (List.range 8) (sd [(0, .pure), (1, .read), (2, .eff), (3, .pure), (4, .pure), (5, .pure), (6, .pure), (7, .pure)]) rfl ?_
        refine Rg.pure rfl rfl rfl (Pv.move rfl) ?_
        refine Rg.read rfl rfl rfl (Ev.ld rfl rfl) ?_
        refine Rg.callA rfl rfl rfl (run_callF rfl) (sorted_spec (hac.mono fun b o h => Or.inr h) (by rw [chunkL_length]; omega) (chunkL_nr hR) how) ?_
        rintro _ s25 ⟨u25, er, rfl, h25⟩
        obtain ⟨_, rfl, own25⟩ := h25.resolve_right (fun h => by rw [hok] at h; cases h.1)
        obtain ⟨q25, c25, rfl⟩ := own25.shape
        refine Rg.pure rfl rfl rfl (Pv.move rfl) ?_
        refine Rg.pure rfl rfl rfl (Pv.extract rfl rfl) ?_
        refine Rg.pure rfl rfl rfl (Pv.extract rfl rfl) ?_
        refine Rg.pure rfl rfl rfl (Pv.assign rfl) ?_
        refine Rg.pure rfl rfl rfl (Pv.assign rfl) ?_
        refine Rg.nil ?_
        refine Vc.seq ?_
        refine Vc.seq ?_
        refine Vc.text (List.range 2) (sd [(0, .pure), (1, .pure)]) rfl ?_
        refine Rg.pure rfl rfl rfl (Pv.move rfl) ?_
        refine Rg.pure rfl rfl rfl (Pv.neq rfl rfl) ?_
        refine Rg.nil ?_
        refine Vc.cond rfl (fun h29 => absurd h29 (by simp)) (fun h29 => ?_)
        refine Vc.skip ?_
        refine Vc.text (List.range 5) (sd [(0, .read), (1, .pure), (2, .eff), (3, .eff), (4, .eff)]) rfl ?_
        refine Rg.read rfl rfl rfl (Ev.ld rfl rfl) ?_
        refine Rg.pure rfl rfl rfl (Pv.move rfl) ?_
        refine Rg.bslice1 rfl rfl rfl rfl rfl rfl rfl (fun b33 => ?_)
        refine Rg.append rfl rfl rfl rfl rfl own (Src.one (y := (⟨q25, (sortedG how (chunkL n xs x)).length, c25⟩ : Sv)) rfl) (by simp <;> omega) (by simp [maxLen] <;> omega) rfl (fun v34 s34 own34 => ?_)
        refine Rg.store rfl rfl rfl rfl rfl own34.one rfl rfl ?_
        refine Rg.nil ?_
        refine Vc.blk ?_
        exact Vc.finR ((b5, cellsO [.int .i64 how] 3) :: (b6, cellsO [v34] 28) :: (b7, cellsO [.int .i64 0] 25) :: (s34 ++ (s25 ++ s1))) ⟨v34, _, s34, s25 ++ s1, own34, by rw [List.map_append]; exact owns.snoc (s := ⟨q25, _, c25⟩) own25, rfl⟩ pulled
      ·
        rintro D ys hc hD rfl ⟨v, vs, s0, s1, own, owns, rfl⟩
        refine Vc.blk ?_
        refine Vc.seq ?_
        refine Vc.text (List.range 3) (sd [(0, .read), (1, .eff), (2, .eff)]) rfl ?_
        refine Rg.read rfl rfl rfl (Ev.ld rfl rfl) ?_
        refine Rg.store rfl rfl rfl rfl rfl own.one rfl rfl ?_
        refine Rg.store rfl rfl rfl rfl rfl rfl rfl rfl ?_
        refine Rg.nil ?_
        exact Vc.ret (Vc.retsM (hl' := s0 ++ s1) (Mk.one hD) rfl (.cons (.cell1 rfl rfl) (.cons (.cell1 rfl rfl) .nil)) ⟨_, _, rfl, .inl ⟨by omega, hok, rfl, vs, s0, s1, own, owns, rfl⟩⟩ pulled)
end Go.Proofs.Ytkkbeljmloikkaa
