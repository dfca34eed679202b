/- The document's disk: a disk among blocks; New, sectors, Used, find, may. -/
import Derived.Test.YtmocncadncgaaaaDk6
namespace Go.Proofs.Ytmocncadncgaaaa
set_option linter.unusedVariables false

/-- A file of the document's disk: its name, its slices, and what they have. -/
structure Fv where
  nm : List UInt8
  now : List UInt8
  syn : List UInt8
  p : Option Addr
  c : Nat
  q : Option Addr
  e : Nat
  deriving Inhabited
abbrev Fv.vn (f : Fv) : Value := .slice f.p f.now.length f.c
abbrev Fv.vs (f : Fv) : Value := .slice f.q f.syn.length f.e
abbrev Fv.vw (f : Fv) : List UInt8 × Fl := (f.nm, ⟨f.now, f.syn⟩)
abbrev fvC (f : Fv) : List Value := [kS f.nm, .slice f.p f.now.length f.c, .slice f.q f.syn.length f.e]
abbrev fvV (f : Fv) : Value := .agg #[kS f.nm, .slice f.p f.now.length f.c, .slice f.q f.syn.length f.e]
def fileE : Enc Fv where
  k := 3
  tid := 99
  cells := fvC
  val := fvV
  pos := by decide
  len := fun _ => rfl
  one := fun x v hv => by simp [fvC] at hv; rcases hv with rfl | rfl | rfl <;> rfl
  vc := fun _ => rfl
instance : RowTy Try.prog fileE 99 := ⟨Try.sizeOf99, .inl ⟨Try.isAgg99, fun _ => rfl⟩⟩
instance : TySl Try.prog 61 fileE 64 := ⟨Try.underlying61, Try.t99, .agg #[.string ⟨#[]⟩, .slice none 0 0, .slice none 0 0], by kernel_rfl, by kernel_rfl, rfl, rfl, rfl⟩
abbrev rfO (room : Int) (vL : Value) (ops armed : Int) (vK : Value) (down : Bool) : Obj := cellsO [.int .i64 room, vL, .int .i64 ops, .int .i64 armed, vK, .bool down] 63
/-- What a slice has while these blocks stay. -/
def ArgIn (bg : Hl) (v : Value) (xs : List UInt8) : Prop := ∀ F : Fm, (∀ b o, (b, o) ∈ bg → F.at_ b o) → Arg byteE F v xs
theorem ArgIn.mono {bg bg' : Hl} {v : Value} {xs : List UInt8} (h : ArgIn bg v xs) (hs : ∀ x ∈ bg, x ∈ bg') : ArgIn bg' v xs := fun F hF => h F fun b o hb => hF b o (hs _ hb)
theorem ArgIn.own {v : Value} {xs : List UInt8} {s : Hl} (h : Own byteE v xs s) : ArgIn s v xs := fun F hF => Arg.own h hF
def Srt (fs : List Fv) : Prop := (fs.map (·.nm)).Pairwise fun a b => a < b
/-- The document's disk, at pointer rb, but for the truths that it keeps. -/
def Rf0 (rb : Nat) (D : Dk) (vK : Value) (hl : Hl) : Prop := ∃ fs vL sL bg, Srt fs ∧ D.files.Perm (fs.map (·.vw)) ∧ Own fileE vL fs sL ∧ (∀ f ∈ fs, ArgIn bg f.vn f.now ∧ ArgIn bg f.vs f.syn) ∧ hl.Perm ((rb, rfO D.room vL D.ops D.armed vK D.down) :: (sL ++ bg))
def RfAt (rb : Nat) (D : Dk) (hl : Hl) : Prop := ∃ vK sK h0, Rf0 rb D vK h0 ∧ Own boolE vK D.keep sK ∧ hl.Perm (h0 ++ sK)

theorem rnew_spec (F : Fm) (room r : Int) (hr : max room 0 = r) : Spec Try.prog 31 #[.int .i64 room] F [] fun v s => ∃ rb, v = .pointer (some ⟨rb, 0, none⟩) ∧ RfAt rb (d0 r 0) s := by
  refine Spec.of (n := 7) (vs := [.int .i64 room]) Try.func31 rfl Try.ntmps31 rfl ?_
  refine Vc.seq ?_
  refine Vc.text (List.range 1) (sd [(0, .pure)]) rfl ?_
  refine Rg.pure rfl rfl rfl (Pv.assign rfl) ?_
  refine Rg.nil ?_
  refine Vc.seq ?_
  refine Vc.text (List.range 5) (sd [(0, .pure), (1, .pure), (2, .pure), (3, .eff), (4, .pure)]) rfl ?_
  refine Rg.pure rfl rfl rfl (Pv.move rfl) ?_
  refine Rg.pure rfl rfl rfl (Pv.as (.int .i64 r) (Pv.max rfl rfl) (congrArg (Value.int .i64) (by omega))) ?_
  refine Rg.pure rfl rfl rfl (Pv.build (c := #[.int .i64 r, .slice none 0 0, .int .i64 0, .int .i64 0, .slice none 0 0, .bool false]) rfl rfl) ?_
  refine Rg.box rfl rfl rfl rfl rfl (fun b6 => ?_)
  refine Rg.pure rfl rfl rfl (Pv.assign rfl) ?_
  refine Rg.nil ?_
  exact Vc.ret (Vc.retsH (hl' := [(b6, rfO r (.slice none 0 0) 0 0 (.slice none 0 0) false)]) rfl (.cons (.tmp rfl) .nil) ⟨b6, rfl, .slice none 0 0, [], [(b6, rfO r (.slice none 0 0) 0 0 (.slice none 0 0) false)], ⟨[], .slice none 0 0, [], [], .nil, .refl _, .nil, fun f hf => (by cases hf), .refl _⟩, .nil, .refl _⟩ pulled)
theorem rsectors_spec (F : Fm) (n : Nat) (hn : n < 4611686018427387904) : Spec Try.prog 67 #[.int .i64 (n : Int)] F [] fun v _ => v = .int .i64 ((secs n : Nat) : Int) := by
  refine Spec.of (n := 6) (vs := [.int .i64 (n : Int)]) Try.func67 rfl Try.ntmps67 rfl ?_
  refine Vc.seq ?_
  refine Vc.text (List.range 1) (sd [(0, .pure)]) rfl ?_
  refine Rg.pure rfl rfl rfl (Pv.assign rfl) ?_
  refine Rg.nil ?_
  refine Vc.seq ?_
  refine Vc.text (List.range 4) (sd [(0, .pure), (1, .pure), (2, .pure), (3, .pure)]) rfl ?_
  refine Rg.pure rfl rfl rfl (Pv.move rfl) ?_
  refine Rg.pure rfl rfl rfl (Pv.asI (n + 15) (Pv.add rfl rfl (by omega)) (by omega)) ?_
  refine Rg.pure rfl rfl rfl (Pv.asI (secs n) (Pv.quo rfl rfl (by omega)) (by unfold secs; omega)) ?_
  refine Rg.pure rfl rfl rfl (Pv.assign rfl) ?_
  refine Rg.nil ?_
  refine Vc.ret (Vc.rets rfl (.cons (.tmp rfl) (.nil)) ?_)
  rfl
theorem rmay_spec (F : Fm) (s : ByteArray) : Spec Try.prog 62 #[.string s] F [] fun v _ => v = .bool (mayN s) := by
  refine Spec.of (n := 11) (vs := [.string s]) Try.func62 rfl Try.ntmps62 rfl ?_
  refine Vc.seq ?_
  refine Vc.text (List.range 1) (sd [(0, .pure)]) rfl ?_
  refine Rg.pure rfl rfl rfl (Pv.assign rfl) ?_
  refine Rg.nil ?_
  refine Vc.seq ?_
  refine Vc.text (List.range 9) (sd [(0, .pure), (1, .pure), (2, .pure), (3, .pure), (4, .pure), (5, .pure), (6, .pure), (7, .pure), (8, .pure)]) rfl ?_
  refine Rg.pure rfl rfl rfl (Pv.move rfl) ?_
  refine Rg.pure rfl rfl rfl (Pv.lenStr rfl) ?_
  refine Rg.pure rfl rfl rfl (Pv.geq rfl rfl) ?_
  refine Rg.pure rfl rfl rfl (Pv.move rfl) ?_
  refine Rg.split (t := 6) rfl (fun h6 => ?_) (fun h6 => ?_)
  ·
    simp only [decide_eq_true_eq] at h6
    refine Rg.pure rfl rfl rfl (Pv.move rfl) ?_
    refine Rg.pure rfl rfl rfl (Pv.lenStr rfl) ?_
    refine Rg.pure rfl rfl rfl (Pv.leq rfl rfl) ?_
    refine Rg.pure rfl rfl rfl (Pv.pickT rfl rfl) ?_
    refine Rg.pure rfl rfl rfl (Pv.assign rfl) ?_
    refine Rg.nil ?_
    refine Vc.ret (Vc.rets rfl (.cons (.tmp rfl) (.nil)) ?_)
    exact congrArg Value.bool (by rw [mayN, decide_eq_true (show 1 ≤ s.size by omega), Bool.true_and]; rw [Bool.eq_iff_iff]; simp; omega)
  ·
    simp only [decide_eq_false_iff_not] at h6
    iterate 3 (first | refine Rg.skipP rfl rfl rfl ?_ | refine Rg.skipR rfl rfl rfl ?_ | refine Rg.skipE rfl rfl rfl ?_)
    refine Rg.pure rfl rfl rfl (Pv.pickF rfl rfl) ?_
    refine Rg.pure rfl rfl rfl (Pv.assign rfl) ?_
    refine Rg.nil ?_
    refine Vc.ret (Vc.rets rfl (.cons (.tmp rfl) (.nil)) ?_)
    exact congrArg Value.bool (by rw [mayN, decide_eq_false (show ¬ 1 ≤ s.size by omega)]; rfl)
def posI {α : Type} (p : α → Bool) : List α → Nat → Int
  | [], _ => -1
  | x :: l, i => if p x = true then (i : Int) else posI p l (i + 1)
theorem posI_spec {α : Type} (p : α → Bool) : ∀ (xs : List α) (i : Nat), (posI p xs i = -1 ∧ ∀ x ∈ xs, p x = false) ∨ ∃ A x B, xs = A ++ x :: B ∧ (∀ a ∈ A, p a = false) ∧ p x = true ∧ posI p xs i = ((i + A.length : Nat) : Int)
  | [], i => .inl ⟨rfl, fun x h => by cases h⟩
  | x :: l, i => by
    cases hp : p x with
    | true => exact .inr ⟨[], x, l, rfl, fun a h => (by cases h), hp, by simp [posI, hp]⟩
    | false =>
      have e : posI p (x :: l) i = posI p l (i + 1) := by simp [posI, hp]
      rw [e]
      rcases posI_spec p l (i + 1) with ⟨h1, h2⟩ | ⟨A, y, B, rfl, h2, h3, h4⟩
      · exact .inl ⟨h1, fun y hy => by rcases List.mem_cons.1 hy with rfl | hy; exact hp; exact h2 y hy⟩
      · exact .inr ⟨x :: A, y, B, rfl, fun a ha => by rcases List.mem_cons.1 ha with rfl | ha; exact hp; exact h2 a ha, h3, by rw [h4, List.length_cons]; congr 1; omega⟩
theorem bytes_dec (a b : List UInt8) : decide ((⟨a.toArray⟩ : ByteArray) = ⟨b.toArray⟩) = decide (a = b) := by
  rw [Bool.eq_iff_iff, decide_eq_true_eq, decide_eq_true_eq]
  constructor
  · intro h
    have := congrArg ByteArray.data h
    simpa using this
  · rintro rfl; rfl
theorem rfind_spec {F : Fm} {rb : Nat} {room ops armed : Int} {vL vK : Value} {down : Bool} {fs : List Fv} [f1 : Fat F rb (rfO room vL ops armed vK down)] (ha : Arg fileE F vL fs) (hN : fs.length < 1073741824) (k : List UInt8) :
    Spec Try.prog 63 #[.pointer (some ⟨rb, 0, none⟩), kS k] F [] fun v _ => v = .int .i64 (posI (fun f : Fv => decide (f.nm = k)) fs 0) := by
  obtain ⟨p, c, rfl⟩ := ha.shape
  refine Spec.of (n := 26) (vs := [.pointer (some ⟨rb, 0, none⟩), kS k]) Try.func63 rfl Try.ntmps63 rfl ?_
  refine Vc.seq ?_
  refine Vc.text (List.range 1) (sd [(0, .pure)]) rfl ?_
  refine Rg.pure rfl rfl rfl (Pv.assign rfl) ?_
  refine Rg.nil ?_
  refine Vc.seq ?_
  refine Vc.seq ?_
  refine Vc.text (List.range 1) (sd [(0, .pure)]) rfl ?_
  refine Rg.pure rfl rfl rfl (Pv.assign rfl) ?_
  refine Rg.nil ?_
  refine Vc.block ?_
  refine Vc.loop1 (fun (i : Nat) => i ≤ fs.length ∧ posI (fun f : Fv => decide (f.nm = k)) fs 0 = posI (fun f : Fv => decide (f.nm = k)) (fs.drop i) i) (fun i => [(0, .pointer (some ⟨rb, 0, none⟩)), (1, kS k), (5, .int .i64 (i : Int))]) (fun i => []) (fun i => fs.length - i) 0 ⟨Nat.zero_le _, rfl⟩ (.cons rfl (.cons rfl (.cons rfl .nil))) pulled ?_
  rintro i ⟨h1, h2⟩
  refine Vc.seq ?_
  refine Vc.seq ?_
  refine Vc.text (List.range 7) (sd [(0, .pure), (1, .pure), (2, .pure), (3, .pure), (4, .read), (5, .pure), (6, .pure)]) rfl ?_
  refine Rg.pure rfl rfl rfl (Pv.move rfl) ?_
  refine Rg.pure rfl rfl rfl (Pv.move rfl) ?_
  refine Rg.pure rfl rfl rfl (Pv.nilp rfl) ?_
  refine Rg.pure rfl rfl rfl (Pv.fa rfl) ?_
  refine Rg.read rfl rfl rfl (Ev.ld rfl rfl) ?_
  refine Rg.pure rfl rfl rfl (Pv.lenS rfl) ?_
  refine Rg.pure rfl rfl rfl (Pv.lss rfl rfl) ?_
  refine Rg.nil ?_
  refine Vc.cond rfl (fun h12 => ?_) (fun h12 => ?_)
  ·
    simp only [decide_eq_true_eq] at h12
    have hi1 : i < fs.length := by omega
    obtain ⟨b, off, c', e, _⟩ := ha.block (by omega)
    cases e
    have hd : fs.drop i = fs[i]! :: fs.drop (i + 1) := by rw [getElem!_pos fs i (by omega)]; exact List.drop_eq_getElem_cons (by omega)
    rw [hd] at h2
    refine Vc.skip ?_
    refine Vc.seq ?_
    refine Vc.block ?_
    refine Vc.seq ?_
    refine Vc.text (List.range 10) (sd [(0, .pure), (1, .pure), (2, .pure), (3, .read), (4, .pure), (5, .pure), (6, .pure), (7, .read), (8, .pure), (9, .pure)]) rfl ?_
    refine Rg.pure rfl rfl rfl (Pv.move rfl) ?_
    refine Rg.pure rfl rfl rfl (Pv.nilp rfl) ?_
    refine Rg.pure rfl rfl rfl (Pv.fa rfl) ?_
    refine Rg.read rfl rfl rfl (Ev.ld rfl rfl) ?_
    refine Rg.pure rfl rfl rfl (Pv.move rfl) ?_
    refine Rg.pure rfl rfl rfl (Pv.ixA (i) rfl rfl (by omega) (by omega)) ?_
    refine Rg.pure rfl rfl rfl (Pv.fa rfl) ?_
    refine Rg.read rfl rfl rfl (Ev.ldSf (E := fileE) (u := kS fs[i]!.nm) i 0 ha.src rfl rfl rfl hi1 rfl) ?_
    refine Rg.pure rfl rfl rfl (Pv.move rfl) ?_
    refine Rg.pure rfl rfl rfl (Pv.as (.bool (decide (fs[i]!.nm = k))) (Pv.eqlS (p := ⟨fs[i]!.nm.toArray⟩) (q := ⟨k.toArray⟩) rfl rfl) (congrArg Value.bool (bytes_dec _ _))) ?_
    refine Rg.nil ?_
    refine Vc.cond rfl (fun h24 => ?_) (fun h24 => ?_)
    ·
      refine Vc.seq ?_
      refine Vc.text (List.range 2) (sd [(0, .pure), (1, .pure)]) rfl ?_
      refine Rg.pure rfl rfl rfl (Pv.move rfl) ?_
      refine Rg.pure rfl rfl rfl (Pv.assign rfl) ?_
      refine Rg.nil ?_
      refine Vc.ret (Vc.rets rfl (.cons (.tmp rfl) (.nil)) ?_)
      exact congrArg (Value.int .i64) (by rw [h2, posI, if_pos h24])
    ·
      refine Vc.skip ?_
      refine Vc.blk ?_
      refine Vc.text (List.range 3) (sd [(0, .pure), (1, .pure), (2, .pure)]) rfl ?_
      refine Rg.pure rfl rfl rfl (Pv.move rfl) ?_
      refine Rg.pure rfl rfl rfl (Pv.asI (i + 1) (Pv.add rfl rfl (by omega)) (by omega)) ?_
      refine Rg.pure rfl rfl rfl (Pv.assign rfl) ?_
      refine Rg.nil ?_
      exact Vc.inv1 (i + 1) ⟨⟨by omega, by rw [h2, posI, if_neg (by rw [h24]; simp)]⟩, by omega⟩ (.cons rfl (.cons rfl (.cons rfl .nil))) pulled
  ·
    simp only [decide_eq_false_iff_not] at h12
    rw [List.drop_eq_nil_of_le (by omega)] at h2
    refine Vc.exit rfl ?_
    refine Vc.seq ?_
    refine Vc.text (List.range 1) (sd [(0, .pure)]) rfl ?_
    refine Rg.pure rfl rfl rfl (Pv.assign rfl) ?_
    refine Rg.nil ?_
    refine Vc.ret (Vc.rets rfl (.cons (.tmp rfl) (.nil)) ?_)
    exact congrArg (Value.int .i64) h2.symm
theorem rused_spec {F : Fm} {rb : Nat} {room ops armed : Int} {vL vK : Value} {down : Bool} {fs : List Fv} [f1 : Fat F rb (rfO room vL ops armed vK down)] (ha : Arg fileE F vL fs) (hN : fs.length ≤ 1000) (hB : ∀ f ∈ fs, f.now.length ≤ 1000000) :
    Spec Try.prog 44 #[.pointer (some ⟨rb, 0, none⟩)] F [] fun v _ => v = .int .i64 ((usedN (fs.map (·.vw)) : Nat) : Int) := by
  obtain ⟨p, c, rfl⟩ := ha.shape
  refine Spec.of (n := 27) (vs := [.pointer (some ⟨rb, 0, none⟩)]) Try.func44 rfl Try.ntmps44 rfl ?_
  refine Vc.seq ?_
  refine Vc.text (List.range 1) (sd [(0, .pure)]) rfl ?_
  refine Rg.pure rfl rfl rfl (Pv.assign rfl) ?_
  refine Rg.nil ?_
  refine Vc.seq ?_
  refine Vc.text (List.range 1) (sd [(0, .pure)]) rfl ?_
  refine Rg.pure rfl rfl rfl (Pv.assign rfl) ?_
  refine Rg.nil ?_
  refine Vc.seq ?_
  refine Vc.seq ?_
  refine Vc.text (List.range 1) (sd [(0, .pure)]) rfl ?_
  refine Rg.pure rfl rfl rfl (Pv.assign rfl) ?_
  refine Rg.nil ?_
  refine Vc.block ?_
  refine Vc.loop2 (fun (i u : Nat) => i ≤ fs.length ∧ u = usedN ((fs.take i).map (·.vw)) ∧ u ≤ i * 100000) (fun i u => [(0, .pointer (some ⟨rb, 0, none⟩)), (3, .int .i64 (u : Int)), (4, .int .i64 (i : Int))]) (fun i u => []) (fun i u => fs.length - i) 0 0 ⟨Nat.zero_le _, rfl, Nat.zero_le _⟩ (.cons rfl (.cons rfl (.cons rfl .nil))) pulled ?_
  rintro i u ⟨h1, h2, h3⟩
  refine Vc.seq ?_
  refine Vc.seq ?_
  refine Vc.text (List.range 7) (sd [(0, .pure), (1, .pure), (2, .pure), (3, .pure), (4, .read), (5, .pure), (6, .pure)]) rfl ?_
  refine Rg.pure rfl rfl rfl (Pv.move rfl) ?_
  refine Rg.pure rfl rfl rfl (Pv.move rfl) ?_
  refine Rg.pure rfl rfl rfl (Pv.nilp rfl) ?_
  refine Rg.pure rfl rfl rfl (Pv.fa rfl) ?_
  refine Rg.read rfl rfl rfl (Ev.ld rfl rfl) ?_
  refine Rg.pure rfl rfl rfl (Pv.lenS rfl) ?_
  refine Rg.pure rfl rfl rfl (Pv.lss rfl rfl) ?_
  refine Rg.nil ?_
  refine Vc.cond rfl (fun h11 => ?_) (fun h11 => ?_)
  ·
    simp only [decide_eq_true_eq] at h11
    have hi1 : i < fs.length := by omega
    obtain ⟨b, off, c', e, _⟩ := ha.block (by omega)
    cases e
    have hbl := hB fs[i]! (by rw [getElem!_pos fs i hi1]; exact List.getElem_mem _)
    have hse : secs fs[i]!.now.length ≤ 100000 := by unfold secs; omega
    have htk : fs.take (i + 1) = fs.take i ++ [fs[i]!] := by rw [List.take_succ_eq_append_getElem hi1, getElem!_pos fs i hi1]
    refine Vc.skip ?_
    refine Vc.seq ?_
    refine Vc.block ?_
    refine Vc.text (List.range 13) (sd [(0, .pure), (1, .pure), (2, .pure), (3, .pure), (4, .read), (5, .pure), (6, .pure), (7, .pure), (8, .read), (9, .pure), (10, .eff), (11, .pure), (12, .pure)]) rfl ?_
    refine Rg.pure rfl rfl rfl (Pv.move rfl) ?_
    refine Rg.pure rfl rfl rfl (Pv.move rfl) ?_
    refine Rg.pure rfl rfl rfl (Pv.nilp rfl) ?_
    refine Rg.pure rfl rfl rfl (Pv.fa rfl) ?_
    refine Rg.read rfl rfl rfl (Ev.ld rfl rfl) ?_
    refine Rg.pure rfl rfl rfl (Pv.move rfl) ?_
    refine Rg.pure rfl rfl rfl (Pv.ixA (i) rfl rfl (by omega) (by omega)) ?_
    refine Rg.pure rfl rfl rfl (Pv.fa rfl) ?_
    refine Rg.read rfl rfl rfl (Ev.ldSf (E := fileE) (u := fs[i]!.vn) i 1 ha.src rfl rfl rfl hi1 rfl) ?_
    refine Rg.pure rfl rfl rfl (Pv.lenS rfl) ?_
    refine Rg.callP rfl rfl rfl (run_callF rfl) (rsectors_spec _ fs[i]!.now.length (by omega)) ?_
    rintro _ rfl
    refine Rg.pure rfl rfl rfl (Pv.asI (u + secs fs[i]!.now.length) (Pv.add rfl rfl (by omega)) (by omega)) ?_
    refine Rg.pure rfl rfl rfl (Pv.assign rfl) ?_
    refine Rg.nil ?_
    refine Vc.blk ?_
    refine Vc.text (List.range 3) (sd [(0, .pure), (1, .pure), (2, .pure)]) rfl ?_
    refine Rg.pure rfl rfl rfl (Pv.move rfl) ?_
    refine Rg.pure rfl rfl rfl (Pv.asI (i + 1) (Pv.add rfl rfl (by omega)) (by omega)) ?_
    refine Rg.pure rfl rfl rfl (Pv.assign rfl) ?_
    refine Rg.nil ?_
    exact Vc.inv2 (i + 1) (u + secs fs[i]!.now.length) ⟨⟨by omega, by rw [h2, htk, List.map_append, usedN_append]; simp [usedN], by omega⟩, by omega⟩ (.cons rfl (.cons rfl (.cons rfl .nil))) pulled
  ·
    simp only [decide_eq_false_iff_not] at h11
    rw [List.take_of_length_le (by omega)] at h2
    refine Vc.exit rfl ?_
    refine Vc.seq ?_
    refine Vc.text (List.range 2) (sd [(0, .pure), (1, .pure)]) rfl ?_
    refine Rg.pure rfl rfl rfl (Pv.move rfl) ?_
    refine Rg.pure rfl rfl rfl (Pv.assign rfl) ?_
    refine Rg.nil ?_
    refine Vc.ret (Vc.rets rfl (.cons (.tmp rfl) (.nil)) ?_)
    exact congrArg (Value.int .i64) (by rw [h2])
end Go.Proofs.Ytmocncadncgaaaa
