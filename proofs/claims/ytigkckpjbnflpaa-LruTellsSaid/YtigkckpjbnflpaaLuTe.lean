/- The statements' functions: LruTells. -/
import Derived.Test.YtigkckpjbnflpaaLuRu
import Derived.Test.YtigkckpjbnflpaaLuT
namespace Go.Proofs.Ytigkckpjbnflpaa
set_option linter.unusedVariables false

structure StepV where
  kind : Int
  key : KTs
instance : Inhabited StepV := ⟨⟨0, ⟨#[]⟩⟩⟩
def stepE : Enc StepV where
  k := 2
  tid := 29
  cells := fun x => [.int .i64 x.kind, kvs x.key]
  val := fun x => .agg #[.int .i64 x.kind, kvs x.key]
  pos := by decide
  len := fun _ => rfl
  one := fun x v hv => by simp at hv; rcases hv with rfl | rfl <;> rfl
  vc := fun _ => rfl

section
variable {P : Program} {n : Nat} {F : Fm} {l : Env} {hl : Hl} {ty : TypeId} {pos : String} {af : Array Edge} {g : Option (Nat × Bool)} {α : Type} {E : Enc α}
/-- A field of an element. -/
theorem Ev.ldSf [Inhabited α] {t b off o c m : Nat} {v u : Value} {ys : List α} {x : Operand} {d : Option Tmp} (j i : Nat) (hsrc : Src E F hl v ys) (hv : v = .slice (some ⟨b, off, none⟩) m c) (hx : ev l x = some (.pointer (some ⟨b, o, none⟩))) [ht : TyOne P t] (ho : o = off + j * E.k + i) (hj : j < ys.length)
    (hu : (E.cells ys[j]!)[i]? = some u) : Ev P n F l hl ⟨d, .load t x, ty, pos, af, g⟩ u := fun a w hf hs => by
  subst hv; subst ho
  rcases hsrc with ⟨h, _⟩ | ⟨b', off', c', e, h⟩
  · cases h
  · cases e
    have hi : i < E.k := by rw [← E.len ys[j]!]; exact (List.getElem?_eq_some_iff.1 hu).1
    have hc : w.cell? ⟨b, off + j * E.k + i, none⟩ = some u := by
      rw [Nat.add_assoc]
      refine h w hs _ u ?_
      rw [flat_get E ys j i ys[j]! (by rw [getElem!_pos ys j hj]; exact List.getElem?_eq_getElem hj) hi]
      exact hu
    have h0 : (load ⟨b, off + j * E.k + i, none⟩).run P w = .ok u w := by simp [load, Sem.run, hc]
    have h1 : (loadVar t ⟨b, off + j * E.k + i, none⟩).run P w = .ok u w := by
      simp only [loadVar, Sem.run_bind, ht.agg, Result.andThen_ok, Bool.false_eq_true, if_false]
      exact h0
    simp [execOp, hf.ev hx, Instr.loadAt, Instr.sureAddr, h1]
end

section
variable {P : Program} {Qf : Exit → Act → World → Prop} {ks : List KItem} {ops : List Oper} {clr : List Nat} {r : Sd} {i : Nat} {n : Nat} {F : Fm} {l : Env} {hl : Hl} {ty : TypeId} {pos : String} {af : Array Edge} {g : Option (Nat × Bool)}
/-- A call that turns nothing and lays new blocks. -/
theorem Rg.callA {t f : Nat} {o : Op} {args : Array Value} {post : Value → Hl → Prop} (ho : nth ops i = some ⟨some t, o, ty, pos, af, g⟩) (hg : wantB ops l g = some true) (ht : Nat.blt t n = true) (hc : Callz P n l ⟨some t, o, ty, pos, af, g⟩ f args)
    (hspec : Spec P f args (frz F hl) [] post) (h : ∀ v s, post v s → Rg P Qf n F ks ops clr (s ++ hl) r ((t, v) :: l) (s ++ hl)) : Rg P Qf n F ks ops clr hl (.st i .eff r) l hl :=
  Rg.calls [] hl ho hg (fun a w hf _ => hc a w hf) (List.Perm.refl _) hspec fun v hl' hpost => ⟨hl' ++ hl, fun _ hw => hw.st, .inr ⟨hl', rfl⟩, fun a hf => ⟨_, hf.put ht v, h v hl' hpost⟩⟩
end

theorem caches_nodup {cb fr ck : Nat} {L : List (KTs × Nat)} {s : Hl} (hh : Caches cb fr ck L s) : (L.map (·.1)).Nodup := by
  obtain ⟨mb, mc, es, us, _, hg, rfl⟩ := hh
  have := hg.keys
  simpa [viewC, List.map_map, Function.comp_def] using this
def useV (fr : Nat) (L : List (KTs × Nat)) (k : KTs) : KTs × Bool × Int :=
  match useK zs fr L k with
  | none => (zs, false, 8)
  | some p => (p.2.2.1, p.2.2.2, 0)
theorem use_tot (F : Fm) {cb fr ck : Nat} {L : List (KTs × Nat)} {s : Hl} (hh : Caches cb fr ck L s) (key : KTs) (hck : ck < 1073741824) (hN : L.length < 1073741824) :
    Spec Try.prog 13 #[.pointer (some ⟨cb, 0, none⟩), kvs key] F s fun v s' => v = .tuple #[kvs (useV fr L key).1, .bool (useV fr L key).2.1, .int .i64 (useV fr L key).2.2] ∧ ∃ ck', ck' ≤ ck + 1 ∧ Caches cb fr ck' (stepU zs fr L key) s' :=
  (use_specs F hh key hck hN).mono fun v s' hv => by
    rcases hv with ⟨h1, h2, h3⟩ | ⟨M, q, g, is, h1, h2, h3⟩
    · simp only [useV, stepU, h1]; exact ⟨h2, ck, by omega, h3⟩
    · simp only [useV, stepU, h1]; exact ⟨h2, ck + 1, by omega, h3⟩
theorem ruse_tot (F : Fm) {rb fr : Nat} {L : List (KTs × Nat)} {s : Hl} (hh : RefAt rb fr L s) (key : KTs) (hn : (L.map (·.1)).Nodup) (hp : ∀ p ∈ L, p.2 < 1073741824) (hN : L.length < 1073741824) (hfr : L.length ≤ fr) :
    Spec Try.prog 14 #[.pointer (some ⟨rb, 0, none⟩), kvs key] F s fun v s' => v = .tuple #[kvs (useV fr L key).1, .bool (useV fr L key).2.1, .int .i64 (useV fr L key).2.2] ∧ RefAt rb fr (stepU zs fr L key) s' :=
  (ruse_spec F hh key hn hp hN hfr).mono fun v s' hv => by
    rcases hv with ⟨h1, h2, h3⟩ | ⟨M, q, g, is, h1, h2, h3⟩
    · simp only [useV, stepU, h1]; exact ⟨h2, h3⟩
    · simp only [useV, stepU, h1]; exact ⟨h2, h3⟩
theorem dropK_lt {L : List (KTs × Nat)} {k : KTs} (h : hasK L k = true) : (dropK L k).length + 1 ≤ L.length := by
  obtain ⟨p, hp, hk⟩ := List.any_eq_true.1 h
  have := (List.length_filter_lt_length_iff_exists (p := fun p : KTs × Nat => !decide (p.1 = k)) (l := L)).2 ⟨p, hp, by simpa using hk⟩
  unfold dropK
  omega
theorem stepU_room {fr : Nat} {L : List (KTs × Nat)} {k : KTs} (h : L.length ≤ fr) : (stepU zs fr L k).length ≤ fr := by
  unfold stepU useK
  by_cases hk : hasK L k = true
  · have := dropK_lt hk
    simp [hk]; omega
  · by_cases hf : fr ≤ L.length
    · simp only [hk, if_false, hf, if_true, Bool.false_eq_true]
      cases e : L.find? fun p => decide (p.2 = 0) with
      | none => simpa using h
      | some p =>
        have : hasK L p.1 = true := List.any_eq_true.2 ⟨p, List.mem_of_find?_eq_some e, by simp⟩
        have := dropK_lt this
        simp; omega
    · simp [hk, hf]; omega
theorem if_setK_len {L : List (KTs × Nat)} {k : KTs} {m : Nat} : (if hasK L k = true then setK L k m else L).length = L.length := by split <;> simp [setK]
theorem if_setK_pins {L : List (KTs × Nat)} {k : KTs} {m B : Nat} (h : ∀ p ∈ L, p.2 ≤ B) (hm : m ≤ B) : ∀ p ∈ (if hasK L k = true then setK L k m else L), p.2 ≤ B := by
  split
  · exact setK_pins h hm
  · exact h
theorem if_dropK_len {L : List (KTs × Nat)} {k : KTs} : (if hasK L k = true then if 0 < pinsK L k then L else dropK L k else L).length ≤ L.length := by
  split
  · split
    · exact Nat.le_refl _
    · exact dropK_length _ _
  · exact Nat.le_refl _
theorem if_dropK_pins {L : List (KTs × Nat)} {k : KTs} {B : Nat} (h : ∀ p ∈ L, p.2 ≤ B) : ∀ p ∈ (if hasK L k = true then if 0 < pinsK L k then L else dropK L k else L), p.2 ≤ B := by
  intro p hp
  split at hp
  · split at hp
    · exact h p hp
    · exact h p (dropK_mem hp)
  · exact h p hp

/-- Both caches, of the same keys and pins. -/
def Both (cb rb fr i : Nat) (L : List (KTs × Nat)) (s1 s2 : Hl) : Prop := (∃ ck, ck ≤ i ∧ Caches cb fr ck L s1) ∧ RefAt rb fr L s2 ∧ L.length ≤ fr ∧ L.length ≤ i ∧ (∀ p ∈ L, p.2 ≤ i)

theorem LruTells_spec (F : Fm) (z : Int) (hz : -9223372036854775808 ≤ z ∧ z ≤ 9223372036854775807) (v1 : Value) (xs : List StepV) (key : KTs) (ha : Arg stepE F v1 xs) :
    Spec Try.prog 3 #[.int .i64 z, v1, kvs key] F [] fun v _ => v = .bool true := by
  obtain ⟨p0, c0, rfl⟩ := ha.shape
  refine Spec.of (n := 120) (vs := [.int .i64 z, .slice p0 xs.length c0, kvs key]) Try.func3 rfl Try.ntmps3 rfl ?_
  refine Vc.seq ?_
  refine Vc.text (List.range 1) (sd [(0, .pure)]) rfl ?_
  refine Rg.pure rfl rfl rfl (Pv.assign rfl) ?_
  refine Rg.nil ?_
  refine Vc.seq ?_
  refine Vc.text (List.range 2) (sd [(0, .eff), (1, .pure)]) rfl ?_
  refine Rg.callP rfl rfl rfl (run_callF rfl) (shown_spec _) ?_
  rintro _ rfl
  refine Rg.pure rfl rfl rfl (Pv.assign rfl) ?_
  refine Rg.nil ?_
  refine Vc.seq ?_
  refine Vc.text (List.range 3) (sd [(0, .pure), (1, .pure), (2, .pure)]) rfl ?_
  refine Rg.pure rfl rfl rfl (Pv.move rfl) ?_
  refine Rg.pure rfl rfl rfl (Pv.min rfl rfl) ?_
  refine Rg.pure rfl rfl rfl (Pv.assign rfl) ?_
  refine Rg.nil ?_
  refine Vc.seq ?_
  refine Vc.text (List.range 3) (sd [(0, .pure), (1, .eff), (2, .pure)]) rfl ?_
  refine Rg.pure rfl rfl rfl (Pv.move rfl) ?_
  refine Rg.callH rfl rfl rfl (run_callF rfl) (fun F' hF' => new_specs F' (min z 30) (by omega)) rfl ?_
  rintro _ s1 ⟨cb, rfl, h1⟩
  refine Rg.pure rfl rfl rfl (Pv.assign rfl) ?_
  refine Rg.nil ?_
  refine Vc.seq ?_
  refine Vc.text (List.range 3) (sd [(0, .pure), (1, .eff), (2, .pure)]) rfl ?_
  refine Rg.pure rfl rfl rfl (Pv.move rfl) ?_
  refine Rg.callH rfl rfl rfl (run_callF rfl) (fun F' hF' => rnew_spec F' (min z 30) (by omega)) rfl ?_
  rintro _ s2 ⟨rb, rfl, h2⟩
  generalize (max (min z 30) 1).toNat = fr at h1 h2
  refine Rg.pure rfl rfl rfl (Pv.assign rfl) ?_
  refine Rg.nil ?_
  refine Vc.seq ?_
  refine Vc.seq ?_
  refine Vc.text (List.range 2) (sd [(0, .pure), (1, .pure)]) rfl ?_
  refine Rg.pure rfl rfl rfl (Pv.move rfl) ?_
  refine Rg.pure rfl rfl rfl (Pv.eqlNil rfl rfl) ?_
  refine Rg.nil ?_
  refine Vc.cond rfl (fun h26 => absurd h26 (by simp)) (fun h26 => ?_)
  refine Vc.skip ?_
  refine Vc.seq ?_
  refine Vc.seq ?_
  refine Vc.text (List.range 1) (sd [(0, .pure)]) rfl ?_
  refine Rg.pure rfl rfl rfl (Pv.assign rfl) ?_
  refine Rg.nil ?_
  refine Vc.block ?_
  refine Vc.loop4 (fun (i : Nat) (L : List (KTs × Nat)) (s1 s2 : Hl) => i ≤ 100 ∧ Both cb rb fr i L s1 s2) (fun i L s1 s2 => [(1, .slice p0 xs.length c0), (2, kvs key), (7, .bool true), (8, .pointer (some ⟨cb, 0, none⟩)), (9, .pointer (some ⟨rb, 0, none⟩)), (10, .int .i64 (i : Int))]) (fun i L s1 s2 => s1 ++ s2) (fun i L s1 s2 => 100 - i) 0 [] s1 s2 ⟨by omega, ⟨0, by omega, h1⟩, h2, by simp, by simp, by simp⟩ (.cons rfl (.cons rfl (.cons rfl (.cons rfl (.cons rfl (.cons rfl .nil)))))) pulled ?_
  rintro i L s1 s2 ⟨hi, ⟨ck, hck, hc⟩, hr, hfr, hLi, hpi⟩
  have hnd := caches_nodup hc
  refine Vc.seq ?_
  refine Vc.seq ?_
  refine Vc.cut1 (fun (b : Bool) => b = true → i < xs.length ∧ i < 100) (fun b => (34, .bool b) :: [(1, .slice p0 xs.length c0), (2, kvs key), (7, .bool true), (8, .pointer (some ⟨cb, 0, none⟩)), (9, .pointer (some ⟨rb, 0, none⟩)), (10, .int .i64 (i : Int))]) (fun b => s1 ++ s2) ?_ ?_
  ·
    refine Vc.text (List.range 8) (sd [(0, .pure), (1, .pure), (2, .pure), (3, .pure), (4, .pure), (5, .pure), (6, .pure), (7, .pure)]) rfl ?_
    refine Rg.pure rfl rfl rfl (Pv.move rfl) ?_
    refine Rg.pure rfl rfl rfl (Pv.move rfl) ?_
    refine Rg.pure rfl rfl rfl (Pv.lenS rfl) ?_
    refine Rg.pure rfl rfl rfl (Pv.lss rfl rfl) ?_
    refine Rg.pure rfl rfl rfl (Pv.move rfl) ?_
    refine Rg.split (t := 31) rfl (fun h31 => ?_) (fun h31 => ?_)
    ·
      simp only [decide_eq_true_eq] at h31
      refine Rg.pure rfl rfl rfl (Pv.move rfl) ?_
      refine Rg.pure rfl rfl rfl (Pv.lss rfl rfl) ?_
      refine Rg.pure rfl rfl rfl (Pv.pickT rfl rfl) ?_
      refine Rg.nil ?_
      exact Vc.inv1 _ (fun hb => by first | (simp only [decide_eq_true_eq] at hb; omega) | cases hb) (.cons rfl (.cons rfl (.cons rfl (.cons rfl (.cons rfl (.cons rfl (.cons rfl .nil))))))) pulled
    ·
      iterate 2 (first | refine Rg.skipP rfl rfl rfl ?_ | refine Rg.skipR rfl rfl rfl ?_ | refine Rg.skipE rfl rfl rfl ?_)
      refine Rg.pure rfl rfl rfl (Pv.pickF rfl rfl) ?_
      refine Rg.nil ?_
      exact Vc.inv1 _ (fun hb => by first | (simp only [decide_eq_true_eq] at hb; omega) | cases hb) (.cons rfl (.cons rfl (.cons rfl (.cons rfl (.cons rfl (.cons rfl (.cons rfl .nil))))))) pulled
  ·
    rintro bb hbb
    refine Vc.cond rfl (fun h34 => ?_) (fun h34 => ?_)
    ·
      obtain ⟨h3, h4⟩ := hbb h34
      obtain ⟨b0, o0, cc0, e0, _⟩ := ha.block (by omega)
      cases e0
      have hpj : ∀ p ∈ L, p.2 ≤ i + 1 := fun p h => by have := hpi p h; omega
      refine Vc.skip ?_
      refine Vc.seq ?_
      refine Vc.block ?_
      refine Vc.seq ?_
      refine Vc.text (List.range 6) (sd [(0, .pure), (1, .pure), (2, .pure), (3, .pure), (4, .read), (5, .pure)]) rfl ?_
      refine Rg.pure rfl rfl rfl (Pv.move rfl) ?_
      refine Rg.pure rfl rfl rfl (Pv.move rfl) ?_
      refine Rg.pure rfl rfl rfl (Pv.ixA (i) rfl rfl (by omega) (by omega)) ?_
      refine Rg.pure rfl rfl rfl (Pv.fa rfl) ?_
      refine Rg.read rfl rfl rfl (Ev.ldSf (E := stepE) i 1 ha.src rfl rfl rfl h3 rfl) ?_
      refine Rg.pure rfl rfl rfl (Pv.assign rfl) ?_
      refine Rg.nil ?_
      refine Vc.seq ?_
      refine Vc.text (List.range 1) (sd [(0, .pure)]) rfl ?_
      refine Rg.pure rfl rfl rfl (Pv.assign rfl) ?_
      refine Rg.nil ?_
      refine Vc.seq ?_
      refine Vc.text (List.range 1) (sd [(0, .pure)]) rfl ?_
      refine Rg.pure rfl rfl rfl (Pv.assign rfl) ?_
      refine Rg.nil ?_
      refine Vc.seq ?_
      refine Vc.seq ?_
      refine Vc.text (List.range 5) (sd [(0, .pure), (1, .pure), (2, .pure), (3, .pure), (4, .read)]) rfl ?_
      refine Rg.pure rfl rfl rfl (Pv.move rfl) ?_
      refine Rg.pure rfl rfl rfl (Pv.move rfl) ?_
      refine Rg.pure rfl rfl rfl (Pv.ixA (i) rfl rfl (by omega) (by omega)) ?_
      refine Rg.pure rfl rfl rfl (Pv.fa rfl) ?_
      refine Rg.read rfl rfl rfl (Ev.ldSf (E := stepE) i 0 ha.src rfl rfl rfl h3 rfl) ?_
      refine Rg.nil ?_
      refine Vc.block ?_
      refine Vc.seq ?_
      refine Vc.seq ?_
      refine Vc.text (List.range 2) (sd [(0, .pure), (1, .pure)]) rfl ?_
      refine Rg.pure rfl rfl rfl (Pv.eql rfl rfl) ?_
      refine Rg.pure rfl rfl rfl (Pv.assign rfl) ?_
      refine Rg.nil ?_
      refine Vc.cut1 (fun (b : Bool) => True) (fun b => (47, .bool b) :: (11, kvs xs[i]!.key) :: (12, .int .i64 0) :: (13, .int .i64 0) :: (46, .int .i64 xs[i]!.kind) :: [(1, .slice (some ⟨b0, o0, none⟩) xs.length c0), (2, kvs key), (7, .bool true), (8, .pointer (some ⟨cb, 0, none⟩)), (9, .pointer (some ⟨rb, 0, none⟩)), (10, .int .i64 (i : Int))]) (fun b => s1 ++ s2) ?_ ?_
      ·
        refine Vc.cond rfl (fun h47 => ?_) (fun h47 => ?_)
        ·
          refine Vc.skip ?_
          exact Vc.inv1 _ trivial (.cons rfl (.cons rfl (.cons rfl (.cons rfl (.cons rfl (.cons rfl (.cons rfl (.cons rfl (.cons rfl (.cons rfl (.cons rfl .nil))))))))))) pulled
        ·
          refine Vc.seq ?_
          refine Vc.text (List.range 2) (sd [(0, .pure), (1, .pure)]) rfl ?_
          refine Rg.pure rfl rfl rfl (Pv.eql rfl rfl) ?_
          refine Rg.pure rfl rfl rfl (Pv.assign rfl) ?_
          refine Rg.nil ?_
          refine Vc.cond rfl (fun h47 => ?_) (fun h47 => ?_)
          ·
            refine Vc.skip ?_
            exact Vc.inv1 _ trivial (.cons rfl (.cons rfl (.cons rfl (.cons rfl (.cons rfl (.cons rfl (.cons rfl (.cons rfl (.cons rfl (.cons rfl (.cons rfl .nil))))))))))) pulled
          ·
            refine Vc.text (List.range 2) (sd [(0, .pure), (1, .pure)]) rfl ?_
            refine Rg.pure rfl rfl rfl (Pv.eql rfl rfl) ?_
            refine Rg.pure rfl rfl rfl (Pv.assign rfl) ?_
            refine Rg.nil ?_
            exact Vc.inv1 _ trivial (.cons rfl (.cons rfl (.cons rfl (.cons rfl (.cons rfl (.cons rfl (.cons rfl (.cons rfl (.cons rfl (.cons rfl (.cons rfl .nil))))))))))) pulled
      ·
        rintro b47 -
        refine Vc.cut4 (fun (e : Int) (M : List (KTs × Nat)) (s3 s4 : Hl) => Both cb rb fr (i + 1) M s3 s4) (fun e M s3 s4 => (12, .int .i64 e) :: (13, .int .i64 e) :: [(1, .slice (some ⟨b0, o0, none⟩) xs.length c0), (2, kvs key), (7, .bool true), (8, .pointer (some ⟨cb, 0, none⟩)), (9, .pointer (some ⟨rb, 0, none⟩)), (10, .int .i64 (i : Int))]) (fun e M s3 s4 => s3 ++ s4) ?_ ?_
        ·
          refine Vc.cond rfl (fun h47 => ?_) (fun h47 => ?_)
          ·
            refine Vc.seq ?_
            refine Vc.text (List.range 1) (sd [(0, .pure)]) rfl ?_
            refine Rg.pure rfl rfl rfl (Pv.assign rfl) ?_
            refine Rg.nil ?_
            refine Vc.seq ?_
            refine Vc.text (List.range 1) (sd [(0, .pure)]) rfl ?_
            refine Rg.pure rfl rfl rfl (Pv.assign rfl) ?_
            refine Rg.nil ?_
            refine Vc.seq ?_
            refine Vc.text (List.range 1) (sd [(0, .pure)]) rfl ?_
            refine Rg.pure rfl rfl rfl (Pv.assign rfl) ?_
            refine Rg.nil ?_
            refine Vc.seq ?_
            refine Vc.text (List.range 1) (sd [(0, .pure)]) rfl ?_
            refine Rg.pure rfl rfl rfl (Pv.assign rfl) ?_
            refine Rg.nil ?_
            refine Vc.seq ?_
            refine Vc.text (List.range 10) (sd [(0, .pure), (1, .pure), (2, .eff), (3, .pure), (4, .pure), (5, .pure), (6, .pure), (7, .pure), (8, .pure), (9, .pure)]) rfl ?_
            refine Rg.pure rfl rfl rfl (Pv.move rfl) ?_
            refine Rg.pure rfl rfl rfl (Pv.move rfl) ?_
            refine Rg.callH rfl rfl rfl (run_callF rfl) (fun F' hF' => use_tot F' hc xs[i]!.key (by omega) (by omega)) rfl ?_
            rintro _ s3 ⟨rfl, ck', hck', hc'⟩
            refine Rg.pure rfl rfl rfl (Pv.move rfl) ?_
            refine Rg.pure rfl rfl rfl (Pv.extract rfl rfl) ?_
            refine Rg.pure rfl rfl rfl (Pv.extract rfl rfl) ?_
            refine Rg.pure rfl rfl rfl (Pv.extract rfl rfl) ?_
            refine Rg.pure rfl rfl rfl (Pv.assign rfl) ?_
            refine Rg.pure rfl rfl rfl (Pv.assign rfl) ?_
            refine Rg.pure rfl rfl rfl (Pv.assign rfl) ?_
            refine Rg.nil ?_
            refine Vc.seq ?_
            refine Vc.text (List.range 10) (sd [(0, .pure), (1, .pure), (2, .eff), (3, .pure), (4, .pure), (5, .pure), (6, .pure), (7, .pure), (8, .pure), (9, .pure)]) rfl ?_
            refine Rg.pure rfl rfl rfl (Pv.move rfl) ?_
            refine Rg.pure rfl rfl rfl (Pv.move rfl) ?_
            refine Rg.callH rfl rfl rfl (run_callF rfl) (fun F' hF' => ruse_tot F' hr xs[i]!.key hnd (fun p h => by have := hpi p h; omega) (by omega) hfr) rfl ?_
            rintro _ s4 ⟨rfl, hr'⟩
            refine Rg.pure rfl rfl rfl (Pv.move rfl) ?_
            refine Rg.pure rfl rfl rfl (Pv.extract rfl rfl) ?_
            refine Rg.pure rfl rfl rfl (Pv.extract rfl rfl) ?_
            refine Rg.pure rfl rfl rfl (Pv.extract rfl rfl) ?_
            refine Rg.pure rfl rfl rfl (Pv.assign rfl) ?_
            refine Rg.pure rfl rfl rfl (Pv.assign rfl) ?_
            refine Rg.pure rfl rfl rfl (Pv.assign rfl) ?_
            refine Rg.nil ?_
            refine Vc.seq ?_
            refine Vc.text (List.range 8) (sd [(0, .pure), (1, .pure), (2, .pure), (3, .pure), (4, .pure), (5, .pure), (6, .pure), (7, .pure)]) rfl ?_
            refine Rg.pure rfl rfl rfl (Pv.move rfl) ?_
            refine Rg.pure rfl rfl rfl (Pv.move rfl) ?_
            refine Rg.pure rfl rfl rfl (Pv.neqS rfl rfl) ?_
            refine Rg.pure rfl rfl rfl (Pv.move rfl) ?_
            refine Rg.split (t := 68) rfl (fun h68 => absurd h68 (by simp)) (fun h68 => ?_)
            refine Rg.pure rfl rfl rfl (Pv.move rfl) ?_
            refine Rg.pure rfl rfl rfl (Pv.move rfl) ?_
            refine Rg.pure rfl rfl rfl (Pv.neqB rfl rfl) ?_
            refine Rg.pure rfl rfl rfl (Pv.pickF rfl rfl) ?_
            refine Rg.nil ?_
            refine Vc.cond rfl (fun h72 => absurd h72 (by simp)) (fun h72 => ?_)
            refine Vc.skip ?_
            exact Vc.inv4 _ _ s3 s4 ⟨⟨ck', by omega, hc'⟩, hr', stepU_room hfr, by have := stepU_length zs fr L xs[i]!.key; omega, stepU_pins hpj⟩ (.cons rfl (.cons rfl (.cons rfl (.cons rfl (.cons rfl (.cons rfl (.cons rfl (.cons rfl .nil)))))))) pulled
          ·
            refine Vc.seq ?_
            refine Vc.text (List.range 2) (sd [(0, .pure), (1, .pure)]) rfl ?_
            refine Rg.pure rfl rfl rfl (Pv.eql rfl rfl) ?_
            refine Rg.pure rfl rfl rfl (Pv.assign rfl) ?_
            refine Rg.nil ?_
            refine Vc.cond rfl (fun h73 => ?_) (fun h73 => ?_)
            ·
              refine Vc.seq ?_
              refine Vc.text (List.range 4) (sd [(0, .pure), (1, .pure), (2, .eff), (3, .pure)]) rfl ?_
              refine Rg.pure rfl rfl rfl (Pv.move rfl) ?_
              refine Rg.pure rfl rfl rfl (Pv.move rfl) ?_
              refine Rg.callH rfl rfl rfl (run_callF rfl) (fun F' hF' => pin_specs F' hc xs[i]!.key (fun p h => by have := hpi p h; omega)) rfl ?_
              rintro _ s3 ⟨rfl, hc'⟩
              refine Rg.pure rfl rfl rfl (Pv.assign rfl) ?_
              refine Rg.nil ?_
              refine Vc.text (List.range 4) (sd [(0, .pure), (1, .pure), (2, .eff), (3, .pure)]) rfl ?_
              refine Rg.pure rfl rfl rfl (Pv.move rfl) ?_
              refine Rg.pure rfl rfl rfl (Pv.move rfl) ?_
              refine Rg.callH rfl rfl rfl (run_callF rfl) (fun F' hF' => rpin_spec F' hr xs[i]!.key hnd (fun p h => by have := hpi p h; omega) (by omega)) rfl ?_
              rintro _ s4 ⟨rfl, hr'⟩
              refine Rg.pure rfl rfl rfl (Pv.assign rfl) ?_
              refine Rg.nil ?_
              exact Vc.inv4 _ _ s3 s4 ⟨⟨ck, by omega, hc'⟩, hr', by rw [if_setK_len]; exact hfr, by rw [if_setK_len]; omega, if_setK_pins hpj (by have := pinsK_le (k := xs[i]!.key) hpi; omega)⟩ (.cons rfl (.cons rfl (.cons rfl (.cons rfl (.cons rfl (.cons rfl (.cons rfl (.cons rfl .nil)))))))) pulled
            ·
              refine Vc.seq ?_
              refine Vc.text (List.range 2) (sd [(0, .pure), (1, .pure)]) rfl ?_
              refine Rg.pure rfl rfl rfl (Pv.eql rfl rfl) ?_
              refine Rg.pure rfl rfl rfl (Pv.assign rfl) ?_
              refine Rg.nil ?_
              refine Vc.cond rfl (fun h81 => ?_) (fun h81 => ?_)
              ·
                refine Vc.seq ?_
                refine Vc.text (List.range 4) (sd [(0, .pure), (1, .pure), (2, .eff), (3, .pure)]) rfl ?_
                refine Rg.pure rfl rfl rfl (Pv.move rfl) ?_
                refine Rg.pure rfl rfl rfl (Pv.move rfl) ?_
                refine Rg.callH rfl rfl rfl (run_callF rfl) (fun F' hF' => unpin_specs F' hc xs[i]!.key (fun p h => by have := hpi p h; omega)) rfl ?_
                rintro _ s3 ⟨rfl, hc'⟩
                refine Rg.pure rfl rfl rfl (Pv.assign rfl) ?_
                refine Rg.nil ?_
                refine Vc.text (List.range 4) (sd [(0, .pure), (1, .pure), (2, .eff), (3, .pure)]) rfl ?_
                refine Rg.pure rfl rfl rfl (Pv.move rfl) ?_
                refine Rg.pure rfl rfl rfl (Pv.move rfl) ?_
                refine Rg.callH rfl rfl rfl (run_callF rfl) (fun F' hF' => runpin_spec F' hr xs[i]!.key hnd (fun p h => by have := hpi p h; omega) (by omega)) rfl ?_
                rintro _ s4 ⟨rfl, hr'⟩
                refine Rg.pure rfl rfl rfl (Pv.assign rfl) ?_
                refine Rg.nil ?_
                exact Vc.inv4 _ _ s3 s4 ⟨⟨ck, by omega, hc'⟩, hr', by rw [if_setK_len]; exact hfr, by rw [if_setK_len]; omega, if_setK_pins hpj (by have := pinsK_le (k := xs[i]!.key) hpi; omega)⟩ (.cons rfl (.cons rfl (.cons rfl (.cons rfl (.cons rfl (.cons rfl (.cons rfl (.cons rfl .nil)))))))) pulled
              ·
                refine Vc.seq ?_
                refine Vc.text (List.range 2) (sd [(0, .pure), (1, .pure)]) rfl ?_
                refine Rg.pure rfl rfl rfl (Pv.eql rfl rfl) ?_
                refine Rg.pure rfl rfl rfl (Pv.assign rfl) ?_
                refine Rg.nil ?_
                refine Vc.cond rfl (fun h89 => ?_) (fun h89 => ?_)
                ·
                  refine Vc.seq ?_
                  refine Vc.text (List.range 4) (sd [(0, .pure), (1, .pure), (2, .eff), (3, .pure)]) rfl ?_
                  refine Rg.pure rfl rfl rfl (Pv.move rfl) ?_
                  refine Rg.pure rfl rfl rfl (Pv.move rfl) ?_
                  refine Rg.callH rfl rfl rfl (run_callF rfl) (fun F' hF' => drop_specs F' hc xs[i]!.key) rfl ?_
                  rintro _ s3 ⟨rfl, hc'⟩
                  refine Rg.pure rfl rfl rfl (Pv.assign rfl) ?_
                  refine Rg.nil ?_
                  refine Vc.text (List.range 4) (sd [(0, .pure), (1, .pure), (2, .eff), (3, .pure)]) rfl ?_
                  refine Rg.pure rfl rfl rfl (Pv.move rfl) ?_
                  refine Rg.pure rfl rfl rfl (Pv.move rfl) ?_
                  refine Rg.callH rfl rfl rfl (run_callF rfl) (fun F' hF' => rdrop_spec F' hr xs[i]!.key hnd (fun p h => by have := hpi p h; omega) (by omega)) rfl ?_
                  rintro _ s4 ⟨rfl, hr'⟩
                  refine Rg.pure rfl rfl rfl (Pv.assign rfl) ?_
                  refine Rg.nil ?_
                  exact Vc.inv4 _ _ s3 s4 ⟨⟨ck, by omega, hc'⟩, hr', by have := if_dropK_len (L := L) (k := xs[i]!.key); omega, by have := if_dropK_len (L := L) (k := xs[i]!.key); omega, if_dropK_pins hpj⟩ (.cons rfl (.cons rfl (.cons rfl (.cons rfl (.cons rfl (.cons rfl (.cons rfl (.cons rfl .nil)))))))) pulled
                ·
                  refine Vc.skip ?_
                  exact Vc.inv4 _ _ s1 s2 ⟨⟨ck, by omega, hc⟩, hr, hfr, by omega, hpj⟩ (.cons rfl (.cons rfl (.cons rfl (.cons rfl (.cons rfl (.cons rfl (.cons rfl (.cons rfl .nil)))))))) pulled
        ·
          rintro e M s3 s4 ⟨⟨ck', hck', hc'⟩, hr', hfr', hLi', hpi'⟩
          have hr2 := hr'
          obtain ⟨vL, vP, sL, sP, ownL, ownP, rfl⟩ := hr'
          refine Vc.blk ?_
          refine Vc.seq ?_
          refine Vc.draw [] (sd [(0, .pure), (1, .pure), (2, .pure), (3, .pure), (4, .pure), (6, .pure), (7, .pure), (8, .pure), (9, .read), (5, .eff), (10, .eff), (11, .pure), (12, .pure), (13, .pure), (14, .pure), (15, .pure), (17, .pure), (18, .pure), (16, .eff), (19, .eff), (20, .pure), (21, .pure)]) mixed (by kernel_rfl) ?_
          refine Rg.pure rfl rfl rfl (Pv.move rfl) ?_
          refine Rg.pure rfl rfl rfl (Pv.move rfl) ?_
          refine Rg.pure rfl rfl rfl (Pv.neq rfl rfl) ?_
          refine Rg.pure rfl rfl rfl (Pv.move rfl) ?_
          refine Rg.split (t := 100) rfl (fun h100 => absurd h100 (by simp)) (fun h100 => ?_)
          refine Rg.pure rfl rfl rfl (Pv.move rfl) ?_
          refine Rg.pure rfl rfl rfl (Pv.move rfl) ?_
          refine Rg.pure rfl rfl rfl (Pv.nilp rfl) ?_
          refine Rg.pure rfl rfl rfl (Pv.fa rfl) ?_
          refine Rg.read rfl rfl rfl (Ev.ld rfl rfl) ?_
          refine Rg.callA rfl rfl rfl (run_callF rfl) (keys_specs hc' frz_sb (by omega) (by omega)) ?_
          rintro v102 s102 own102
          refine Rg.callP rfl rfl rfl (run_callF rfl) (same_spec (Arg.own own102 frz_sb) (Arg.own ownL frz_sb) (by simp; omega)) ?_
          rintro _ rfl
          refine Rg.pure rfl rfl rfl (Pv.not rfl) ?_
          refine Rg.pure rfl rfl rfl (Pv.pickF rfl rfl) ?_
          refine Rg.pure rfl rfl rfl (Pv.move rfl) ?_
          refine Rg.split (t := 110) rfl (fun h110 => absurd h110 (by simp)) (fun h110 => ?_)
          refine Rg.pure rfl rfl rfl (Pv.move rfl) ?_
          refine Rg.pure rfl rfl rfl (Pv.move rfl) ?_
          refine Rg.pure rfl rfl rfl (Pv.move rfl) ?_
          refine Rg.pure rfl rfl rfl (Pv.move rfl) ?_
          refine Rg.callP rfl rfl rfl (run_callF rfl) (has_specs hc' frz_sb key) ?_
          rintro _ rfl
          refine Rg.callP rfl rfl rfl (run_callF rfl) (rhas_spec hr2 frz_sb key (by omega)) ?_
          rintro _ rfl
          refine Rg.pure rfl rfl rfl (Pv.neqB rfl rfl) ?_
          refine Rg.pure rfl rfl rfl (Pv.pickF rfl rfl) ?_
          refine Rg.nil ?_
          refine Vc.cond rfl (fun h118 => absurd h118 (by simp)) (fun h118 => ?_)
          refine Vc.skip ?_
          refine Vc.blk ?_
          refine Vc.text (List.range 3) (sd [(0, .pure), (1, .pure), (2, .pure)]) rfl ?_
          refine Rg.pure rfl rfl rfl (Pv.move rfl) ?_
          refine Rg.pure rfl rfl rfl (Pv.asI (i + 1) (Pv.add rfl rfl (by omega)) (by omega)) ?_
          refine Rg.pure rfl rfl rfl (Pv.assign rfl) ?_
          refine Rg.nil ?_
          exact Vc.inv4 (i + 1) M s3 _ ⟨⟨by omega, ⟨ck', hck', hc'⟩, hr2, hfr', hLi', hpi'⟩, by omega⟩ (.cons rfl (.cons rfl (.cons rfl (.cons rfl (.cons rfl (.cons rfl .nil)))))) pulled
    ·
      refine Vc.exit rfl ?_
      refine Vc.seq ?_
      refine Vc.text (List.range 2) (sd [(0, .pure), (1, .pure)]) rfl ?_
      refine Rg.pure rfl rfl rfl (Pv.move rfl) ?_
      refine Rg.pure rfl rfl rfl (Pv.assign rfl) ?_
      refine Rg.nil ?_
      refine Vc.ret (Vc.rets rfl (.cons (.tmp rfl) (.nil)) ?_)
      rfl
end Go.Proofs.Ytigkckpjbnflpaa
