/- Caches whose keys are of one type: New, Pin, Unpin, Drop, and what Use leans on. -/
import Derived.Test.YtigkckpjbnflpaaLuBs
namespace Go.Proofs.Ytigkckpjbnflpaa
set_option linter.unusedVariables false

def idxI {α : Type} (p : α → Bool) : List α → Nat → Int
  | [], _ => -1
  | x :: l, i => if p x = true then (i : Int) else idxI p l (i + 1)
theorem idxI_spec {α : Type} (p : α → Bool) : ∀ (xs : List α) (i : Nat), (idxI p xs i = -1 ∧ ∀ x ∈ xs, p x = false) ∨ ∃ A x B, xs = A ++ x :: B ∧ (∀ a ∈ A, p a = false) ∧ p x = true ∧ idxI p xs i = ((i + A.length : Nat) : Int)
  | [], i => .inl ⟨rfl, fun x h => by cases h⟩
  | x :: l, i => by
    cases hp : p x with
    | true => exact .inr ⟨[], x, l, rfl, fun a h => (by cases h), hp, by simp [idxI, hp]⟩
    | false =>
      have e : idxI p (x :: l) i = idxI p l (i + 1) := by simp [idxI, hp]
      rw [e]
      rcases idxI_spec p l (i + 1) with ⟨h1, h2⟩ | ⟨A, y, B, rfl, h2, h3, h4⟩
      · exact .inl ⟨h1, fun y hy => by rcases List.mem_cons.1 hy with rfl | hy; exact hp; exact h2 y hy⟩
      · exact .inr ⟨x :: A, y, B, rfl, fun a ha => by rcases List.mem_cons.1 ha with rfl | ha; exact hp; exact h2 a ha, h3, by rw [h4, List.length_cons]; congr 1; omega⟩

theorem idx_specs {F : Fm} {v : Value} {xs : List KTs} (ha : Arg keyEs F v xs) (p : KTs → Bool) (g : Nat) (cs : List Value) [hg : TyCall Try.prog g] (hn : xs.length < 4611686018427387904)
    (hs : ∀ F' : Fm, (∀ b o, F.at_ b o → F'.at_ b o) → ∀ x ∈ xs, Spec Try.prog g (kvs x :: cs).toArray F' [] fun v _ => v = .bool (p x)) :
    Spec Try.prog 32 #[v, .func (.func g) #[] cs.toArray] F [] fun v _ => v = .int .i64 (idxI p xs 0) := by
  obtain ⟨q, c, rfl⟩ := ha.shape
  refine Spec.of (n := 19) (vs := [.slice q xs.length c, .func (.func g) #[] cs.toArray]) Try.func32 rfl Try.ntmps32 rfl ?_
  refine Vc.seq ?_
  refine Vc.text (List.range 1) (sd [(0, .pure)]) rfl ?_
  refine Rg.pure rfl rfl rfl (Pv.assign rfl) ?_
  refine Rg.nil ?_
  refine Vc.seq ?_
  refine Vc.seq ?_
  refine Vc.text (List.range 3) (sd [(0, .pure), (1, .pure), (2, .pure)]) rfl ?_
  refine Rg.pure rfl rfl rfl (Pv.move rfl) ?_
  refine Rg.pure rfl rfl rfl (Pv.lenS rfl) ?_
  refine Rg.pure rfl rfl rfl (Pv.move rfl) ?_
  refine Rg.nil ?_
  refine Vc.block ?_
  refine Vc.loop1 (fun (i : Nat) => i ≤ xs.length ∧ idxI p xs 0 = idxI p (xs.drop i) i) (fun i => [(0, .slice q xs.length c), (1, .func (.func g) #[] cs.toArray), (7, .int .i64 (xs.length : Int)), (8, .int .i64 (i : Int))]) (fun i => []) (fun i => xs.length - i) 0 ⟨Nat.zero_le _, rfl⟩ (.cons rfl (.cons rfl (.cons rfl (.cons rfl .nil)))) pulled ?_
  rintro i ⟨h1, h2⟩
  refine Vc.seq ?_
  refine Vc.text (List.range 1) (sd [(0, .pure)]) rfl ?_
  refine Rg.pure rfl rfl rfl (Pv.lss rfl rfl) ?_
  refine Rg.nil ?_
  refine Vc.seq ?_
  refine Vc.cond rfl (fun h9 => ?_) (fun h9 => ?_)
  ·
    simp only [decide_eq_true_eq] at h9
    obtain ⟨b, off, c', e, _⟩ := ha.block (by omega)
    cases e
    have hd : xs.drop i = xs[i]! :: xs.drop (i + 1) := by rw [getElem!_pos xs i (by omega)]; exact List.drop_eq_getElem_cons (by omega)
    rw [hd] at h2
    refine Vc.skip ?_
    refine Vc.seq ?_
    refine Vc.block ?_
    refine Vc.seq ?_
    refine Vc.text (List.range 2) (sd [(0, .pure), (1, .pure)]) rfl ?_
    refine Rg.pure rfl rfl rfl (Pv.move rfl) ?_
    refine Rg.pure rfl rfl rfl (Pv.assign rfl) ?_
    refine Rg.nil ?_
    refine Vc.seq ?_
    refine Vc.text (List.range 6) (sd [(0, .pure), (1, .pure), (2, .pure), (3, .pure), (4, .read), (5, .eff)]) rfl ?_
    refine Rg.pure rfl rfl rfl (Pv.move rfl) ?_
    refine Rg.pure rfl rfl rfl (Pv.move rfl) ?_
    refine Rg.pure rfl rfl rfl (Pv.move rfl) ?_
    refine Rg.pure rfl rfl rfl (Pv.ixA (i) rfl rfl (by omega) (by omega)) ?_
    refine Rg.read rfl rfl rfl (Ev.ldS (i) (ha.src) rfl rfl rfl (by omega)) ?_
    refine Rg.callP rfl rfl rfl (run_callV rfl rfl) (hs _ (fun _ _ h => Or.inr h) xs[i]! (by rw [getElem!_pos xs i (by omega)]; exact List.getElem_mem _)) ?_
    rintro _ rfl
    refine Rg.nil ?_
    refine Vc.cond rfl (fun h16 => ?_) (fun h16 => ?_)
    ·
      refine Vc.seq ?_
      refine Vc.text (List.range 2) (sd [(0, .pure), (1, .pure)]) rfl ?_
      refine Rg.pure rfl rfl rfl (Pv.move rfl) ?_
      refine Rg.pure rfl rfl rfl (Pv.assign rfl) ?_
      refine Rg.nil ?_
      refine Vc.ret (Vc.rets rfl (.cons (.tmp rfl) (.nil)) ?_)
      exact congrArg (Value.int .i64) (by rw [h2, idxI, if_pos h16])
    ·
      refine Vc.skip ?_
      refine Vc.blk ?_
      refine Vc.text (List.range 2) (sd [(0, .pure), (1, .pure)]) rfl ?_
      refine Rg.pure rfl rfl rfl (Pv.asI (i + 1) (Pv.add rfl rfl (by omega)) (by omega)) ?_
      refine Rg.pure rfl rfl rfl (Pv.move rfl) ?_
      refine Rg.nil ?_
      exact Vc.inv1 (i + 1) ⟨⟨by omega, by rw [h2, idxI, if_neg (by rw [h16]; simp)]⟩, by omega⟩ (.cons rfl (.cons rfl (.cons rfl (.cons rfl .nil)))) pulled
  ·
    simp only [decide_eq_false_iff_not] at h9
    rw [List.drop_eq_nil_of_le (by omega)] at h2
    refine Vc.exit rfl ?_
    refine Vc.seq ?_
    refine Vc.text (List.range 1) (sd [(0, .pure)]) rfl ?_
    refine Rg.pure rfl rfl rfl (Pv.assign rfl) ?_
    refine Rg.nil ?_
    refine Vc.ret (Vc.rets rfl (.cons (.tmp rfl) (.nil)) ?_)
    exact congrArg (Value.int .i64) h2.symm

/-- Is a key's pin count 0? -/
theorem free_specs {F : Fm} {cb fr ck mb mc b2 : Nat} {es us : List (Ce KTs)} (hg : Good ck mc es us)
    [f1 : Fat F b2 (cellsO [.pointer (some ⟨cb, 0, none⟩)] 24)] [f2 : Fat F cb (cellsO [.int .i64 (fr : Int), .int .i64 (ck : Int), .map (some mb)] 56)] [f3 : Fat F mb (mapO kvs (es.map meC) mc)]
    (hF : ∀ e ∈ us, F.at_ e.blk (cellsO [.int .i64 (e.used : Int), .int .i64 (e.pins : Int)] 59)) (x : Ce KTs) (hx : x ∈ us) :
    Spec Try.prog 33 #[kvs x.k, .pointer (some ⟨b2, 0, none⟩)] F [] fun v _ => v = .bool (decide (x.pins = 0)) := by
  have : Fat F x.blk (cellsO [.int .i64 (x.used : Int), .int .i64 (x.pins : Int)] 59) := ⟨hF x hx⟩
  have ex : ((findM (es.map meC) x.k).map (·.v)).getD (.pointer none) = .pointer (some ⟨x.blk, 0, none⟩) := by
    rw [findM_some hg.nodup (List.mem_map.2 ⟨x, hg.perm.mem_iff.2 hx, rfl⟩) rfl]; rfl
  refine Spec.of (n := 14) (vs := [kvs x.k, .pointer (some ⟨b2, 0, none⟩)]) Try.func33 rfl Try.ntmps33 rfl ?_
  refine Vc.seq ?_
  refine Vc.text (List.range 1) (sd [(0, .pure)]) rfl ?_
  refine Rg.pure rfl rfl rfl (Pv.assign rfl) ?_
  refine Rg.nil ?_
  refine Vc.seq ?_
  refine Vc.text (List.range 11) (sd [(0, .read), (1, .pure), (2, .pure), (3, .read), (4, .pure), (5, .read), (6, .pure), (7, .pure), (8, .read), (9, .pure), (10, .pure)]) rfl ?_
  refine Rg.read rfl rfl rfl (Ev.ld rfl rfl) ?_
  refine Rg.pure rfl rfl rfl (Pv.nilp rfl) ?_
  refine Rg.pure rfl rfl rfl (Pv.fa rfl) ?_
  refine Rg.read rfl rfl rfl (Ev.ld rfl rfl) ?_
  refine Rg.pure rfl rfl rfl (Pv.move rfl) ?_
  refine Rg.read rfl rfl rfl (Ev.as (.pointer (some ⟨x.blk, 0, none⟩)) (Ev.lookup rfl rfl hg.nodup) ex) ?_
  refine Rg.pure rfl rfl rfl (Pv.nilp rfl) ?_
  refine Rg.pure rfl rfl rfl (Pv.fa rfl) ?_
  refine Rg.read rfl rfl rfl (Ev.ld rfl rfl) ?_
  refine Rg.pure rfl rfl rfl (Pv.eql rfl rfl) ?_
  refine Rg.pure rfl rfl rfl (Pv.assign rfl) ?_
  refine Rg.nil ?_
  refine Vc.ret (Vc.rets rfl (.cons (.tmp rfl) (.nil)) ?_)
  exact congrArg Value.bool (by rw [Bool.eq_iff_iff]; simp)

theorem new_specs (F : Fm) (z : Int) (hz : z ≤ 9223372036854775807) : Spec Try.prog 11 #[.int .i64 z] F [] fun v hl' => ∃ cb, v = .pointer (some ⟨cb, 0, none⟩) ∧ Caches cb (max z 1).toNat 0 [] hl' := by
  refine Spec.of (n := 8) (vs := [.int .i64 z]) Try.func11 rfl Try.ntmps11 rfl ?_
  refine Vc.seq ?_
  refine Vc.text (List.range 1) (sd [(0, .pure)]) rfl ?_
  refine Rg.pure rfl rfl rfl (Pv.assign rfl) ?_
  refine Rg.nil ?_
  refine Vc.seq ?_
  refine Vc.text (List.range 6) (sd [(0, .pure), (1, .pure), (2, .eff), (3, .pure), (4, .eff), (5, .pure)]) rfl ?_
  refine Rg.pure rfl rfl rfl (Pv.move rfl) ?_
  refine Rg.pure rfl rfl rfl (Pv.asI ((max z 1).toNat) (Pv.max rfl rfl) (by omega)) ?_
  refine Rg.makeMap kvs rfl rfl rfl (fun b5 => ?_)
  refine Rg.pure rfl rfl rfl (Pv.build (c := #[.int .i64 ((max z 1).toNat : Int), .int .i64 ((0 : Nat) : Int), .map (some b5)]) rfl rfl) ?_
  refine Rg.box rfl rfl rfl rfl rfl (fun b7 => ?_)
  refine Rg.pure rfl rfl rfl (Pv.assign rfl) ?_
  refine Rg.nil ?_
  exact Vc.ret (Vc.retsH (hl' := [(b7, cellsO [.int .i64 ((max z 1).toNat : Int), .int .i64 ((0 : Nat) : Int), .map (some b5)] 56), (b5, mapO kvs [] 0)]) rfl (.cons (.tmp rfl) .nil) ⟨b7, rfl, b5, 0, [], [], .refl _, ⟨.refl _, .nil, .nil, fun e h => (by cases h), .nil, fun e h => (by cases h)⟩, rfl⟩ pulled)

theorem on_nones {F : Fm} {pre : Hl} {cb fr ck mb mc : Nat} {es us : List (Ce KTs)} (hg : Good ck mc es us) {key : KTs} (hk : hasK (viewC us) key = false) (fv : Value)
    [f2 : Has F pre cb (cellsO [.int .i64 (fr : Int), .int .i64 (ck : Int), .map (some mb)] 56)] [f3 : Has F pre mb (mapO kvs (es.map meC) mc)] :
    Spec Try.prog 36 #[.pointer (some ⟨cb, 0, none⟩), kvs key, fv] F pre fun v hl' => v = .int .i64 4 := by
  have ex : ((findM (es.map meC) key).map (·.v)).getD (.pointer none) = .pointer none := by
    rcases hg.look key with ⟨_, h2⟩ | ⟨e, _, _, h1, _⟩
    · rw [h2]; rfl
    · rw [hk] at h1; cases h1
  refine Spec.of (n := 19) (vs := [.pointer (some ⟨cb, 0, none⟩), kvs key, fv]) Try.func36 rfl Try.ntmps36 rfl ?_
  refine Vc.seq ?_
  refine Vc.text (List.range 1) (sd [(0, .pure)]) rfl ?_
  refine Rg.pure rfl rfl rfl (Pv.assign rfl) ?_
  refine Rg.nil ?_
  refine Vc.seq ?_
  refine Vc.seq ?_
  refine Vc.text (List.range 7) (sd [(0, .pure), (1, .pure), (2, .pure), (3, .read), (4, .pure), (5, .read), (6, .pure)]) rfl ?_
  refine Rg.pure rfl rfl rfl (Pv.move rfl) ?_
  refine Rg.pure rfl rfl rfl (Pv.nilp rfl) ?_
  refine Rg.pure rfl rfl rfl (Pv.fa rfl) ?_
  refine Rg.read rfl rfl rfl (Ev.ld rfl rfl) ?_
  refine Rg.pure rfl rfl rfl (Pv.move rfl) ?_
  refine Rg.read rfl rfl rfl (Ev.as (.pointer none) (Ev.lookup rfl rfl hg.nodup) ex) ?_
  refine Rg.pure rfl rfl rfl (Pv.assign rfl) ?_
  refine Rg.nil ?_
  refine Vc.seq ?_
  refine Vc.text (List.range 2) (sd [(0, .pure), (1, .pure)]) rfl ?_
  refine Rg.pure rfl rfl rfl (Pv.move rfl) ?_
  refine Rg.pure rfl rfl rfl (Pv.neqNil rfl rfl) ?_
  refine Rg.nil ?_
  refine Vc.cond rfl (fun h15 => absurd h15 (by simp)) (fun h15 => ?_)
  refine Vc.skip ?_
  refine Vc.seq ?_
  refine Vc.text (List.range 1) (sd [(0, .pure)]) rfl ?_
  refine Rg.pure rfl rfl rfl (Pv.assign rfl) ?_
  refine Rg.nil ?_
  refine Vc.ret (Vc.rets rfl (.cons (.tmp rfl) (.nil)) ?_)
  rfl
theorem on_somes {F : Fm} {pre : Hl} {cb fr ck mb mc : Nat} {es us : List (Ce KTs)} (hg : Good ck mc es us) {e : Ce KTs} (he : e ∈ us) (g : Nat) (cs : List Value) {post : Value → Hl → Prop} [hgc : TyCall Try.prog g]
    [f2 : Has F pre cb (cellsO [.int .i64 (fr : Int), .int .i64 (ck : Int), .map (some mb)] 56)] [f3 : Has F pre mb (mapO kvs (es.map meC) mc)]
    (hs : ∀ F' : Fm, (∀ b o, F.at_ b o → F'.at_ b o) → Spec Try.prog g (.pointer (some ⟨e.blk, 0, none⟩) :: cs).toArray F' pre post) :
    Spec Try.prog 36 #[.pointer (some ⟨cb, 0, none⟩), kvs e.k, .func (.func g) #[] cs.toArray] F pre post := by
  have ex : ((findM (es.map meC) e.k).map (·.v)).getD (.pointer none) = .pointer (some ⟨e.blk, 0, none⟩) := by
    rw [findM_some hg.nodup (List.mem_map.2 ⟨e, hg.perm.mem_iff.2 he, rfl⟩) rfl]; rfl
  refine Spec.of (n := 19) (vs := [.pointer (some ⟨cb, 0, none⟩), kvs e.k, .func (.func g) #[] cs.toArray]) Try.func36 rfl Try.ntmps36 rfl ?_
  refine Vc.seq ?_
  refine Vc.text (List.range 1) (sd [(0, .pure)]) rfl ?_
  refine Rg.pure rfl rfl rfl (Pv.assign rfl) ?_
  refine Rg.nil ?_
  refine Vc.seq ?_
  refine Vc.seq ?_
  refine Vc.text (List.range 7) (sd [(0, .pure), (1, .pure), (2, .pure), (3, .read), (4, .pure), (5, .read), (6, .pure)]) rfl ?_
  refine Rg.pure rfl rfl rfl (Pv.move rfl) ?_
  refine Rg.pure rfl rfl rfl (Pv.nilp rfl) ?_
  refine Rg.pure rfl rfl rfl (Pv.fa rfl) ?_
  refine Rg.read rfl rfl rfl (Ev.ld rfl rfl) ?_
  refine Rg.pure rfl rfl rfl (Pv.move rfl) ?_
  refine Rg.read rfl rfl rfl (Ev.as (.pointer (some ⟨e.blk, 0, none⟩)) (Ev.lookup rfl rfl hg.nodup) ex) ?_
  refine Rg.pure rfl rfl rfl (Pv.assign rfl) ?_
  refine Rg.nil ?_
  refine Vc.seq ?_
  refine Vc.text (List.range 2) (sd [(0, .pure), (1, .pure)]) rfl ?_
  refine Rg.pure rfl rfl rfl (Pv.move rfl) ?_
  refine Rg.pure rfl rfl rfl (Pv.neqNil rfl rfl) ?_
  refine Rg.nil ?_
  refine Vc.cond rfl (fun h15 => ?_) (fun h15 => absurd h15 (by simp))
  refine Vc.seq ?_
  refine Vc.text (List.range 4) (sd [(0, .pure), (1, .pure), (2, .eff), (3, .pure)]) rfl ?_
  refine Rg.pure rfl rfl rfl (Pv.move rfl) ?_
  refine Rg.pure rfl rfl rfl (Pv.move rfl) ?_
  refine Rg.callH rfl rfl rfl (run_callV rfl rfl) (fun F' hF' => hs F' (fun b o h => hF' b o (.inr h))) rfl ?_
  rintro v18 s18 h18
  refine Rg.pure rfl rfl rfl (Pv.assign rfl) ?_
  refine Rg.nil ?_
  exact Vc.ret (Vc.retsH rfl (.cons (.tmp rfl) (.nil)) (h18) pulled)

theorem pinc_specs {F : Fm} {b used pins : Nat} (hp : pins < 4611686018427387904) :
    Spec Try.prog 37 #[.pointer (some ⟨b, 0, none⟩)] F [(b, cellsO [.int .i64 (used : Int), .int .i64 (pins : Int)] 59)] fun v hl' => v = .int .i64 0 ∧ hl' = [(b, cellsO [.int .i64 (used : Int), .int .i64 ((pins + 1 : Nat) : Int)] 59)] := by
  refine Spec.of (n := 10) (vs := [.pointer (some ⟨b, 0, none⟩)]) Try.func37 rfl Try.ntmps37 rfl ?_
  refine Vc.seq ?_
  refine Vc.text (List.range 1) (sd [(0, .pure)]) rfl ?_
  refine Rg.pure rfl rfl rfl (Pv.assign rfl) ?_
  refine Rg.nil ?_
  refine Vc.seq ?_
  refine Vc.text (List.range 8) (sd [(0, .pure), (1, .pure), (2, .pure), (3, .read), (4, .pure), (5, .pure), (6, .pure), (7, .eff)]) rfl ?_
  refine Rg.pure rfl rfl rfl (Pv.move rfl) ?_
  refine Rg.pure rfl rfl rfl (Pv.nilp rfl) ?_
  refine Rg.pure rfl rfl rfl (Pv.fa rfl) ?_
  refine Rg.read rfl rfl rfl (Ev.ld rfl rfl) ?_
  refine Rg.pure rfl rfl rfl (Pv.asI (pins + 1) (Pv.add rfl rfl (by omega)) (by omega)) ?_
  refine Rg.pure rfl rfl rfl (Pv.nilp rfl) ?_
  refine Rg.pure rfl rfl rfl (Pv.fa rfl) ?_
  refine Rg.store rfl rfl rfl rfl rfl rfl rfl rfl ?_
  refine Rg.nil ?_
  refine Vc.seq ?_
  refine Vc.text (List.range 1) (sd [(0, .pure)]) rfl ?_
  refine Rg.pure rfl rfl rfl (Pv.assign rfl) ?_
  refine Rg.nil ?_
  exact Vc.ret (Vc.retsH rfl (.cons (.tmp rfl) (.nil)) (⟨rfl, rfl⟩) pulled)
theorem unpinc_specs {F : Fm} {b used pins : Nat} (hp : pins < 4611686018427387904) :
    Spec Try.prog 38 #[.pointer (some ⟨b, 0, none⟩)] F [(b, cellsO [.int .i64 (used : Int), .int .i64 (pins : Int)] 59)] fun v hl' => v = .int .i64 (if pins = 0 then 9 else 0) ∧ hl' = [(b, cellsO [.int .i64 (used : Int), .int .i64 ((pins - 1 : Nat) : Int)] 59)] := by
  refine Spec.of (n := 15) (vs := [.pointer (some ⟨b, 0, none⟩)]) Try.func38 rfl Try.ntmps38 rfl ?_
  refine Vc.seq ?_
  refine Vc.text (List.range 1) (sd [(0, .pure)]) rfl ?_
  refine Rg.pure rfl rfl rfl (Pv.assign rfl) ?_
  refine Rg.nil ?_
  refine Vc.seq ?_
  refine Vc.seq ?_
  refine Vc.text (List.range 5) (sd [(0, .pure), (1, .pure), (2, .pure), (3, .read), (4, .pure)]) rfl ?_
  refine Rg.pure rfl rfl rfl (Pv.move rfl) ?_
  refine Rg.pure rfl rfl rfl (Pv.nilp rfl) ?_
  refine Rg.pure rfl rfl rfl (Pv.fa rfl) ?_
  refine Rg.read rfl rfl rfl (Ev.ld rfl rfl) ?_
  refine Rg.pure rfl rfl rfl (Pv.eql rfl rfl) ?_
  refine Rg.nil ?_
  refine Vc.cond rfl (fun h7 => ?_) (fun h7 => ?_)
  ·
    simp only [beq_iff_eq] at h7
    have e0 : pins = 0 := (by omega)
    subst e0
    refine Vc.seq ?_
    refine Vc.text (List.range 1) (sd [(0, .pure)]) rfl ?_
    refine Rg.pure rfl rfl rfl (Pv.assign rfl) ?_
    refine Rg.nil ?_
    exact Vc.ret (Vc.retsH rfl (.cons (.tmp rfl) (.nil)) (⟨rfl, rfl⟩) pulled)
  ·
    simp only [beq_eq_false_iff_ne, ne_eq] at h7
    have e0 : ¬ pins = 0 := (by omega)
    refine Vc.skip ?_
    refine Vc.seq ?_
    refine Vc.text (List.range 8) (sd [(0, .pure), (1, .pure), (2, .pure), (3, .read), (4, .pure), (5, .pure), (6, .pure), (7, .eff)]) rfl ?_
    refine Rg.pure rfl rfl rfl (Pv.move rfl) ?_
    refine Rg.pure rfl rfl rfl (Pv.nilp rfl) ?_
    refine Rg.pure rfl rfl rfl (Pv.fa rfl) ?_
    refine Rg.read rfl rfl rfl (Ev.ld rfl rfl) ?_
    refine Rg.pure rfl rfl rfl (Pv.asI (pins - 1) (Pv.sub rfl rfl (by omega)) (by omega)) ?_
    refine Rg.pure rfl rfl rfl (Pv.nilp rfl) ?_
    refine Rg.pure rfl rfl rfl (Pv.fa rfl) ?_
    refine Rg.store rfl rfl rfl rfl rfl rfl rfl rfl ?_
    refine Rg.nil ?_
    refine Vc.seq ?_
    refine Vc.text (List.range 1) (sd [(0, .pure)]) rfl ?_
    refine Rg.pure rfl rfl rfl (Pv.assign rfl) ?_
    refine Rg.nil ?_
    exact Vc.ret (Vc.retsH rfl (.cons (.tmp rfl) (.nil)) (⟨congrArg (Value.int .i64) (if_neg e0).symm, rfl⟩) pulled)
theorem dropc_specs {F : Fm} {b used pins b2 b3 cb mb fr ck mc : Nat} {ms : List (Me KTs)} {key : KTs} (hn : (ms.map (·.k)).Nodup) (hin : ∃ m ∈ ms, m.k = key)
    [f1 : Fat F b2 (cellsO [.pointer (some ⟨cb, 0, none⟩)] 24)] [f2 : Fat F cb (cellsO [.int .i64 (fr : Int), .int .i64 (ck : Int), .map (some mb)] 56)] [f3 : Fat F b3 (cellsO [kvs key] 9)] [f4 : Fat F b (cellsO [.int .i64 (used : Int), .int .i64 (pins : Int)] 59)] :
    Spec Try.prog 39 #[.pointer (some ⟨b, 0, none⟩), .pointer (some ⟨b2, 0, none⟩), .pointer (some ⟨b3, 0, none⟩)] F [(mb, mapO kvs ms mc)] fun v hl' => v = .int .i64 (if 0 < pins then 9 else 0) ∧ hl' = [(mb, mapO kvs (if 0 < pins then ms else cutM ms key) mc)] := by
  refine Spec.of (n := 15) (vs := [.pointer (some ⟨b, 0, none⟩), .pointer (some ⟨b2, 0, none⟩), .pointer (some ⟨b3, 0, none⟩)]) Try.func39 rfl Try.ntmps39 rfl ?_
  refine Vc.seq ?_
  refine Vc.text (List.range 1) (sd [(0, .pure)]) rfl ?_
  refine Rg.pure rfl rfl rfl (Pv.assign rfl) ?_
  refine Rg.nil ?_
  refine Vc.seq ?_
  refine Vc.seq ?_
  refine Vc.text (List.range 5) (sd [(0, .pure), (1, .pure), (2, .pure), (3, .read), (4, .pure)]) rfl ?_
  refine Rg.pure rfl rfl rfl (Pv.move rfl) ?_
  refine Rg.pure rfl rfl rfl (Pv.nilp rfl) ?_
  refine Rg.pure rfl rfl rfl (Pv.fa rfl) ?_
  refine Rg.read rfl rfl rfl (Ev.ld rfl rfl) ?_
  refine Rg.pure rfl rfl rfl (Pv.gtr rfl rfl) ?_
  refine Rg.nil ?_
  refine Vc.cond rfl (fun h9 => ?_) (fun h9 => ?_)
  ·
    simp only [decide_eq_true_eq] at h9
    have e0 : 0 < pins := (by omega)
    refine Vc.seq ?_
    refine Vc.text (List.range 1) (sd [(0, .pure)]) rfl ?_
    refine Rg.pure rfl rfl rfl (Pv.assign rfl) ?_
    refine Rg.nil ?_
    exact Vc.ret (Vc.retsH rfl (.cons (.tmp rfl) (.nil)) (⟨congrArg (Value.int .i64) (if_pos e0).symm, by rw [if_pos e0]⟩) pulled)
  ·
    simp only [decide_eq_false_iff_not] at h9
    have e0 : ¬ 0 < pins := (by omega)
    refine Vc.skip ?_
    refine Vc.seq ?_
    refine Vc.draw [5] (sd [(0, .read), (1, .pure), (2, .pure), (3, .read), (4, .read), (5, .eff)]) mixed (by kernel_rfl) ?_
    refine Rg.read rfl rfl rfl (Ev.ld rfl rfl) ?_
    refine Rg.pure rfl rfl rfl (Pv.nilp rfl) ?_
    refine Rg.pure rfl rfl rfl (Pv.fa rfl) ?_
    refine Rg.read rfl rfl rfl (Ev.ld rfl rfl) ?_
    refine Rg.read rfl rfl rfl (Ev.ld rfl rfl) ?_
    refine Rg.mapDel rfl rfl rfl rfl rfl (hin) (hn) rfl ?_
    refine Rg.nil ?_
    refine Vc.seq ?_
    refine Vc.text (List.range 1) (sd [(0, .pure)]) rfl ?_
    refine Rg.pure rfl rfl rfl (Pv.assign rfl) ?_
    refine Rg.nil ?_
    exact Vc.ret (Vc.retsH rfl (.cons (.tmp rfl) (.nil)) (⟨congrArg (Value.int .i64) (if_neg e0).symm, by rw [if_neg e0]⟩) pulled)

theorem pin_specs (F : Fm) {cb fr ck : Nat} {L : List (KTs × Nat)} {s : Hl} (hh : Caches cb fr ck L s) (key : KTs) (hp : ∀ p ∈ L, p.2 < 4611686018427387904) :
    Spec Try.prog 15 #[.pointer (some ⟨cb, 0, none⟩), kvs key] F s fun v s' => v = .int .i64 (if hasK L key = true then 0 else 4) ∧ Caches cb fr ck (if hasK L key = true then setK L key (pinsK L key + 1) else L) s' := by
  obtain ⟨mb, mc, es, us, hperm, hg, rfl⟩ := hh
  refine Spec.permL ?_ hperm
  rcases hg.look key with ⟨hk, _⟩ | ⟨e, he, rfl, hk, _⟩
  · simp only [hk, Bool.false_eq_true, if_false]
    refine Spec.of (n := 8) (vs := [.pointer (some ⟨cb, 0, none⟩), kvs key]) Try.func15 rfl Try.ntmps15 rfl ?_
    refine Vc.seq ?_
    refine Vc.text (List.range 1) (sd [(0, .pure)]) rfl ?_
    refine Rg.pure rfl rfl rfl (Pv.assign rfl) ?_
    refine Rg.nil ?_
    refine Vc.seq ?_
    refine Vc.text (List.range 4) (sd [(0, .pure), (1, .pure), (2, .eff), (3, .pure)]) rfl ?_
    refine Rg.pure rfl rfl rfl (Pv.move rfl) ?_
    refine Rg.pure rfl rfl rfl (Pv.move rfl) ?_
    refine Rg.callP rfl rfl rfl (run_callF rfl) (on_nones hg hk _) ?_
    rintro _ rfl
    refine Rg.pure rfl rfl rfl (Pv.assign rfl) ?_
    refine Rg.nil ?_
    exact Vc.ret (Vc.rets rfl (.cons (.tmp rfl) .nil) ⟨rfl, mb, mc, es, us, .refl _, hg, rfl⟩)
  · obtain ⟨A, B, rfl⟩ := List.append_of_mem he
    have hpe := hp (e.k, e.pins) (List.mem_map.2 ⟨e, he, rfl⟩)
    simp only [hk, if_true, pinsK_split hg.keys, setK_split hg.keys (e.pins + 1)]
    rw [List.map_append, List.map_cons]
    refine Spec.of (n := 8) (vs := [.pointer (some ⟨cb, 0, none⟩), kvs e.k]) Try.func15 rfl Try.ntmps15 rfl ?_
    refine Vc.seq ?_
    refine Vc.text (List.range 1) (sd [(0, .pure)]) rfl ?_
    refine Rg.pure rfl rfl rfl (Pv.assign rfl) ?_
    refine Rg.nil ?_
    refine Vc.seq ?_
    refine Vc.text (List.range 4) (sd [(0, .pure), (1, .pure), (2, .eff), (3, .pure)]) rfl ?_
    refine Rg.pure rfl rfl rfl (Pv.move rfl) ?_
    refine Rg.pure rfl rfl rfl (Pv.move rfl) ?_
    refine Rg.callH rfl rfl rfl (run_callF rfl) (fun F' hF' => @on_somes F' [(e.blk, cellsO [.int .i64 (e.used : Int), .int .i64 (e.pins : Int)] 59)] cb fr ck mb mc es _ hg e he 37 [] _ _ ⟨.inr (hF' _ _ (.inl mem_pull))⟩ ⟨.inr (hF' _ _ (.inl mem_pull))⟩ (fun F2 hF2 => pinc_specs hpe)) rfl ?_
    rintro _ _ ⟨rfl, rfl⟩
    refine Rg.pure rfl rfl rfl (Pv.assign rfl) ?_
    refine Rg.nil ?_
    exact Vc.ret (Vc.rets rfl (.cons (.tmp rfl) .nil) ⟨rfl, mb, mc, _, _, by rw [me_pin es e.k (e.pins + 1), List.map_append, List.map_cons]; exact perm_back _ _ _ _ _, hg.pin (e.pins + 1), rfl⟩)

theorem unpin_specs (F : Fm) {cb fr ck : Nat} {L : List (KTs × Nat)} {s : Hl} (hh : Caches cb fr ck L s) (key : KTs) (hp : ∀ p ∈ L, p.2 < 4611686018427387904) :
    Spec Try.prog 17 #[.pointer (some ⟨cb, 0, none⟩), kvs key] F s fun v s' => v = .int .i64 (if hasK L key = true then if pinsK L key = 0 then 9 else 0 else 4) ∧ Caches cb fr ck (if hasK L key = true then setK L key (pinsK L key - 1) else L) s' := by
  obtain ⟨mb, mc, es, us, hperm, hg, rfl⟩ := hh
  refine Spec.permL ?_ hperm
  rcases hg.look key with ⟨hk, _⟩ | ⟨e, he, rfl, hk, _⟩
  · simp only [hk, Bool.false_eq_true, if_false]
    refine Spec.of (n := 8) (vs := [.pointer (some ⟨cb, 0, none⟩), kvs key]) Try.func17 rfl Try.ntmps17 rfl ?_
    refine Vc.seq ?_
    refine Vc.text (List.range 1) (sd [(0, .pure)]) rfl ?_
    refine Rg.pure rfl rfl rfl (Pv.assign rfl) ?_
    refine Rg.nil ?_
    refine Vc.seq ?_
    refine Vc.text (List.range 4) (sd [(0, .pure), (1, .pure), (2, .eff), (3, .pure)]) rfl ?_
    refine Rg.pure rfl rfl rfl (Pv.move rfl) ?_
    refine Rg.pure rfl rfl rfl (Pv.move rfl) ?_
    refine Rg.callP rfl rfl rfl (run_callF rfl) (on_nones hg hk _) ?_
    rintro _ rfl
    refine Rg.pure rfl rfl rfl (Pv.assign rfl) ?_
    refine Rg.nil ?_
    exact Vc.ret (Vc.rets rfl (.cons (.tmp rfl) .nil) ⟨rfl, mb, mc, es, us, .refl _, hg, rfl⟩)
  · obtain ⟨A, B, rfl⟩ := List.append_of_mem he
    have hpe := hp (e.k, e.pins) (List.mem_map.2 ⟨e, he, rfl⟩)
    simp only [hk, if_true, pinsK_split hg.keys, setK_split hg.keys (e.pins - 1)]
    rw [List.map_append, List.map_cons]
    refine Spec.of (n := 8) (vs := [.pointer (some ⟨cb, 0, none⟩), kvs e.k]) Try.func17 rfl Try.ntmps17 rfl ?_
    refine Vc.seq ?_
    refine Vc.text (List.range 1) (sd [(0, .pure)]) rfl ?_
    refine Rg.pure rfl rfl rfl (Pv.assign rfl) ?_
    refine Rg.nil ?_
    refine Vc.seq ?_
    refine Vc.text (List.range 4) (sd [(0, .pure), (1, .pure), (2, .eff), (3, .pure)]) rfl ?_
    refine Rg.pure rfl rfl rfl (Pv.move rfl) ?_
    refine Rg.pure rfl rfl rfl (Pv.move rfl) ?_
    refine Rg.callH rfl rfl rfl (run_callF rfl) (fun F' hF' => @on_somes F' [(e.blk, cellsO [.int .i64 (e.used : Int), .int .i64 (e.pins : Int)] 59)] cb fr ck mb mc es _ hg e he 38 [] _ _ ⟨.inr (hF' _ _ (.inl mem_pull))⟩ ⟨.inr (hF' _ _ (.inl mem_pull))⟩ (fun F2 hF2 => unpinc_specs hpe)) rfl ?_
    rintro _ _ ⟨rfl, rfl⟩
    refine Rg.pure rfl rfl rfl (Pv.assign rfl) ?_
    refine Rg.nil ?_
    exact Vc.ret (Vc.rets rfl (.cons (.tmp rfl) .nil) ⟨rfl, mb, mc, _, _, by rw [me_pin es e.k (e.pins - 1), List.map_append, List.map_cons]; exact perm_back _ _ _ _ _, hg.pin (e.pins - 1), rfl⟩)

theorem drop_specs (F : Fm) {cb fr ck : Nat} {L : List (KTs × Nat)} {s : Hl} (hh : Caches cb fr ck L s) (key : KTs) :
    Spec Try.prog 19 #[.pointer (some ⟨cb, 0, none⟩), kvs key] F s fun v s' => v = .int .i64 (if hasK L key = true then if 0 < pinsK L key then 9 else 0 else 4) ∧ Caches cb fr ck (if hasK L key = true then if 0 < pinsK L key then L else dropK L key else L) s' := by
  obtain ⟨mb, mc, es, us, hperm, hg, rfl⟩ := hh
  refine Spec.permL ?_ hperm
  rcases hg.look key with ⟨hk, _⟩ | ⟨e, he, rfl, hk, _⟩
  · simp only [hk, Bool.false_eq_true, if_false]
    refine Spec.of (n := 9) (vs := [.pointer (some ⟨cb, 0, none⟩), kvs key]) Try.func19 rfl Try.ntmps19 rfl ?_
    refine Vc.seq ?_
    refine Vc.text (List.range 3) (sd [(0, .eff), (1, .eff), (2, .pure)]) rfl ?_
    refine Rg.box rfl rfl rfl rfl rfl (fun b2 => ?_)
    refine Rg.box rfl rfl rfl rfl rfl (fun b3 => ?_)
    refine Rg.pure rfl rfl rfl (Pv.assign rfl) ?_
    refine Rg.nil ?_
    refine Vc.seq ?_
    refine Vc.text (List.range 5) (sd [(0, .read), (1, .read), (2, .pure), (3, .eff), (4, .pure)]) rfl ?_
    refine Rg.read rfl rfl rfl (Ev.ld rfl rfl) ?_
    refine Rg.read rfl rfl rfl (Ev.ld rfl rfl) ?_
    refine Rg.pure rfl rfl rfl (Pv.mkF rfl rfl) ?_
    refine Rg.callP rfl rfl rfl (run_callF rfl) (on_nones hg hk _) ?_
    rintro _ rfl
    refine Rg.pure rfl rfl rfl (Pv.assign rfl) ?_
    refine Rg.nil ?_
    exact Vc.ret (Vc.retsH rfl (.cons (.tmp rfl) (.nil)) (⟨rfl, mb, mc, es, us, .refl _, hg, rfl⟩) pulled)
  · obtain ⟨A, B, rfl⟩ := List.append_of_mem he
    simp only [hk, if_true, pinsK_split hg.keys, dropK_split hg.keys]
    rw [List.map_append, List.map_cons]
    have hin : ∃ m ∈ es.map meC, m.k = e.k := ⟨meC e, List.mem_map.2 ⟨e, hg.perm.mem_iff.2 he, rfl⟩, rfl⟩
    refine Spec.of (n := 9) (vs := [.pointer (some ⟨cb, 0, none⟩), kvs e.k]) Try.func19 rfl Try.ntmps19 rfl ?_
    refine Vc.seq ?_
    refine Vc.text (List.range 3) (sd [(0, .eff), (1, .eff), (2, .pure)]) rfl ?_
    refine Rg.box rfl rfl rfl rfl rfl (fun b2 => ?_)
    refine Rg.box rfl rfl rfl rfl rfl (fun b3 => ?_)
    refine Rg.pure rfl rfl rfl (Pv.assign rfl) ?_
    refine Rg.nil ?_
    refine Vc.seq ?_
    refine Vc.text (List.range 5) (sd [(0, .read), (1, .read), (2, .pure), (3, .eff), (4, .pure)]) rfl ?_
    refine Rg.read rfl rfl rfl (Ev.ld rfl rfl) ?_
    refine Rg.read rfl rfl rfl (Ev.ld rfl rfl) ?_
    refine Rg.pure rfl rfl rfl (Pv.mkF rfl rfl) ?_
    refine Rg.callH rfl rfl rfl (run_callF rfl) (fun F' hF' => @on_somes F' [(mb, mapO kvs (es.map meC) mc)] cb fr ck mb mc es _ hg e he 39 [.pointer (some ⟨b2, 0, none⟩), .pointer (some ⟨b3, 0, none⟩)] _ _ ⟨.inr (hF' _ _ (.inl mem_pull))⟩ ⟨.inl List.mem_cons_self⟩ (fun F2 hF2 => @dropc_specs F2 e.blk e.used e.pins b2 b3 cb mb fr ck mc (es.map meC) e.k hg.nodup hin ⟨hF2 _ _ (hF' _ _ (.inl mem_pull))⟩ ⟨hF2 _ _ (hF' _ _ (.inl mem_pull))⟩ ⟨hF2 _ _ (hF' _ _ (.inl mem_pull))⟩ ⟨hF2 _ _ (hF' _ _ (.inl mem_pull))⟩)) rfl ?_
    rintro _ _ ⟨rfl, rfl⟩
    refine Rg.pure rfl rfl rfl (Pv.assign rfl) ?_
    refine Rg.nil ?_
    by_cases e0 : 0 < e.pins
    · simp only [if_pos e0]
      exact Vc.ret (Vc.retsH (hl' := (mb, mapO kvs (es.map meC) mc) :: (cb, cellsO [.int .i64 (fr : Int), .int .i64 (ck : Int), .map (some mb)] 56) :: (A.map (ebC 59) ++ ebC 59 e :: B.map (ebC 59))) rfl (.cons (.tmp rfl) .nil) ⟨rfl, mb, mc, es, _, by rw [List.map_append, List.map_cons]; exact List.Perm.swap _ _ _, hg, rfl⟩ pulled)
    · simp only [if_neg e0]
      exact Vc.ret (Vc.retsH (hl' := (mb, mapO kvs (cutM (es.map meC) e.k) mc) :: (cb, cellsO [.int .i64 (fr : Int), .int .i64 (ck : Int), .map (some mb)] 56) :: (A.map (ebC 59) ++ B.map (ebC 59))) rfl (.cons (.tmp rfl) .nil) ⟨rfl, mb, mc, _, _, by rw [me_gone, List.map_append]; exact List.Perm.swap _ _ _, hg.gone, rfl⟩ pulled)
end Go.Proofs.Ytigkckpjbnflpaa
