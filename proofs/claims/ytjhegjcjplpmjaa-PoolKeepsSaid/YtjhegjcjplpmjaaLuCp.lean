/- Caches whose keys are of one type: New, Pin, Unpin, Drop, and what Use leans on. -/
import Derived.Test.YtjhegjcjplpmjaaLuBp
namespace Go.Proofs.Ytjhegjcjplpmjaa
set_option linter.unusedVariables false

def idxI {α : Type} (p : α → Bool) : List α → Nat → Int
  | [], _ => -1
  | x :: l, i => if p x = true then (i : Int) else idxI p l (i + 1)
theorem idxI_spec {α : Type} (p : α → Bool) : ∀ (xs : List α) (i : Nat), (idxI p xs i = -1 ∧ ∀ x ∈ xs, p x = false) ∨ ∃ A x B, xs = A ++ x :: B ∧ (∀ a ∈ A, p a = false) ∧ p x = true ∧ idxI p xs i = ((i + A.length : Nat) : Int)
  | [], i => .inl ⟨rfl, fun x h => by cases h⟩
  | x :: l, i => by
    cases hp : p x with
    | true => exact .inr ⟨[], x, l, rfl, fun a h => (by cases h), hp, by simp [idxI, hp]⟩
    | false =>
      have e : idxI p (x :: l) i = idxI p l (i + 1) := by simp [idxI, hp]
      rw [e]
      rcases idxI_spec p l (i + 1) with ⟨h1, h2⟩ | ⟨A, y, B, rfl, h2, h3, h4⟩
      · exact .inl ⟨h1, fun y hy => by rcases List.mem_cons.1 hy with rfl | hy; exact hp; exact h2 y hy⟩
      · exact .inr ⟨x :: A, y, B, rfl, fun a ha => by rcases List.mem_cons.1 ha with rfl | ha; exact hp; exact h2 a ha, h3, by rw [h4, List.length_cons]; congr 1; omega⟩

theorem idx_specp {F : Fm} {v : Value} {xs : List KTp} (ha : Arg keyEp F v xs) (p : KTp → Bool) (g : Nat) (cs : List Value) [hg : TyCall Try.prog g] (hn : xs.length < 4611686018427387904)
    (hs : ∀ F' : Fm, (∀ b o, F.at_ b o → F'.at_ b o) → ∀ x ∈ xs, Spec Try.prog g (kvp x :: cs).toArray F' [] fun v _ => v = .bool (p x)) :
    Spec Try.prog 74 #[v, .func (.func g) #[] cs.toArray] F [] fun v _ => v = .int .i64 (idxI p xs 0) := by
  obtain ⟨q, c, rfl⟩ := ha.shape
  refine Spec.of (n := 19) (vs := [.slice q xs.length c, .func (.func g) #[] cs.toArray]) Try.func74 rfl Try.ntmps74 rfl ?_
  refine Vc.seq ?_
  refine Vc.text (List.range 1) (sd [(0, .pure)]) rfl ?_
  refine Rg.pure rfl rfl rfl (Pv.assign rfl) ?_
  refine Rg.nil ?_
  refine Vc.seq ?_
  refine Vc.seq ?_
  refine Vc.text (List.range 3) (sd [(0, .pure), (1, .pure), (2, .pure)]) rfl ?_
  refine Rg.pure rfl rfl rfl (Pv.move rfl) ?_
  refine Rg.pure rfl rfl rfl (Pv.lenS rfl) ?_
  refine Rg.pure rfl rfl rfl (Pv.move rfl) ?_
  refine Rg.nil ?_
  refine Vc.block ?_
  refine Vc.loop1 (fun (i : Nat) => i ≤ xs.length ∧ idxI p xs 0 = idxI p (xs.drop i) i) (fun i => [(0, .slice q xs.length c), (1, .func (.func g) #[] cs.toArray), (7, .int .i64 (xs.length : Int)), (8, .int .i64 (i : Int))]) (fun i => []) (fun i => xs.length - i) 0 ⟨Nat.zero_le _, rfl⟩ (.cons rfl (.cons rfl (.cons rfl (.cons rfl .nil)))) pulled ?_
  rintro i ⟨h1, h2⟩
  refine Vc.seq ?_
  refine Vc.text (List.range 1) (sd [(0, .pure)]) rfl ?_
  refine Rg.pure rfl rfl rfl (Pv.lss rfl rfl) ?_
  refine Rg.nil ?_
  refine Vc.seq ?_
  refine Vc.cond rfl (fun h9 => ?_) (fun h9 => ?_)
  ·
    simp only [decide_eq_true_eq] at h9
    obtain ⟨b, off, c', e, _⟩ := ha.block (by omega)
    cases e
    have hd : xs.drop i = xs[i]! :: xs.drop (i + 1) := by rw [getElem!_pos xs i (by omega)]; exact List.drop_eq_getElem_cons (by omega)
    rw [hd] at h2
    refine Vc.skip ?_
    refine Vc.seq ?_
    refine Vc.block ?_
    refine Vc.seq ?_
    refine Vc.text (List.range 2) (sd [(0, .pure), (1, .pure)]) rfl ?_
    refine Rg.pure rfl rfl rfl (Pv.move rfl) ?_
    refine Rg.pure rfl rfl rfl (Pv.assign rfl) ?_
    refine Rg.nil ?_
    refine Vc.seq ?_
    refine Vc.text (List.range 6) (sd [(0, .pure), (1, .pure), (2, .pure), (3, .pure), (4, .read), (5, .eff)]) rfl ?_
    refine Rg.pure rfl rfl rfl (Pv.move rfl) ?_
    refine Rg.pure rfl rfl rfl (Pv.move rfl) ?_
    refine Rg.pure rfl rfl rfl (Pv.move rfl) ?_
    refine Rg.pure rfl rfl rfl (Pv.ixA (i) rfl rfl (by omega) (by omega)) ?_
    refine Rg.read rfl rfl rfl (Ev.ldS (i) (ha.src) rfl rfl rfl (by omega)) ?_
    refine Rg.callP rfl rfl rfl (run_callV rfl rfl) (hs _ (fun _ _ h => Or.inr h) xs[i]! (by rw [getElem!_pos xs i (by omega)]; exact List.getElem_mem _)) ?_
    rintro _ rfl
    refine Rg.nil ?_
    refine Vc.cond rfl (fun h16 => ?_) (fun h16 => ?_)
    ·
      refine Vc.seq ?_
      refine Vc.text (List.range 2) (sd [(0, .pure), (1, .pure)]) rfl ?_
      refine Rg.pure rfl rfl rfl (Pv.move rfl) ?_
      refine Rg.pure rfl rfl rfl (Pv.assign rfl) ?_
      refine Rg.nil ?_
      refine Vc.ret (Vc.rets rfl (.cons (.tmp rfl) (.nil)) ?_)
      exact congrArg (Value.int .i64) (by rw [h2, idxI, if_pos h16])
    ·
      refine Vc.skip ?_
      refine Vc.blk ?_
      refine Vc.text (List.range 2) (sd [(0, .pure), (1, .pure)]) rfl ?_
      refine Rg.pure rfl rfl rfl (Pv.asI (i + 1) (Pv.add rfl rfl (by omega)) (by omega)) ?_
      refine Rg.pure rfl rfl rfl (Pv.move rfl) ?_
      refine Rg.nil ?_
      exact Vc.inv1 (i + 1) ⟨⟨by omega, by rw [h2, idxI, if_neg (by rw [h16]; simp)]⟩, by omega⟩ (.cons rfl (.cons rfl (.cons rfl (.cons rfl .nil)))) pulled
  ·
    simp only [decide_eq_false_iff_not] at h9
    rw [List.drop_eq_nil_of_le (by omega)] at h2
    refine Vc.exit rfl ?_
    refine Vc.seq ?_
    refine Vc.text (List.range 1) (sd [(0, .pure)]) rfl ?_
    refine Rg.pure rfl rfl rfl (Pv.assign rfl) ?_
    refine Rg.nil ?_
    refine Vc.ret (Vc.rets rfl (.cons (.tmp rfl) (.nil)) ?_)
    exact congrArg (Value.int .i64) h2.symm

/-- Is a key's pin count 0? -/
theorem free_specp {F : Fm} {cb fr ck mb mc b2 : Nat} {es us : List (Ce KTp)} (hg : Good ck mc es us)
    [f1 : Fat F b2 (cellsO [.pointer (some ⟨cb, 0, none⟩)] 51)] [f2 : Fat F cb (cellsO [.int .i64 (fr : Int), .int .i64 (ck : Int), .map (some mb)] 97)] [f3 : Fat F mb (mapO kvp (es.map meC) mc)]
    (hF : ∀ e ∈ us, F.at_ e.blk (cellsO [.int .i64 (e.used : Int), .int .i64 (e.pins : Int)] 112)) (x : Ce KTp) (hx : x ∈ us) :
    Spec Try.prog 75 #[kvp x.k, .pointer (some ⟨b2, 0, none⟩)] F [] fun v _ => v = .bool (decide (x.pins = 0)) := by
  have : Fat F x.blk (cellsO [.int .i64 (x.used : Int), .int .i64 (x.pins : Int)] 112) := ⟨hF x hx⟩
  have ex : ((findM (es.map meC) x.k).map (·.v)).getD (.pointer none) = .pointer (some ⟨x.blk, 0, none⟩) := by
    rw [findM_some hg.nodup (List.mem_map.2 ⟨x, hg.perm.mem_iff.2 hx, rfl⟩) rfl]; rfl
  refine Spec.of (n := 14) (vs := [kvp x.k, .pointer (some ⟨b2, 0, none⟩)]) Try.func75 rfl Try.ntmps75 rfl ?_
  refine Vc.seq ?_
  refine Vc.text (List.range 2) (sd [(0, .eff), (1, .pure)]) rfl ?_
  refine Rg.box rfl rfl rfl rfl rfl (fun b2 => ?_)
  refine Rg.pure rfl rfl rfl (Pv.assign rfl) ?_
  refine Rg.nil ?_
  refine Vc.seq ?_
  refine Vc.draw [] (sd [(0, .read), (1, .pure), (2, .pure), (3, .read), (4, .read), (5, .read), (6, .pure), (7, .pure), (8, .read), (9, .pure), (10, .pure)]) mixed (by kernel_rfl) ?_
  refine Rg.read rfl rfl rfl (Ev.ld rfl rfl) ?_
  refine Rg.pure rfl rfl rfl (Pv.nilp rfl) ?_
  refine Rg.pure rfl rfl rfl (Pv.fa rfl) ?_
  refine Rg.read rfl rfl rfl (Ev.ld rfl rfl) ?_
  refine Rg.read rfl rfl rfl (Ev.ldA rfl rfl) ?_
  refine Rg.read rfl rfl rfl (Ev.as (.pointer (some ⟨x.blk, 0, none⟩)) (Ev.lookup (kv := kvp) (k := x.k) rfl rfl hg.nodup) ex) ?_
  refine Rg.pure rfl rfl rfl (Pv.nilp rfl) ?_
  refine Rg.pure rfl rfl rfl (Pv.fa rfl) ?_
  refine Rg.read rfl rfl rfl (Ev.ld rfl rfl) ?_
  refine Rg.pure rfl rfl rfl (Pv.eql rfl rfl) ?_
  refine Rg.pure rfl rfl rfl (Pv.assign rfl) ?_
  refine Rg.nil ?_
  refine Vc.ret (Vc.rets rfl (.cons (.tmp rfl) (.nil)) ?_)
  exact congrArg Value.bool (by rw [Bool.eq_iff_iff]; simp)

theorem new_specp (F : Fm) (z : Int) (hz : z ≤ 9223372036854775807) : Spec Try.prog 27 #[.int .i64 z] F [] fun v hl' => ∃ cb, v = .pointer (some ⟨cb, 0, none⟩) ∧ Cachep cb (max z 1).toNat 0 [] hl' := by
  refine Spec.of (n := 8) (vs := [.int .i64 z]) Try.func27 rfl Try.ntmps27 rfl ?_
  refine Vc.seq ?_
  refine Vc.text (List.range 1) (sd [(0, .pure)]) rfl ?_
  refine Rg.pure rfl rfl rfl (Pv.assign rfl) ?_
  refine Rg.nil ?_
  refine Vc.seq ?_
  refine Vc.text (List.range 6) (sd [(0, .pure), (1, .pure), (2, .eff), (3, .pure), (4, .eff), (5, .pure)]) rfl ?_
  refine Rg.pure rfl rfl rfl (Pv.move rfl) ?_
  refine Rg.pure rfl rfl rfl (Pv.asI ((max z 1).toNat) (Pv.max rfl rfl) (by omega)) ?_
  refine Rg.makeMap kvp rfl rfl rfl (fun b5 => ?_)
  refine Rg.pure rfl rfl rfl (Pv.build (c := #[.int .i64 ((max z 1).toNat : Int), .int .i64 ((0 : Nat) : Int), .map (some b5)]) rfl rfl) ?_
  refine Rg.box rfl rfl rfl rfl rfl (fun b7 => ?_)
  refine Rg.pure rfl rfl rfl (Pv.assign rfl) ?_
  refine Rg.nil ?_
  exact Vc.ret (Vc.retsH (hl' := [(b7, cellsO [.int .i64 ((max z 1).toNat : Int), .int .i64 ((0 : Nat) : Int), .map (some b5)] 97), (b5, mapO kvp [] 0)]) rfl (.cons (.tmp rfl) .nil) ⟨b7, rfl, b5, 0, [], [], .refl _, ⟨.refl _, .nil, .nil, fun e h => (by cases h), .nil, fun e h => (by cases h)⟩, rfl⟩ pulled)

theorem on_nonep {F : Fm} {pre : Hl} {cb fr ck mb mc : Nat} {es us : List (Ce KTp)} (hg : Good ck mc es us) {key : KTp} (hk : hasK (viewC us) key = false) (fv : Value)
    [f2 : Has F pre cb (cellsO [.int .i64 (fr : Int), .int .i64 (ck : Int), .map (some mb)] 97)] [f3 : Has F pre mb (mapO kvp (es.map meC) mc)] :
    Spec Try.prog 54 #[.pointer (some ⟨cb, 0, none⟩), kvp key, fv] F pre fun v hl' => v = .int .i64 4 := by
  have ex : ((findM (es.map meC) key).map (·.v)).getD (.pointer none) = .pointer none := by
    rcases hg.look key with ⟨_, h2⟩ | ⟨e, _, _, h1, _⟩
    · rw [h2]; rfl
    · rw [hk] at h1; cases h1
  refine Spec.of (n := 19) (vs := [.pointer (some ⟨cb, 0, none⟩), kvp key, fv]) Try.func54 rfl Try.ntmps54 rfl ?_
  refine Vc.seq ?_
  refine Vc.text (List.range 2) (sd [(0, .eff), (1, .pure)]) rfl ?_
  refine Rg.box rfl rfl rfl rfl rfl (fun b4 => ?_)
  refine Rg.pure rfl rfl rfl (Pv.assign rfl) ?_
  refine Rg.nil ?_
  refine Vc.seq ?_
  refine Vc.seq ?_
  refine Vc.draw [] (sd [(0, .pure), (1, .pure), (2, .pure), (3, .read), (4, .read), (5, .read), (6, .pure)]) mixed (by kernel_rfl) ?_
  refine Rg.pure rfl rfl rfl (Pv.move rfl) ?_
  refine Rg.pure rfl rfl rfl (Pv.nilp rfl) ?_
  refine Rg.pure rfl rfl rfl (Pv.fa rfl) ?_
  refine Rg.read rfl rfl rfl (Ev.ld rfl rfl) ?_
  refine Rg.read rfl rfl rfl (Ev.ldA rfl rfl) ?_
  refine Rg.read rfl rfl rfl (Ev.as (.pointer none) (Ev.lookup (kv := kvp) (k := key) rfl rfl hg.nodup) ex) ?_
  refine Rg.pure rfl rfl rfl (Pv.assign rfl) ?_
  refine Rg.nil ?_
  refine Vc.seq ?_
  refine Vc.text (List.range 2) (sd [(0, .pure), (1, .pure)]) rfl ?_
  refine Rg.pure rfl rfl rfl (Pv.move rfl) ?_
  refine Rg.pure rfl rfl rfl (Pv.neqNil rfl rfl) ?_
  refine Rg.nil ?_
  refine Vc.cond rfl (fun h15 => absurd h15 (by simp)) (fun h15 => ?_)
  refine Vc.skip ?_
  refine Vc.seq ?_
  refine Vc.text (List.range 1) (sd [(0, .pure)]) rfl ?_
  refine Rg.pure rfl rfl rfl (Pv.assign rfl) ?_
  refine Rg.nil ?_
  refine Vc.ret (Vc.rets rfl (.cons (.tmp rfl) (.nil)) ?_)
  rfl
theorem on_somep {F : Fm} {pre : Hl} {cb fr ck mb mc : Nat} {es us : List (Ce KTp)} (hg : Good ck mc es us) {e : Ce KTp} (he : e ∈ us) (g : Nat) (cs : List Value) {post : Value → Hl → Prop} [hgc : TyCall Try.prog g]
    [f2 : Has F pre cb (cellsO [.int .i64 (fr : Int), .int .i64 (ck : Int), .map (some mb)] 97)] [f3 : Has F pre mb (mapO kvp (es.map meC) mc)]
    (hs : ∀ F' : Fm, (∀ b o, F.at_ b o → F'.at_ b o) → Spec Try.prog g (.pointer (some ⟨e.blk, 0, none⟩) :: cs).toArray F' pre post) :
    Spec Try.prog 54 #[.pointer (some ⟨cb, 0, none⟩), kvp e.k, .func (.func g) #[] cs.toArray] F pre post := by
  have ex : ((findM (es.map meC) e.k).map (·.v)).getD (.pointer none) = .pointer (some ⟨e.blk, 0, none⟩) := by
    rw [findM_some hg.nodup (List.mem_map.2 ⟨e, hg.perm.mem_iff.2 he, rfl⟩) rfl]; rfl
  refine Spec.of (n := 19) (vs := [.pointer (some ⟨cb, 0, none⟩), kvp e.k, .func (.func g) #[] cs.toArray]) Try.func54 rfl Try.ntmps54 rfl ?_
  refine Vc.seq ?_
  refine Vc.text (List.range 2) (sd [(0, .eff), (1, .pure)]) rfl ?_
  refine Rg.box rfl rfl rfl rfl rfl (fun b4 => ?_)
  refine Rg.pure rfl rfl rfl (Pv.assign rfl) ?_
  refine Rg.nil ?_
  refine Vc.seq ?_
  refine Vc.seq ?_
  refine Vc.draw [] (sd [(0, .pure), (1, .pure), (2, .pure), (3, .read), (4, .read), (5, .read), (6, .pure)]) mixed (by kernel_rfl) ?_
  refine Rg.pure rfl rfl rfl (Pv.move rfl) ?_
  refine Rg.pure rfl rfl rfl (Pv.nilp rfl) ?_
  refine Rg.pure rfl rfl rfl (Pv.fa rfl) ?_
  refine Rg.read rfl rfl rfl (Ev.ld rfl rfl) ?_
  refine Rg.read rfl rfl rfl (Ev.ldA rfl rfl) ?_
  refine Rg.read rfl rfl rfl (Ev.as (.pointer (some ⟨e.blk, 0, none⟩)) (Ev.lookup (kv := kvp) (k := e.k) rfl rfl hg.nodup) ex) ?_
  refine Rg.pure rfl rfl rfl (Pv.assign rfl) ?_
  refine Rg.nil ?_
  refine Vc.seq ?_
  refine Vc.text (List.range 2) (sd [(0, .pure), (1, .pure)]) rfl ?_
  refine Rg.pure rfl rfl rfl (Pv.move rfl) ?_
  refine Rg.pure rfl rfl rfl (Pv.neqNil rfl rfl) ?_
  refine Rg.nil ?_
  refine Vc.cond rfl (fun h15 => ?_) (fun h15 => absurd h15 (by simp))
  refine Vc.seq ?_
  refine Vc.text (List.range 4) (sd [(0, .pure), (1, .pure), (2, .eff), (3, .pure)]) rfl ?_
  refine Rg.pure rfl rfl rfl (Pv.move rfl) ?_
  refine Rg.pure rfl rfl rfl (Pv.move rfl) ?_
  refine Rg.callH rfl rfl rfl (run_callV rfl rfl) (fun F' hF' => hs F' (fun b o h => hF' b o (.inr h))) rfl ?_
  rintro v18 s18 h18
  refine Rg.pure rfl rfl rfl (Pv.assign rfl) ?_
  refine Rg.nil ?_
  exact Vc.ret (Vc.retsH rfl (.cons (.tmp rfl) (.nil)) (h18) pulled)

theorem dropc_specp {F : Fm} {b used pins b2 b3 cb mb fr ck mc : Nat} {ms : List (Me KTp)} {key : KTp} (hn : (ms.map (·.k)).Nodup) (hin : ∃ m ∈ ms, m.k = key)
    [f1 : Fat F b2 (cellsO [.pointer (some ⟨cb, 0, none⟩)] 51)] [f2 : Fat F cb (cellsO [.int .i64 (fr : Int), .int .i64 (ck : Int), .map (some mb)] 97)] [f3 : Fat F b3 (cellsO (keyEp.cells key) 54)] [f4 : Fat F b (cellsO [.int .i64 (used : Int), .int .i64 (pins : Int)] 112)] :
    Spec Try.prog 55 #[.pointer (some ⟨b, 0, none⟩), .pointer (some ⟨b2, 0, none⟩), .pointer (some ⟨b3, 0, none⟩)] F [(mb, mapO kvp ms mc)] fun v hl' => v = .int .i64 (if 0 < pins then 9 else 0) ∧ hl' = [(mb, mapO kvp (if 0 < pins then ms else cutM ms key) mc)] := by
  refine Spec.of (n := 15) (vs := [.pointer (some ⟨b, 0, none⟩), .pointer (some ⟨b2, 0, none⟩), .pointer (some ⟨b3, 0, none⟩)]) Try.func55 rfl Try.ntmps55 rfl ?_
  refine Vc.seq ?_
  refine Vc.text (List.range 1) (sd [(0, .pure)]) rfl ?_
  refine Rg.pure rfl rfl rfl (Pv.assign rfl) ?_
  refine Rg.nil ?_
  refine Vc.seq ?_
  refine Vc.seq ?_
  refine Vc.text (List.range 5) (sd [(0, .pure), (1, .pure), (2, .pure), (3, .read), (4, .pure)]) rfl ?_
  refine Rg.pure rfl rfl rfl (Pv.move rfl) ?_
  refine Rg.pure rfl rfl rfl (Pv.nilp rfl) ?_
  refine Rg.pure rfl rfl rfl (Pv.fa rfl) ?_
  refine Rg.read rfl rfl rfl (Ev.ld rfl rfl) ?_
  refine Rg.pure rfl rfl rfl (Pv.gtr rfl rfl) ?_
  refine Rg.nil ?_
  refine Vc.cond rfl (fun h9 => ?_) (fun h9 => ?_)
  ·
    simp only [decide_eq_true_eq] at h9
    have e0 : 0 < pins := (by omega)
    refine Vc.seq ?_
    refine Vc.text (List.range 1) (sd [(0, .pure)]) rfl ?_
    refine Rg.pure rfl rfl rfl (Pv.assign rfl) ?_
    refine Rg.nil ?_
    exact Vc.ret (Vc.retsH rfl (.cons (.tmp rfl) (.nil)) (⟨congrArg (Value.int .i64) (if_pos e0).symm, by rw [if_pos e0]⟩) pulled)
  ·
    simp only [decide_eq_false_iff_not] at h9
    have e0 : ¬ 0 < pins := (by omega)
    refine Vc.skip ?_
    refine Vc.seq ?_
    refine Vc.draw [5] (sd [(0, .read), (1, .pure), (2, .pure), (3, .read), (4, .read), (5, .eff)]) mixed (by kernel_rfl) ?_
    refine Rg.read rfl rfl rfl (Ev.ld rfl rfl) ?_
    refine Rg.pure rfl rfl rfl (Pv.nilp rfl) ?_
    refine Rg.pure rfl rfl rfl (Pv.fa rfl) ?_
    refine Rg.read rfl rfl rfl (Ev.ld rfl rfl) ?_
    refine Rg.read rfl rfl rfl (Ev.ldA rfl rfl) ?_
    refine Rg.mapDel (kv := kvp) (k := key) rfl rfl rfl rfl rfl (hin) (hn) rfl ?_
    refine Rg.nil ?_
    refine Vc.seq ?_
    refine Vc.text (List.range 1) (sd [(0, .pure)]) rfl ?_
    refine Rg.pure rfl rfl rfl (Pv.assign rfl) ?_
    refine Rg.nil ?_
    exact Vc.ret (Vc.retsH rfl (.cons (.tmp rfl) (.nil)) (⟨congrArg (Value.int .i64) (if_neg e0).symm, by rw [if_neg e0]⟩) pulled)

theorem drop_specp (F : Fm) {cb fr ck : Nat} {L : List (KTp × Nat)} {s : Hl} (hh : Cachep cb fr ck L s) (key : KTp) :
    Spec Try.prog 36 #[.pointer (some ⟨cb, 0, none⟩), kvp key] F s fun v s' => v = .int .i64 (if hasK L key = true then if 0 < pinsK L key then 9 else 0 else 4) ∧ Cachep cb fr ck (if hasK L key = true then if 0 < pinsK L key then L else dropK L key else L) s' := by
  obtain ⟨mb, mc, es, us, hperm, hg, rfl⟩ := hh
  refine Spec.permL ?_ hperm
  rcases hg.look key with ⟨hk, _⟩ | ⟨e, he, rfl, hk, _⟩
  · simp only [hk, Bool.false_eq_true, if_false]
    refine Spec.of (n := 9) (vs := [.pointer (some ⟨cb, 0, none⟩), kvp key]) Try.func36 rfl Try.ntmps36 rfl ?_
    refine Vc.seq ?_
    refine Vc.text (List.range 3) (sd [(0, .eff), (1, .eff), (2, .pure)]) rfl ?_
    refine Rg.box rfl rfl rfl rfl rfl (fun b2 => ?_)
    refine Rg.box rfl rfl rfl rfl rfl (fun b3 => ?_)
    refine Rg.pure rfl rfl rfl (Pv.assign rfl) ?_
    refine Rg.nil ?_
    refine Vc.seq ?_
    refine Vc.text (List.range 5) (sd [(0, .read), (1, .read), (2, .pure), (3, .eff), (4, .pure)]) rfl ?_
    refine Rg.read rfl rfl rfl (Ev.ld rfl rfl) ?_
    refine Rg.read rfl rfl rfl (Ev.ldA rfl rfl) ?_
    refine Rg.pure rfl rfl rfl (Pv.mkF rfl rfl) ?_
    refine Rg.callP rfl rfl rfl (run_callF rfl) (on_nonep hg hk _) ?_
    rintro _ rfl
    refine Rg.pure rfl rfl rfl (Pv.assign rfl) ?_
    refine Rg.nil ?_
    exact Vc.ret (Vc.retsH rfl (.cons (.tmp rfl) (.nil)) (⟨rfl, mb, mc, es, us, .refl _, hg, rfl⟩) pulled)
  · obtain ⟨A, B, rfl⟩ := List.append_of_mem he
    simp only [hk, if_true, pinsK_split hg.keys, dropK_split hg.keys]
    rw [List.map_append, List.map_cons]
    have hin : ∃ m ∈ es.map meC, m.k = e.k := ⟨meC e, List.mem_map.2 ⟨e, hg.perm.mem_iff.2 he, rfl⟩, rfl⟩
    refine Spec.of (n := 9) (vs := [.pointer (some ⟨cb, 0, none⟩), kvp e.k]) Try.func36 rfl Try.ntmps36 rfl ?_
    refine Vc.seq ?_
    refine Vc.text (List.range 3) (sd [(0, .eff), (1, .eff), (2, .pure)]) rfl ?_
    refine Rg.box rfl rfl rfl rfl rfl (fun b2 => ?_)
    refine Rg.box rfl rfl rfl rfl rfl (fun b3 => ?_)
    refine Rg.pure rfl rfl rfl (Pv.assign rfl) ?_
    refine Rg.nil ?_
    refine Vc.seq ?_
    refine Vc.text (List.range 5) (sd [(0, .read), (1, .read), (2, .pure), (3, .eff), (4, .pure)]) rfl ?_
    refine Rg.read rfl rfl rfl (Ev.ld rfl rfl) ?_
    refine Rg.read rfl rfl rfl (Ev.ldA rfl rfl) ?_
    refine Rg.pure rfl rfl rfl (Pv.mkF rfl rfl) ?_
    refine Rg.callH rfl rfl rfl (run_callF rfl) (fun F' hF' => @on_somep F' [(mb, mapO kvp (es.map meC) mc)] cb fr ck mb mc es _ hg e he 55 [.pointer (some ⟨b2, 0, none⟩), .pointer (some ⟨b3, 0, none⟩)] _ _ ⟨.inr (hF' _ _ (.inl mem_pull))⟩ ⟨.inl List.mem_cons_self⟩ (fun F2 hF2 => @dropc_specp F2 e.blk e.used e.pins b2 b3 cb mb fr ck mc (es.map meC) e.k hg.nodup hin ⟨hF2 _ _ (hF' _ _ (.inl mem_pull))⟩ ⟨hF2 _ _ (hF' _ _ (.inl mem_pull))⟩ ⟨hF2 _ _ (hF' _ _ (.inl mem_pull))⟩ ⟨hF2 _ _ (hF' _ _ (.inl mem_pull))⟩)) rfl ?_
    rintro _ _ ⟨rfl, rfl⟩
    refine Rg.pure rfl rfl rfl (Pv.assign rfl) ?_
    refine Rg.nil ?_
    by_cases e0 : 0 < e.pins
    · simp only [if_pos e0]
      exact Vc.ret (Vc.retsH (hl' := (mb, mapO kvp (es.map meC) mc) :: (cb, cellsO [.int .i64 (fr : Int), .int .i64 (ck : Int), .map (some mb)] 97) :: (A.map (ebC 112) ++ ebC 112 e :: B.map (ebC 112))) rfl (.cons (.tmp rfl) .nil) ⟨rfl, mb, mc, es, _, by rw [List.map_append, List.map_cons]; exact List.Perm.swap _ _ _, hg, rfl⟩ pulled)
    · simp only [if_neg e0]
      exact Vc.ret (Vc.retsH (hl' := (mb, mapO kvp (cutM (es.map meC) e.k) mc) :: (cb, cellsO [.int .i64 (fr : Int), .int .i64 (ck : Int), .map (some mb)] 97) :: (A.map (ebC 112) ++ B.map (ebC 112))) rfl (.cons (.tmp rfl) .nil) ⟨rfl, mb, mc, _, _, by rw [me_gone, List.map_append]; exact List.Perm.swap _ _ _, hg.gone, rfl⟩ pulled)
end Go.Proofs.Ytjhegjcjplpmjaa
