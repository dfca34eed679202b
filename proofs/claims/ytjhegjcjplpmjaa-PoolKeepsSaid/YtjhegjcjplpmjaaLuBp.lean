/- Caches whose keys are of one type: Keys. -/
import Derived.Test.YtjhegjcjplpmjaaLuAp
namespace Go.Proofs.Ytjhegjcjplpmjaa
set_option linter.unusedVariables false

theorem mem_pull {hl : Hl} {b : Nat} {o : Obj} {rest : Hl} [h : Pull1 hl b o rest] : (b, o) ∈ hl := h.perm.mem_iff.2 List.mem_cons_self
def usedOf {κ : Type} [DecidableEq κ] (us : List (Ce κ)) (k : κ) : Int := (((us.find? fun e => decide (e.k = k)).map (·.used)).getD 0 : Nat)
theorem usedOf_eq {κ : Type} [DecidableEq κ] : ∀ {us : List (Ce κ)}, (us.map (·.k)).Nodup → ∀ {e : Ce κ}, e ∈ us → usedOf us e.k = (e.used : Int)
  | x :: us, hn, e, he => by
    rw [List.map_cons, List.nodup_cons] at hn
    rcases List.mem_cons.1 he with rfl | he
    · simp [usedOf]
    · have hne : x.k ≠ e.k := fun h => hn.1 (List.mem_map.2 ⟨e, he, h.symm⟩)
      have := usedOf_eq hn.2 he
      simpa [usedOf, hne] using this

theorem sort_ownp {F : Fm} {v : Value} {xs : List KTp} {s : Hl} (own : Own keyEp v xs s) (f : KTp → Int) (cb : Array Value) (hn : xs.length < 4611686018427387904)
    (hcmp : ∀ F' : Fm, (∀ b o, F.at_ b o → F'.at_ b o) → ∀ x ∈ xs, ∀ y ∈ xs, Spec Try.prog 97 (#[kvp x, kvp y] ++ cb) F' [] fun v _ => v = .int .i64 (f x - f y)) :
    Spec Try.prog 48 #[v, .func (.func 97) #[] cb] F s fun _ s' => ∃ ys, Own keyEp v ys s' ∧ ys.Perm xs ∧ ys.Pairwise fun x y => f x ≤ f y := by
  exact (sortP_spec (fun x y => f x - f y) (swoI f) 97 cb own hn hcmp).mono fun v s' ⟨ys, h1, h2, h3⟩ => ⟨ys, h1, h2, h3.imp fun {a b} h => by omega⟩

theorem keys_specp {F : Fm} {cb fr ck : Nat} {L : List (KTp × Nat)} {s : Hl} (hh : Cachep cb fr ck L s) (hF : ∀ b o, (b, o) ∈ s → F.at_ b o) (hck : ck < 4611686018427387904) (hN : L.length < 1073741824) :
    Spec Try.prog 73 #[.pointer (some ⟨cb, 0, none⟩)] F [] fun v hl' => Own keyEp v (L.map (·.1)) hl' := by
  obtain ⟨mb, mc, es, us, hp0, hg, rfl⟩ := hh
  replace hF := fun b o h => hF b o (hp0.mem_iff.2 h)
  have f2 : Fat F cb (cellsO [.int .i64 (fr : Int), .int .i64 (ck : Int), .map (some mb)] 97) := ⟨hF _ _ List.mem_cons_self⟩
  have f3 : Fat F mb (mapO kvp (es.map meC) mc) := ⟨hF _ _ (List.mem_cons_of_mem _ List.mem_cons_self)⟩
  have f4 : ∀ e ∈ us, F.at_ e.blk (cellsO [.int .i64 (e.used : Int), .int .i64 (e.pins : Int)] 112) := fun e he => hF _ _ (List.mem_cons_of_mem _ (List.mem_cons_of_mem _ (List.mem_map.2 ⟨e, he, rfl⟩)))
  have hlen := hg.perm.length_eq
  have hul : us.length < 1073741824 := by simpa [viewC] using hN
  have hbn : ((es.map meC).map (·.born)).Nodup := by rw [borns_me]; exact hg.borns
  have hen : es.Nodup := nodup_of_born hg.borns
  have hL : (viewC us).map (·.1) = us.map (·.k) := by simp [viewC, List.map_map, Function.comp_def]
  rw [hL]
  refine Spec.of (n := 28) (vs := [.pointer (some ⟨cb, 0, none⟩)]) Try.func73 rfl Try.ntmps73 rfl ?_
  refine Vc.seq ?_
  refine Vc.text (List.range 2) (sd [(0, .eff), (1, .pure)]) rfl ?_
  refine Rg.box rfl rfl rfl rfl rfl (fun b1 => ?_)
  refine Rg.pure rfl rfl rfl (Pv.assign rfl) ?_
  refine Rg.nil ?_
  refine Vc.seq ?_
  refine Vc.text (List.range 7) (sd [(0, .read), (1, .pure), (2, .pure), (3, .read), (4, .read), (5, .eff), (6, .pure)]) rfl ?_
  refine Rg.read rfl rfl rfl (Ev.ld rfl rfl) ?_
  refine Rg.pure rfl rfl rfl (Pv.nilp rfl) ?_
  refine Rg.pure rfl rfl rfl (Pv.fa rfl) ?_
  refine Rg.read rfl rfl rfl (Ev.ld rfl rfl) ?_
  refine Rg.read rfl rfl rfl (Ev.lenM rfl) ?_
  refine Rg.make0 keyEp rfl rfl rfl rfl rfl (by simp [maxLen] <;> omega) (fun b10 sp10 own10 => ?_)
  refine Rg.pure rfl rfl rfl (Pv.assign rfl) ?_
  refine Rg.nil ?_
  refine Vc.seq ?_
  refine Vc.seq ?_
  refine Vc.text (List.range 5) (sd [(0, .read), (1, .pure), (2, .pure), (3, .read), (4, .eff)]) rfl ?_
  refine Rg.read rfl rfl rfl (Ev.ld rfl rfl) ?_
  refine Rg.pure rfl rfl rfl (Pv.nilp rfl) ?_
  refine Rg.pure rfl rfl rfl (Pv.fa rfl) ?_
  refine Rg.read rfl rfl rfl (Ev.ld rfl rfl) ?_
  refine Rg.range rfl rfl rfl rfl (fun b15 => ?_)
  refine Rg.nil ?_
  refine Vc.block ?_
  refine Vc.loop5 (fun (dn rs : List (Ce KTp)) (seen : Array Nat) (v : Value) (s : Hl) => es.Perm (dn ++ rs) ∧ (∀ e ∈ es, seen.contains e.born = true ↔ e ∈ dn) ∧ Own keyEp v (dn.map (·.k)) s) (fun dn rs seen v s => [(1, .pointer (some ⟨b1, 0, none⟩)), (3, v), (15, .pointer (some ⟨b15, 0, none⟩))]) (fun dn rs seen v s => (b15, .mapIter (some mb) mc seen mc) :: (b1, cellsO [.pointer (some ⟨cb, 0, none⟩)] 51) :: s) (fun dn rs seen v s => rs.length) [] es #[] _ [(b10, rowS keyEp [] sp10)] ⟨.refl _, by simp, own10⟩ (.cons rfl (.cons rfl (.cons rfl .nil))) pulled ?_
  rintro dn rs seen v s ⟨hp, hseen, own⟩
  have hpl := hp.length_eq
  simp only [List.length_append] at hpl
  refine Vc.seq ?_
  refine Vc.text (List.range 2) (sd [(0, .eff), (1, .pure)]) rfl ?_
  refine Rg.next rfl rfl rfl rfl (fun m hm => by obtain ⟨e, he, rfl⟩ := List.mem_map.1 hm; exact hg.old e he) (Nat.le_refl _) rfl (fun all16 => ?_) (fun m16 mem16 new16 => ?_)
  ·
    have hrs : rs = [] := List.eq_nil_iff_forall_not_mem.2 fun e he => by
      have hees : e ∈ es := hp.mem_iff.2 (List.mem_append_right _ he)
      have hd := (hseen e hees).1 (all16 (meC e) (List.mem_map.2 ⟨e, hees, rfl⟩))
      exact (List.nodup_append.1 (hp.nodup_iff.1 hen)).2.2 e hd e he rfl
    subst hrs
    rw [List.append_nil] at hp
    have hdu : dn.Perm us := hp.symm.trans hg.perm
    refine Rg.pure rfl rfl rfl (Pv.extract rfl rfl) ?_
    refine Rg.nil ?_
    refine Vc.seq ?_
    refine Vc.condF rfl ?_
    refine Vc.exit rfl ?_
    refine Vc.seq ?_
    refine Vc.text (List.range 3) (sd [(0, .pure), (1, .pure), (2, .eff)]) rfl ?_
    refine Rg.pure rfl rfl rfl (Pv.move rfl) ?_
    refine Rg.pure rfl rfl rfl (Pv.mkF rfl rfl) ?_
    refine Rg.callH rfl rfl rfl (run_callF rfl) (fun F' hF' => sort_ownp (F := F') own (usedOf us) #[.pointer (some ⟨b1, 0, none⟩)] (by simp; omega) (fun F2 hF2 x hx y hy => by obtain ⟨x1, hx1, rfl⟩ := List.mem_map.1 hx; obtain ⟨y1, hy1, rfl⟩ := List.mem_map.1 hy; have hx2 := hdu.mem_iff.1 hx1; have hy2 := hdu.mem_iff.1 hy1; rw [usedOf_eq hg.keys hx2, usedOf_eq hg.keys hy2]; exact @cmp_specp F2 cb fr ck mb mc b1 es us hg hck ⟨hF2 _ _ (hF' _ _ (.inl mem_pull))⟩ ⟨hF2 _ _ (hF' _ _ (.inr f2.at_))⟩ ⟨hF2 _ _ (hF' _ _ (.inr f3.at_))⟩ (fun e he => hF2 _ _ (hF' _ _ (.inr (f4 e he)))) x1 y1 hx2 hy2)) rfl ?_
    rintro v26 s26 ⟨ys, own26, hperm, hsort⟩
    have hys : ys = us.map (·.k) := sorted_one (usedOf us) (hperm.trans (hdu.map _)) hsort (by rw [List.pairwise_map]; exact hg.rise.imp_of_mem (fun ha hb h => by rw [usedOf_eq hg.keys ha, usedOf_eq hg.keys hb]; omega))
    rw [hys] at own26
    refine Rg.nil ?_
    refine Vc.seq ?_
    refine Vc.text (List.range 2) (sd [(0, .pure), (1, .pure)]) rfl ?_
    refine Rg.pure rfl rfl rfl (Pv.move rfl) ?_
    refine Rg.pure rfl rfl rfl (Pv.assign rfl) ?_
    refine Rg.nil ?_
    exact Vc.ret (Vc.retsH rfl (.cons (.tmp rfl) (.nil)) (own26) pulled)
  ·
    obtain ⟨e, he, rfl⟩ := List.mem_map.1 mem16
    have hers : e ∈ rs := by
      rcases List.mem_append.1 (hp.mem_iff.1 he) with h | h
      · rw [(hseen e he).2 h] at new16; cases new16
      · exact h
    obtain ⟨A, B, rfl⟩ := List.append_of_mem hers
    simp only [List.length_append, List.length_cons] at hpl
    refine Rg.pure rfl rfl rfl (Pv.extract rfl rfl) ?_
    refine Rg.nil ?_
    refine Vc.seq ?_
    refine Vc.condT rfl ?_
    refine Vc.skip ?_
    refine Vc.block ?_
    refine Vc.seq ?_
    refine Vc.text (List.range 4) (sd [(0, .read), (1, .pure), (2, .eff), (3, .eff)]) rfl ?_
    refine Rg.read rfl rfl rfl (Ev.entry (meC e) rfl (mem16) (hbn)) ?_
    refine Rg.pure rfl rfl rfl (Pv.extract rfl rfl) ?_
    refine Rg.alloc rfl rfl rfl rfl (fun b4 => ?_)
    refine Rg.storeA rfl rfl rfl rfl rfl rfl rfl rfl ?_
    refine Rg.nil ?_
    refine Vc.text (List.range 5) (sd [(0, .pure), (1, .read), (2, .eff), (3, .eff), (4, .pure)]) rfl ?_
    refine Rg.pure rfl rfl rfl (Pv.move rfl) ?_
    refine Rg.read rfl rfl rfl (Ev.ldA rfl rfl) ?_
    refine Rg.bslice1 rfl rfl rfl rfl rfl rfl rfl (fun b22 => ?_)
    refine Rg.append rfl rfl rfl rfl rfl own (Src.one (y := e.k) rfl) (by simp <;> omega) (by simp [maxLen] <;> omega) rfl (fun v23 s23 own23 => ?_)
    refine Rg.pure rfl rfl rfl (Pv.assign rfl) ?_
    refine Rg.nil ?_
    refine Vc.blk ?_
    exact Vc.inv5 (dn ++ [e]) (A ++ B) (seen.push e.born) v23 s23 ⟨⟨hp.trans (by rw [List.append_assoc]; exact (List.perm_middle (l₁ := A) (l₂ := B)).append_left dn), seen_step hg.borns he hseen, by rw [List.map_append]; exact own23⟩, by simp⟩ (.cons rfl (.cons rfl (.cons rfl .nil))) pulled
end Go.Proofs.Ytjhegjcjplpmjaa
