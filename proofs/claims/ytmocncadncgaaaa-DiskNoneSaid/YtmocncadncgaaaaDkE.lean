/- Disks: a map's keys, one by one. -/
import Derived.Test.YtmocncadncgaaaaDkD
import Derived.Test.YtmocncadncgaaaaSlM
import Derived.Sort.EncStr
namespace Go.Proofs.Ytmocncadncgaaaa
set_option linter.unusedVariables false

abbrev kS : List UInt8 → Value := encStr
instance : KeyTy Try.prog 9 kS := ⟨⟨.string, Try.underlying9, fun _ => trivial⟩, fun a b h => by simpa [kS, encStr] using h⟩
def strE : Enc (List UInt8) where
  k := 1
  tid := 9
  cells := fun s => [kS s]
  val := kS
  pos := by decide
  len := fun _ => rfl
  one := fun x v hv => by simp at hv; subst hv; rfl
  vc := fun _ => rfl
instance : RowTy Try.prog strE 9 := ⟨Try.sizeOf9, .inr ⟨Try.isAgg9, rfl, fun _ => rfl⟩⟩
instance : TySl Try.prog 30 strE 16 := ⟨Try.underlying30, Try.t9, .string ⟨#[]⟩, by kernel_rfl, by kernel_rfl, rfl, rfl, rfl⟩

theorem keysF_spec {F : Fm} {mb : Nat} : Spec Try.prog 55 #[.map (some mb)] F [] fun v s => ∃ bx, v = .func (.func 75) #[] #[.pointer (some ⟨bx, 0, none⟩)] ∧ s = [(bx, cellsO [.map (some mb)] 65)] := by
  refine Spec.of (n := 4) (vs := [.map (some mb)]) Try.func55 rfl Try.ntmps55 rfl ?_
  refine Vc.seq ?_
  refine Vc.text (List.range 2) (sd [(0, .eff), (1, .pure)]) rfl ?_
  refine Rg.box rfl rfl rfl rfl rfl (fun b1 => ?_)
  refine Rg.pure rfl rfl rfl (Pv.assign rfl) ?_
  refine Rg.nil ?_
  refine Vc.seq ?_
  refine Vc.text (List.range 2) (sd [(0, .pure), (1, .pure)]) rfl ?_
  refine Rg.pure rfl rfl rfl (Pv.mkF rfl rfl) ?_
  refine Rg.pure rfl rfl rfl (Pv.assign rfl) ?_
  refine Rg.nil ?_
  exact Vc.ret (Vc.retsH rfl (.cons (.tmp rfl) (.nil)) (⟨b1, rfl, rfl⟩) pulled)

section
variable {κ : Type}
theorem me_inj {ms : List (Me κ)} (hb : (ms.map (·.born)).Nodup) {x y : Me κ} (hx : x ∈ ms) (hy : y ∈ ms) (h : x.born = y.born) : x = y := by
  induction ms with
  | nil => cases hx
  | cons a ms ih =>
    rw [List.map_cons, List.nodup_cons] at hb
    rcases List.mem_cons.1 hx with rfl | hx'
    · rcases List.mem_cons.1 hy with rfl | hy'
      · rfl
      · exact absurd (List.mem_map.2 ⟨y, hy', h.symm⟩) hb.1
    · rcases List.mem_cons.1 hy with rfl | hy'
      · exact absurd (List.mem_map.2 ⟨x, hx', h⟩) hb.1
      · exact ih hb.2 hx' hy'
theorem me_seen {ms dn : List (Me κ)} {seen : Array Nat} {e : Me κ} (hb : (ms.map (·.born)).Nodup) (he : e ∈ ms) (h : ∀ x ∈ ms, seen.contains x.born = true ↔ x ∈ dn) :
    ∀ x ∈ ms, (seen.push e.born).contains x.born = true ↔ x ∈ dn ++ [e] := fun x hx => by
  rw [Array.contains_push, Bool.or_eq_true, h x hx, List.mem_append, List.mem_singleton]
  constructor
  · rintro (h | h)
    · exact .inl h
    · exact .inr (me_inj hb hx he (by simpa using h))
  · rintro (h | h)
    · exact .inl h
    · exact .inr (by rw [h]; simp)
theorem me_nodup {ms : List (Me κ)} (hb : (ms.map (·.born)).Nodup) : ms.Nodup := by
  induction ms with
  | nil => exact .nil
  | cons a ms ih =>
    rw [List.map_cons, List.nodup_cons] at hb
    exact List.nodup_cons.2 ⟨fun h => hb.1 (List.mem_map.2 ⟨a, h, rfl⟩), ih hb.2⟩
end
theorem keys_iter {F : Fm} {mb mc bx : Nat} {ms : List (Me (List UInt8))} (hmap : F.at_ mb (mapO kS ms mc)) (hold : ∀ m ∈ ms, m.born < mc) (hbn : (ms.map (·.born)).Nodup) :
    Iter Try.prog 75 [.pointer (some ⟨bx, 0, none⟩)] F (fun k => [kS k]) (fun pre => pre.length ≤ ms.length) (fun ys => ys.Perm (ms.map (·.k))) [(bx, cellsO [.map (some mb)] 65)] := by
  intro lr J F1 hF1 hY hc0 hJ0
  have f3 : Fat F1 mb (mapO kS ms mc) := ⟨hF1 _ _ hmap⟩
  have hnd := me_nodup hbn
  refine Spec.of (n := 14) (vs := [.func (.yield lr) #[] #[], .pointer (some ⟨bx, 0, none⟩)]) Try.func75 rfl Try.ntmps75 rfl ?_
  refine Vc.seq ?_
  refine Vc.text (List.range 2) (sd [(0, .read), (1, .eff)]) rfl ?_
  refine Rg.read rfl rfl rfl (Ev.ld rfl rfl) ?_
  refine Rg.range rfl rfl rfl rfl (fun b5 => ?_)
  refine Rg.nil ?_
  refine Vc.block ?_
  refine Vc.loop4 (fun (dn rs : List (Me (List UInt8))) (seen : Array Nat) (hc : Hl) => ms.Perm (dn ++ rs) ∧ (∀ e ∈ ms, seen.contains e.born = true ↔ e ∈ dn) ∧ J (dn.map (·.k)) hc) (fun dn rs seen hc => [(0, .func (.yield lr) #[] #[]), (5, .pointer (some ⟨b5, 0, none⟩))]) (fun dn rs seen hc => (b5, .mapIter (some mb) mc seen mc) :: hc) (fun dn rs seen hc => rs.length) [] ms #[] hc0 ⟨.refl _, fun e he => by simp, hJ0⟩ (.cons rfl (.cons rfl .nil)) pulled ?_
  rintro dn rs seen hc ⟨hp, hseen, hJ⟩
  refine Vc.seq ?_
  refine Vc.text (List.range 2) (sd [(0, .eff), (1, .pure)]) rfl ?_
  refine Rg.next rfl rfl rfl rfl (hold) (Nat.le_refl _) rfl (fun all6 => ?_) (fun m6 mem6 new6 => ?_)
  ·
    have hrs : rs = [] := List.eq_nil_iff_forall_not_mem.2 fun e he => by
      have hees : e ∈ ms := hp.mem_iff.2 (List.mem_append_right _ he)
      have hd := (hseen e hees).1 (all6 e hees)
      exact (List.nodup_append.1 (hp.nodup_iff.1 hnd)).2.2 e hd e he rfl
    subst hrs
    rw [List.append_nil] at hp
    refine Rg.pure rfl rfl rfl (Pv.extract rfl rfl) ?_
    refine Rg.nil ?_
    refine Vc.seq ?_
    refine Vc.condF rfl ?_
    refine Vc.exit rfl ?_
    exact Vc.fin (Vc.retsH rfl .nil (⟨dn.map (·.k), (hp.map _).symm, hJ⟩) pulled)
  ·
    have hers : m6 ∈ rs := by
      rcases List.mem_append.1 (hp.mem_iff.1 mem6) with h | h
      · rw [(hseen m6 mem6).2 h] at new6; cases new6
      · exact h
    obtain ⟨A, B, rfl⟩ := List.append_of_mem hers
    have hpl := hp.length_eq
    simp only [List.length_append, List.length_cons] at hpl
    refine Rg.pure rfl rfl rfl (Pv.extract rfl rfl) ?_
    refine Rg.nil ?_
    refine Vc.seq ?_
    refine Vc.condT rfl ?_
    refine Vc.skip ?_
    refine Vc.block ?_
    refine Vc.seq ?_
    refine Vc.text (List.range 3) (sd [(0, .read), (1, .pure), (2, .pure)]) rfl ?_
    refine Rg.read rfl rfl rfl (Ev.entry (m6) rfl (mem6) (hbn)) ?_
    refine Rg.pure rfl rfl rfl (Pv.extract rfl rfl) ?_
    refine Rg.pure rfl rfl rfl (Pv.assign rfl) ?_
    refine Rg.nil ?_
    refine Vc.seq ?_
    refine Vc.text (List.range 4) (sd [(0, .pure), (1, .pure), (2, .eff), (3, .pure)]) rfl ?_
    refine Rg.pure rfl rfl rfl (Pv.move rfl) ?_
    refine Rg.pure rfl rfl rfl (Pv.move rfl) ?_
    refine Rg.yieldH rfl rfl rfl rfl rfl (fun F' hF' => hY (dn.map (·.k)) m6.k (by simp; omega) hc hJ F' (fun b o h => hF' b o (.inr h))) rfl ?_
    rintro _ hc' ⟨rfl, hJ'⟩
    refine Rg.pure rfl rfl rfl (Pv.not rfl) ?_
    refine Rg.nil ?_
    refine Vc.cond rfl (fun h13 => absurd h13 (by simp)) (fun h13 => ?_)
    refine Vc.skip ?_
    refine Vc.blk ?_
    exact Vc.inv4 (dn ++ [m6]) (A ++ B) (seen.push m6.born) hc' ⟨⟨hp.trans (by rw [List.append_assoc]; exact (List.perm_middle (l₁ := A) (l₂ := B)).append_left dn), me_seen hbn mem6 hseen, by rw [List.map_append]; exact hJ'⟩, by simp⟩ (.cons rfl (.cons rfl .nil)) pulled
end Go.Proofs.Ytmocncadncgaaaa
