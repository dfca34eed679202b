/- Runs: Merge. -/
import Derived.Test.YtkkbeljmloikkaaRuMp
namespace Go.Proofs.Ytkkbeljmloikkaa
set_option linter.unusedVariables false
open HH (Hd)

theorem next_spec {F : Fm} (K : Fm → Prop) (hKF : ∀ F' : Fm, (∀ b o, F.at_ b o → F'.at_ b o) → K F') (b6 b7 br n : Nat) (vs : List Sv) (rss : List (List Rc)) (hs : List Hd) (sH : Hl) (i : Nat) (hi : i < n) (hvl : vs.length = n) (hrl : rss.length = n)
    (hra : ∀ F', K F' → ∀ j, j < n → Arg recE F' vs[j]!.v rss[j]!) (hh : HH.HeapAt b7 hs sH) (hn : hs.length < 4000000) (hn2 : n < 1000000) (hrn : rss[i]!.length < 1000000) :
    Spec Try.prog 30 #[.int .i64 (i : Int), .pointer (some ⟨b6, 0, none⟩), .pointer (some ⟨b7, 0, none⟩)] F ((b6, cellsO [.slice (some ⟨br, 0, none⟩) n n] 28) :: (br, rowS slE vs []) :: sH) fun _ s => ∃ vs' sH', s = (b6, cellsO [.slice (some ⟨br, 0, none⟩) n n] 28) :: (br, rowS slE vs' []) :: sH' ∧ vs'.length = n ∧ HH.HeapAt b7 (nextH hs rss i) sH' ∧ ∀ F', K F' → ∀ j, j < n → Arg recE F' vs'[j]!.v (nextR rss i)[j]! := by
  have hg : ∀ j, j < n → (nextR rss i)[j]! = if i = j then rss[i]!.drop 1 else rss[j]! := fun j hj => set_get' _ _ _ _ (by omega)
  have hai := hra F (hKF F fun _ _ h => h) i hi
  have hra1 := fun F' h => hra F' h i hi
  obtain ⟨s, hsv⟩ : ∃ s, vs[i]! = s := ⟨_, rfl⟩
  obtain ⟨p, m, c⟩ := s
  rw [hsv] at hai hra1
  have hm : m = rss[i]!.length := hai.cap.1
  subst hm
  unfold nextH
  obtain ⟨ys, hys⟩ : ∃ ys, rss[i]! = ys := ⟨_, rfl⟩
  rw [hys] at hai hg hsv hrn hra1 ⊢
  refine Spec.of (n := 27) (vs := [.int .i64 (i : Int), .pointer (some ⟨b6, 0, none⟩), .pointer (some ⟨b7, 0, none⟩)]) Try.func30 rfl Try.ntmps30 rfl ?_
  refine Vc.seq ?_
  refine Vc.text (List.range 6) (sd [(0, .read), (1, .pure), (2, .pure), (3, .read), (4, .pure), (5, .pure)]) rfl ?_
  refine Rg.read rfl rfl rfl (Ev.ld rfl rfl) ?_
  refine Rg.pure rfl rfl rfl (Pv.move rfl) ?_
  refine Rg.pure rfl rfl rfl (Pv.ixA (i) rfl rfl (by omega) (by omega)) ?_
  refine Rg.read rfl rfl rfl (Ev.as (.slice p ys.length c) (Ev.ldR (E := slE) i rfl (Nat.zero_add _) (by omega)) (congrArg slE.val hsv)) ?_
  refine Rg.pure rfl rfl rfl (Pv.lenS rfl) ?_
  refine Rg.pure rfl rfl rfl (Pv.gtr rfl rfl) ?_
  refine Rg.nil ?_
  refine Vc.cond rfl (fun h9 => ?_) (fun h9 => ?_)
  ·
    simp only [decide_eq_true_eq] at h9
    cases ys with
    | nil => simp at h9
    | cons x l =>
    obtain ⟨b, off, c', e, hcc⟩ := hai.block (by simp)
    cases e
    refine Vc.seq ?_
    refine Vc.text (List.range 9) (sd [(0, .read), (1, .pure), (2, .pure), (3, .read), (4, .pure), (5, .read), (6, .pure), (7, .pure), (8, .eff)]) rfl ?_
    refine Rg.read rfl rfl rfl (Ev.ld rfl rfl) ?_
    refine Rg.pure rfl rfl rfl (Pv.move rfl) ?_
    refine Rg.pure rfl rfl rfl (Pv.ixA (i) rfl rfl (by omega) (by omega)) ?_
    refine Rg.read rfl rfl rfl (Ev.as (.slice (some ⟨b, off, none⟩) (x :: l).length c) (Ev.ldR (E := slE) i rfl (Nat.zero_add _) (by omega)) (congrArg slE.val hsv)) ?_
    refine Rg.pure rfl rfl rfl (Pv.ixA 0 rfl rfl rfl (by simp)) ?_
    refine Rg.read rfl rfl rfl (Ev.as (recV x) (Ev.ldS 0 hai.src rfl rfl (by simp) (by simp)) rfl) ?_
    refine Rg.pure rfl rfl rfl (Pv.move rfl) ?_
    refine Rg.pure rfl rfl rfl (Pv.build (c := #[.int .u64 x.key, .int .u64 x.val, .int .i64 (i : Int)]) rfl rfl) ?_
    refine Rg.callH rfl rfl rfl (run_callF rfl) (fun F' hF' => HH.push_at F' b7 hs ⟨x.key, x.val, (i : Int)⟩ sH hh (by omega)) rfl ?_
    rintro v18 sH' hh'
    refine Rg.nil ?_
    refine Vc.draw [8] (sd [(0, .read), (1, .pure), (2, .read), (3, .pure), (4, .pure), (5, .read), (6, .pure), (7, .pure), (8, .eff)]) mixed (by kernel_rfl) ?_
    refine Rg.read rfl rfl rfl (Ev.ld rfl rfl) ?_
    refine Rg.pure rfl rfl rfl (Pv.move rfl) ?_
    refine Rg.read rfl rfl rfl (Ev.ld rfl rfl) ?_
    refine Rg.pure rfl rfl rfl (Pv.move rfl) ?_
    refine Rg.pure rfl rfl rfl (Pv.ixA (i) rfl rfl (by omega) (by omega)) ?_
    refine Rg.read rfl rfl rfl (Ev.as (.slice (some ⟨b, off, none⟩) (x :: l).length c) (Ev.ldR (E := slE) i rfl (Nat.zero_add _) (by omega)) (congrArg slE.val hsv)) ?_
    refine Rg.pure rfl rfl rfl (Pv.slFrom 1 rfl rfl (by simp) hcc) ?_
    refine Rg.pure rfl rfl rfl (Pv.ixA (i) rfl rfl (by omega) (by omega)) ?_
    refine Rg.storeR (E := slE) (z := ⟨some ⟨b, if c = 1 then off else off + 1 * 2, none⟩, (x :: l).length - 1, c - 1⟩) i rfl rfl rfl rfl rfl rfl (Nat.zero_add _) (by omega) rfl ?_
    refine Rg.nil ?_
    exact Vc.fin (Vc.retsH rfl .nil (⟨vs.set i ⟨some ⟨b, if c = 1 then off else off + 1 * 2, none⟩, (x :: l).length - 1, c - 1⟩, sH', rfl, by simpa using hvl, hh', fun F' hK j hj => by
      rw [hg j hj, set_get' _ _ _ _ (by omega)]
      by_cases e : i = j
      · rw [if_pos e, if_pos e]
        have := (hra1 F' hK).sub 1 (x :: l).length (by simp) (Nat.le_refl _)
        rwa [List.take_of_length_le (by simp)] at this
      · rw [if_neg e, if_neg e]; exact hra F' hK j hj⟩) pulled)
  ·
    simp only [decide_eq_false_iff_not] at h9
    obtain rfl : ys = [] := List.length_eq_zero_iff.1 (by omega)
    refine Vc.skip ?_
    exact Vc.fin (Vc.retsH rfl .nil (⟨vs, sH, rfl, hvl, hh, fun F' hK j hj => by
      rw [hg j hj]
      by_cases e : i = j
      · subst e; rw [if_pos rfl, hsv]; exact hra1 F' hK
      · rw [if_neg e]; exact hra F' hK j hj⟩) pulled)
end Go.Proofs.Ytkkbeljmloikkaa
