/- The statements' functions: HeapLast, HeapAgain. -/
import Derived.Test.YtbhgbhhdpcehbaaHpF
namespace Go.Proofs.Ytbhgbhhdpcehbaa
set_option linter.unusedVariables false

def InR (r : Rc) : Prop := 0 ≤ r.key ∧ r.key ≤ 18446744073709551615 ∧ 0 ≤ r.val ∧ r.val ≤ 18446744073709551615
abbrev lastR : Rc := ⟨18446744073709551615, 18446744073709551615⟩
theorem last_geR {r : Rc} (h : InR r) : ltR lastR r = false := by
  obtain ⟨h1, h2, h3, h4⟩ := h
  have hk : lastR.key = 18446744073709551615 := rfl
  have hv : lastR.val = 18446744073709551615 := rfl
  cases e : ltR lastR r with
  | false => rfl
  | true =>
    rw [ltR_iff, hk, hv] at e
    omega
theorem zero_leR {r : Rc} (h : InR r) : ltR r ⟨0, 0⟩ = false := by
  obtain ⟨h1, h2, h3, h4⟩ := h
  cases e : ltR r ⟨0, 0⟩ with
  | false => rfl
  | true =>
    rw [ltR_iff] at e
    simp only at e
    omega
theorem hd_mem {X : List Rc} (h0 : 0 < X.length) : hd X ∈ X := by
  rw [hd_get h0, getElem!_pos X 0 h0]; exact List.getElem_mem _
theorem hd_zero {X : List Rc} (h : HeapOK X) (hz : (⟨0, 0⟩ : Rc) ∈ X) (hr : ∀ a ∈ X, InR a) : hd X = ⟨0, 0⟩ :=
  geR_antisymm (zero_leR (hr _ (hd_mem (List.length_pos_of_mem hz)))) (hd_least h hz)
theorem last_stays {X : List Rc} (h : HeapOK X) (hl : lastR ∈ X) (hr : ∀ a ∈ X, InR a) (h2 : 2 ≤ X.length) : lastR ∈ popL X := by
  have h0 : 0 < X.length := by omega
  have hp := pop_perm X h0
  rw [← hd_get h0] at hp
  rcases List.mem_cons.1 (hp.mem_iff.1 hl) with e | hm
  · have hlen := popL_length X
    have h1 : 0 < (popL X).length := by omega
    have hm := hd_mem h1
    have hmX := mem_pop hm
    have : hd (popL X) = lastR := geR_antisymm (by rw [e]; exact hd_least h hmX) (last_geR (hr _ hmX))
    rwa [this] at hm
  · exact hm
theorem inR_last : InR lastR := ⟨by decide, by decide, by decide, by decide⟩
theorem inR_zero : InR ⟨0, 0⟩ := ⟨by decide, by decide, by decide, by decide⟩

theorem all_push {X : List Rc} {x : Rc} (h : ∀ a ∈ X, InR a) (hx : InR x) : ∀ a ∈ pushL X x, InR a := fun a ha => by
  rcases List.mem_cons.1 ((push_perm X x).mem_iff.1 ha) with e | ha
  · rw [e]; exact hx
  · exact h a ha
theorem hd_only {X : List Rc} {a : Rc} (h : a ∈ X) (h1 : X.length = 1) : hd X = a := by
  rcases X with _ | ⟨x, _ | ⟨y, X⟩⟩
  · simp at h
  · simp at h; exact h.symm
  · simp at h1

theorem HeapLast_spec (F : Fm) (v0 : Value) (xs : List Rc) (ha : Arg recE F v0 xs) (hr : ∀ a ∈ xs, InR a) :
    Spec Try.prog 6 #[v0] F [] fun v _ => v = .bool true := by
  obtain ⟨p0, c0, rfl⟩ := ha.shape
  refine Spec.of (n := 88) (vs := [.slice p0 xs.length c0]) Try.func6 rfl Try.ntmps6 rfl ?_
  obtain ⟨m, hm⟩ : ∃ m, m = min xs.length 100 := ⟨_, rfl⟩
  refine Vc.seq ?_
  refine Vc.text (List.range 1) (sd [(0, .pure)]) rfl ?_
  refine Rg.pure rfl rfl rfl (Pv.assign rfl) ?_
  refine Rg.nil ?_
  refine Vc.seq ?_
  refine Vc.text (List.range 2) (sd [(0, .eff), (1, .pure)]) rfl ?_
  refine Rg.callP rfl rfl rfl (run_callF rfl) (shown_spec _) ?_
  rintro _ rfl
  refine Rg.pure rfl rfl rfl (Pv.assign rfl) ?_
  refine Rg.nil ?_
  refine Vc.seq ?_
  refine Vc.text (List.range 3) (sd [(0, .pure), (1, .eff), (2, .pure)]) rfl ?_
  refine Rg.pure rfl rfl rfl (Pv.build rfl rfl) ?_
  refine Rg.box rfl rfl rfl rfl rfl (fun b17 => ?_)
  refine Rg.pure rfl rfl rfl (Pv.assign rfl) ?_
  refine Rg.nil ?_
  refine Vc.seq ?_
  refine Vc.text (List.range 3) (sd [(0, .pure), (1, .eff), (2, .eff)]) rfl ?_
  refine Rg.pure rfl rfl rfl (Pv.build (c := #[.int .u64 18446744073709551615, .int .u64 18446744073709551615]) rfl rfl) ?_
  refine Rg.alloc rfl rfl rfl rfl (fun b5 => ?_)
  refine Rg.storeA rfl rfl rfl rfl rfl rfl rfl rfl ?_
  refine Rg.nil ?_
  refine Vc.seq ?_
  refine Vc.text (List.range 3) (sd [(0, .pure), (1, .read), (2, .eff)]) rfl ?_
  refine Rg.pure rfl rfl rfl (Pv.move rfl) ?_
  refine Rg.read rfl rfl rfl (Ev.ldA rfl rfl) ?_
  refine Rg.callH rfl rfl rfl (run_callF rfl) (fun F' hF' => push_at F' b17 [] lastR _ (heap_nil b17) (by simp)) rfl ?_
  rintro v21 s1 h1
  refine Rg.nil ?_
  refine Vc.seq ?_
  refine Vc.text (List.range 4) (sd [(0, .pure), (1, .pure), (2, .pure), (3, .pure)]) rfl ?_
  refine Rg.pure rfl rfl rfl (Pv.move rfl) ?_
  refine Rg.pure rfl rfl rfl (Pv.lenS rfl) ?_
  refine Rg.pure rfl rfl rfl (Pv.asI (m) (Pv.min rfl rfl) (by omega)) ?_
  refine Rg.pure rfl rfl rfl (Pv.assign rfl) ?_
  refine Rg.nil ?_
  refine Vc.seq ?_
  refine Vc.seq ?_
  refine Vc.text (List.range 1) (sd [(0, .pure)]) rfl ?_
  refine Rg.pure rfl rfl rfl (Pv.assign rfl) ?_
  refine Rg.nil ?_
  refine Vc.block ?_
  refine Vc.loop3 (fun (i : Nat) (X : List Rc) (sx : Hl) => i ≤ m ∧ X.length = i + 1 ∧ lastR ∈ X ∧ (∀ a ∈ X, InR a) ∧ HeapOK X ∧ HeapAt b17 X sx) (fun i X sx => [(0, .slice p0 xs.length c0), (3, .bool true), (4, .pointer (some ⟨b17, 0, none⟩)), (5, .pointer (some ⟨b5, 0, none⟩)), (6, .int .i64 (m : Int)), (7, .int .i64 (i : Int))]) (fun i X sx => (b5, cellsO (recC lastR) 30) :: sx) (fun i X sx => m - i) 0 (pushL [] lastR) s1 ⟨by omega, by rw [pushL_length]; simp, (push_perm [] lastR).mem_iff.2 List.mem_cons_self, fun a h => by have := (push_perm [] lastR).mem_iff.1 h; simp at this; subst this; exact inR_last, push_ok HeapOK.nil _, h1⟩ (.cons rfl (.cons rfl (.cons rfl (.cons rfl (.cons rfl (.cons rfl .nil)))))) pulled ?_
  rintro i X sx ⟨h1, h2, h3, h4, hX, hx⟩
  refine Vc.seq ?_
  refine Vc.seq ?_
  refine Vc.text (List.range 3) (sd [(0, .pure), (1, .pure), (2, .pure)]) rfl ?_
  refine Rg.pure rfl rfl rfl (Pv.move rfl) ?_
  refine Rg.pure rfl rfl rfl (Pv.move rfl) ?_
  refine Rg.pure rfl rfl rfl (Pv.lss rfl rfl) ?_
  refine Rg.nil ?_
  refine Vc.cond rfl (fun h27 => ?_) (fun h27 => ?_)
  ·
    simp only [decide_eq_true_eq] at h27
    obtain ⟨b0, o0, cc0, e0, _⟩ := ha.block (by omega)
    cases e0
    refine Vc.skip ?_
    refine Vc.seq ?_
    refine Vc.block ?_
    refine Vc.text (List.range 6) (sd [(0, .pure), (1, .pure), (2, .pure), (3, .pure), (4, .read), (5, .eff)]) rfl ?_
    refine Rg.pure rfl rfl rfl (Pv.move rfl) ?_
    refine Rg.pure rfl rfl rfl (Pv.move rfl) ?_
    refine Rg.pure rfl rfl rfl (Pv.move rfl) ?_
    refine Rg.pure rfl rfl rfl (Pv.ixA (i) rfl rfl (by omega) (by omega)) ?_
    refine Rg.read rfl rfl rfl (Ev.ldS (i) (ha.src) rfl rfl rfl (by omega)) ?_
    refine Rg.callH rfl rfl rfl (run_callF rfl) (fun F' hF' => push_at F' b17 X xs[i]! _ hx (by omega)) rfl ?_
    rintro v35 sx' hx'
    refine Rg.nil ?_
    refine Vc.blk ?_
    refine Vc.text (List.range 3) (sd [(0, .pure), (1, .pure), (2, .pure)]) rfl ?_
    refine Rg.pure rfl rfl rfl (Pv.move rfl) ?_
    refine Rg.pure rfl rfl rfl (Pv.asI (i + 1) (Pv.add rfl rfl (by omega)) (by omega)) ?_
    refine Rg.pure rfl rfl rfl (Pv.assign rfl) ?_
    refine Rg.nil ?_
    exact Vc.inv3 (i + 1) (pushL X xs[i]!) sx' ⟨⟨by omega, by rw [pushL_length]; omega, (push_perm X _).mem_iff.2 (List.mem_cons_of_mem _ h3), all_push h4 (by rw [getElem!_pos xs i (by omega)]; exact hr _ (List.getElem_mem _)), push_ok hX _, hx'⟩, by omega⟩ (.cons rfl (.cons rfl (.cons rfl (.cons rfl (.cons rfl (.cons rfl .nil)))))) pulled
  ·
    simp only [decide_eq_false_iff_not] at h27
    refine Vc.exit rfl ?_
    refine Vc.seq ?_
    refine Vc.text (List.range 3) (sd [(0, .pure), (1, .pure), (2, .eff)]) rfl ?_
    refine Rg.pure rfl rfl rfl (Pv.move rfl) ?_
    refine Rg.pure rfl rfl rfl (Pv.build rfl rfl) ?_
    refine Rg.callH rfl rfl rfl (run_callF rfl) (fun F' hF' => push_at F' b17 X ⟨0, 0⟩ _ hx (by omega)) rfl ?_
    rintro v38 sz hz
    have hZ : HeapOK (pushL X ⟨0, 0⟩) := push_ok hX ⟨0, 0⟩
    have hzl := pushL_length X ⟨0, 0⟩
    have hzm : ∀ a, a ∈ pushL X ⟨0, 0⟩ ↔ a ∈ (⟨0, 0⟩ : Rc) :: X := fun a => (push_perm X _).mem_iff
    have hzr : ∀ a ∈ pushL X ⟨0, 0⟩, InR a := all_push h4 inR_zero
    have hz0 := hd_zero hZ ((hzm _).2 List.mem_cons_self) hzr
    have hzp := last_stays hZ ((hzm _).2 (List.mem_cons_of_mem _ h3)) hzr (by omega)
    generalize pushL X ⟨0, 0⟩ = Z at *
    refine Rg.nil ?_
    refine Vc.seq ?_
    refine Vc.text (List.range 8) (sd [(0, .pure), (1, .eff), (2, .pure), (3, .pure), (4, .pure), (5, .eff), (6, .eff), (7, .pure)]) rfl ?_
    refine Rg.pure rfl rfl rfl (Pv.move rfl) ?_
    refine Rg.callH rfl rfl rfl (run_callF rfl) (fun F' hF' => pop_hd F' b17 Z _ hz (by omega)) rfl ?_
    rintro _ sw ⟨rfl, hw⟩
    have hwl := popL_length Z
    refine Rg.pure rfl rfl rfl (Pv.move rfl) ?_
    refine Rg.pure rfl rfl rfl (Pv.extract rfl rfl) ?_
    refine Rg.pure rfl rfl rfl (Pv.extract rfl rfl) ?_
    refine Rg.alloc rfl rfl rfl rfl (fun b8 => ?_)
    refine Rg.storeA rfl rfl rfl rfl rfl rfl rfl rfl ?_
    refine Rg.pure rfl rfl rfl (Pv.assign rfl) ?_
    refine Rg.nil ?_
    refine Vc.seq ?_
    refine Vc.seq ?_
    refine Vc.text (List.range 14) (sd [(0, .pure), (1, .pure), (2, .pure), (3, .read), (4, .pure), (5, .pure), (6, .pure), (7, .pure), (8, .pure), (9, .eff), (10, .pure), (11, .pure), (12, .pure), (13, .pure)]) rfl ?_
    refine Rg.pure rfl rfl rfl (Pv.move rfl) ?_
    refine Rg.pure rfl rfl rfl (Pv.not rfl) ?_
    refine Rg.pure rfl rfl rfl (Pv.move rfl) ?_
    refine Rg.split (t := 46) rfl (fun h46 => absurd h46 (by rw [decide_eq_true (show 0 < Z.length by omega)]; simp)) (fun h46 => ?_)
    refine Rg.read rfl rfl rfl (Ev.ldA rfl rfl) ?_
    refine Rg.pure rfl rfl rfl (Pv.build rfl rfl) ?_
    refine Rg.pure rfl rfl rfl (Pv.neqE recE _ ⟨0, 0⟩ rfl rfl) ?_
    refine Rg.pure rfl rfl rfl (Pv.pickF rfl rfl) ?_
    refine Rg.pure rfl rfl rfl (Pv.move rfl) ?_
    refine Rg.split (t := 51) rfl (fun h51 => absurd h51 (by simp [hz0])) (fun h51 => ?_)
    refine Rg.pure rfl rfl rfl (Pv.move rfl) ?_
    refine Rg.callP rfl rfl rfl (run_callF rfl) (len_at hw frz_sb) ?_
    rintro _ rfl
    refine Rg.pure rfl rfl rfl (Pv.move rfl) ?_
    refine Rg.pure rfl rfl rfl (Pv.add rfl rfl (by omega)) ?_
    refine Rg.pure rfl rfl rfl (Pv.neq rfl rfl) ?_
    refine Rg.pure rfl rfl rfl (Pv.pickF rfl rfl) ?_
    refine Rg.nil ?_
    refine Vc.cond rfl (fun h57 => absurd h57 (by simp; omega)) (fun h57 => ?_)
    refine Vc.skip ?_
    refine Vc.seq ?_
    refine Vc.seq ?_
    refine Vc.text (List.range 1) (sd [(0, .pure)]) rfl ?_
    refine Rg.pure rfl rfl rfl (Pv.assign rfl) ?_
    refine Rg.nil ?_
    refine Vc.block ?_
    refine Vc.loop3 (fun (i : Nat) (X : List Rc) (sx : Hl) => i ≤ m ∧ X.length = m + 1 - i ∧ lastR ∈ X ∧ (∀ a ∈ X, InR a) ∧ HeapOK X ∧ HeapAt b17 X sx) (fun i X sx => [(3, .bool true), (4, .pointer (some ⟨b17, 0, none⟩)), (5, .pointer (some ⟨b5, 0, none⟩)), (6, .int .i64 (m : Int)), (10, .int .i64 (i : Int))]) (fun i X sx => (b5, cellsO (recC lastR) 30) :: sx) (fun i X sx => m - i) 0 _ sw ⟨by omega, by omega, hzp, fun a h => hzr a (mem_pop h), pop_ok hZ, hw⟩ (.cons rfl (.cons rfl (.cons rfl (.cons rfl (.cons rfl .nil))))) pulled ?_
    rintro i X sx ⟨h1, h2, h3, h4, hX, hx⟩
    refine Vc.seq ?_
    refine Vc.seq ?_
    refine Vc.text (List.range 3) (sd [(0, .pure), (1, .pure), (2, .pure)]) rfl ?_
    refine Rg.pure rfl rfl rfl (Pv.move rfl) ?_
    refine Rg.pure rfl rfl rfl (Pv.move rfl) ?_
    refine Rg.pure rfl rfl rfl (Pv.lss rfl rfl) ?_
    refine Rg.nil ?_
    refine Vc.cond rfl (fun h60 => ?_) (fun h60 => ?_)
    ·
      simp only [decide_eq_true_eq] at h60
      refine Vc.skip ?_
      refine Vc.seq ?_
      refine Vc.block ?_
      refine Vc.text (List.range 2) (sd [(0, .pure), (1, .eff)]) rfl ?_
      refine Rg.pure rfl rfl rfl (Pv.move rfl) ?_
      refine Rg.callH rfl rfl rfl (run_callF rfl) (fun F' hF' => pop_hd F' b17 X _ hx (by omega)) rfl ?_
      rintro _ sx' ⟨rfl, hx'⟩
      refine Rg.nil ?_
      refine Vc.blk ?_
      refine Vc.text (List.range 3) (sd [(0, .pure), (1, .pure), (2, .pure)]) rfl ?_
      refine Rg.pure rfl rfl rfl (Pv.move rfl) ?_
      refine Rg.pure rfl rfl rfl (Pv.asI (i + 1) (Pv.add rfl rfl (by omega)) (by omega)) ?_
      refine Rg.pure rfl rfl rfl (Pv.assign rfl) ?_
      refine Rg.nil ?_
      exact Vc.inv3 (i + 1) (popL X) sx' ⟨⟨by omega, by rw [popL_length]; omega, last_stays hX h3 h4 (by omega), fun a h => h4 a (mem_pop h), pop_ok hX, hx'⟩, by omega⟩ (.cons rfl (.cons rfl (.cons rfl (.cons rfl (.cons rfl .nil))))) pulled
    ·
      simp only [decide_eq_false_iff_not] at h60
      refine Vc.exit rfl ?_
      refine Vc.seq ?_
      refine Vc.text (List.range 8) (sd [(0, .pure), (1, .eff), (2, .pure), (3, .pure), (4, .pure), (5, .eff), (6, .eff), (7, .pure)]) rfl ?_
      refine Rg.pure rfl rfl rfl (Pv.move rfl) ?_
      refine Rg.callH rfl rfl rfl (run_callF rfl) (fun F' hF' => pop_hd F' b17 X _ hx (by omega)) rfl ?_
      rintro _ sp ⟨rfl, hp⟩
      have hXl : hd X = lastR := hd_only h3 (by omega)
      have hpl := popL_length X
      refine Rg.pure rfl rfl rfl (Pv.move rfl) ?_
      refine Rg.pure rfl rfl rfl (Pv.extract rfl rfl) ?_
      refine Rg.pure rfl rfl rfl (Pv.extract rfl rfl) ?_
      refine Rg.alloc rfl rfl rfl rfl (fun b11 => ?_)
      refine Rg.storeA rfl rfl rfl rfl rfl rfl rfl rfl ?_
      refine Rg.pure rfl rfl rfl (Pv.assign rfl) ?_
      refine Rg.nil ?_
      refine Vc.seq ?_
      refine Vc.text (List.range 8) (sd [(0, .pure), (1, .eff), (2, .pure), (3, .pure), (4, .pure), (5, .eff), (6, .eff), (7, .pure)]) rfl ?_
      refine Rg.pure rfl rfl rfl (Pv.move rfl) ?_
      refine Rg.callH rfl rfl rfl (run_callF rfl) (fun F' hF' => pop_hd F' b17 _ _ hp (by omega)) rfl ?_
      rintro _ sq ⟨rfl, hq⟩
      refine Rg.pure rfl rfl rfl (Pv.move rfl) ?_
      refine Rg.pure rfl rfl rfl (Pv.extract rfl rfl) ?_
      refine Rg.pure rfl rfl rfl (Pv.extract rfl rfl) ?_
      refine Rg.alloc rfl rfl rfl rfl (fun b13 => ?_)
      refine Rg.storeA rfl rfl rfl rfl rfl rfl rfl rfl ?_
      refine Rg.pure rfl rfl rfl (Pv.assign rfl) ?_
      refine Rg.nil ?_
      refine Vc.seq ?_
      refine Vc.text (List.range 14) (sd [(0, .pure), (1, .pure), (2, .pure), (3, .pure), (4, .pure), (5, .read), (6, .read), (7, .pure), (8, .pure), (9, .pure), (10, .pure), (11, .pure), (12, .pure), (13, .pure)]) rfl ?_
      refine Rg.pure rfl rfl rfl (Pv.move rfl) ?_
      refine Rg.pure rfl rfl rfl (Pv.move rfl) ?_
      refine Rg.split (t := 76) rfl (fun h76 => ?_) (fun h76 => absurd h76 (by simp))
      refine Rg.pure rfl rfl rfl (Pv.move rfl) ?_
      refine Rg.pure rfl rfl rfl (Pv.pickT rfl rfl) ?_
      refine Rg.pure rfl rfl rfl (Pv.move rfl) ?_
      refine Rg.split (t := 79) rfl (fun h79 => ?_) (fun h79 => absurd h79 (by rw [decide_eq_true (show 0 < X.length by omega)]; simp))
      refine Rg.read rfl rfl rfl (Ev.ldA rfl rfl) ?_
      refine Rg.read rfl rfl rfl (Ev.ldA rfl rfl) ?_
      refine Rg.pure rfl rfl rfl (Pv.eqlE recE (hd X) lastR rfl rfl) ?_
      refine Rg.pure rfl rfl rfl (Pv.pickT rfl rfl) ?_
      refine Rg.pure rfl rfl rfl (Pv.move rfl) ?_
      refine Rg.split (t := 84) rfl (fun h84 => ?_) (fun h84 => absurd h84 (by simp [hXl]))
      refine Rg.pure rfl rfl rfl (Pv.move rfl) ?_
      refine Rg.pure rfl rfl rfl (Pv.not rfl) ?_
      refine Rg.pure rfl rfl rfl (Pv.pickT rfl rfl) ?_
      refine Rg.pure rfl rfl rfl (Pv.assign rfl) ?_
      refine Rg.nil ?_
      refine Vc.ret (Vc.rets rfl (.cons (.tmp rfl) (.nil)) ?_)
      exact congrArg Value.bool (by rw [decide_eq_false (show ¬ 0 < (popL X).length by omega)]; rfl)

theorem HeapAgain_spec (F : Fm) (v0 : Value) (q : Int) (xs : List Rc) (ha : Arg recE F v0 xs) :
    Spec Try.prog 7 #[v0, .int .i64 q] F [] fun v _ => v = .bool true := by
  obtain ⟨p0, c0, rfl⟩ := ha.shape
  refine Spec.of (n := 77) (vs := [.slice p0 xs.length c0, .int .i64 q]) Try.func7 rfl Try.ntmps7 rfl ?_
  have hand := andN_le (p := q) (q := 65535) (by omega)
  refine Vc.seq ?_
  refine Vc.text (List.range 1) (sd [(0, .pure)]) rfl ?_
  refine Rg.pure rfl rfl rfl (Pv.assign rfl) ?_
  refine Rg.nil ?_
  refine Vc.seq ?_
  refine Vc.text (List.range 2) (sd [(0, .eff), (1, .pure)]) rfl ?_
  refine Rg.callP rfl rfl rfl (run_callF rfl) (shown_spec _) ?_
  rintro _ rfl
  refine Rg.pure rfl rfl rfl (Pv.assign rfl) ?_
  refine Rg.nil ?_
  refine Vc.seq ?_
  refine Vc.text (List.range 3) (sd [(0, .pure), (1, .eff), (2, .pure)]) rfl ?_
  refine Rg.pure rfl rfl rfl (Pv.build rfl rfl) ?_
  refine Rg.box rfl rfl rfl rfl rfl (fun b15 => ?_)
  refine Rg.pure rfl rfl rfl (Pv.assign rfl) ?_
  refine Rg.nil ?_
  refine Vc.seq ?_
  refine Vc.seq ?_
  refine Vc.text (List.range 1) (sd [(0, .pure)]) rfl ?_
  refine Rg.pure rfl rfl rfl (Pv.assign rfl) ?_
  refine Rg.nil ?_
  refine Vc.block ?_
  refine Vc.loop3 (fun (i : Nat) (X : List Rc) (sx : Hl) => i ≤ 100 ∧ i ≤ xs.length ∧ X.Perm (xs.take i) ∧ HeapOK X ∧ HeapAt b15 X sx) (fun i X sx => [(0, .slice p0 xs.length c0), (1, .int .i64 q), (5, .bool true), (6, .pointer (some ⟨b15, 0, none⟩)), (7, .int .i64 (i : Int))]) (fun i X sx => sx) (fun i X sx => 100 - i) 0 [] _ ⟨by omega, by omega, .refl _, .nil, heap_nil b15⟩ (.cons rfl (.cons rfl (.cons rfl (.cons rfl (.cons rfl .nil))))) pulled ?_
  rintro i X sx ⟨h1, h2, h3, hX, hx⟩
  have hlx : X.length = i := by have := h3.length_eq; simp at this; omega
  refine Vc.seq ?_
  refine Vc.seq ?_
  refine Vc.cut1 (fun (b : Bool) => (b = true → i < xs.length ∧ i < 100) ∧ (b = false → i = min xs.length 100)) (fun b => (23, .bool b) :: [(0, .slice p0 xs.length c0), (1, .int .i64 q), (5, .bool true), (6, .pointer (some ⟨b15, 0, none⟩)), (7, .int .i64 (i : Int))]) (fun b => sx) ?_ ?_
  ·
    refine Vc.text (List.range 8) (sd [(0, .pure), (1, .pure), (2, .pure), (3, .pure), (4, .pure), (5, .pure), (6, .pure), (7, .pure)]) rfl ?_
    refine Rg.pure rfl rfl rfl (Pv.move rfl) ?_
    refine Rg.pure rfl rfl rfl (Pv.move rfl) ?_
    refine Rg.pure rfl rfl rfl (Pv.lenS rfl) ?_
    refine Rg.pure rfl rfl rfl (Pv.lss rfl rfl) ?_
    refine Rg.pure rfl rfl rfl (Pv.move rfl) ?_
    refine Rg.split (t := 20) rfl (fun h20 => ?_) (fun h20 => ?_)
    ·
      simp only [decide_eq_true_eq] at h20
      refine Rg.pure rfl rfl rfl (Pv.move rfl) ?_
      refine Rg.pure rfl rfl rfl (Pv.lss rfl rfl) ?_
      refine Rg.pure rfl rfl rfl (Pv.pickT rfl rfl) ?_
      refine Rg.nil ?_
      exact Vc.inv1 _ ⟨fun hb => (by first | (simp only [decide_eq_true_eq] at hb; omega) | cases hb), fun hb => (by first | (simp only [decide_eq_false_iff_not] at hb; omega) | omega)⟩ (.cons rfl (.cons rfl (.cons rfl (.cons rfl (.cons rfl (.cons rfl .nil)))))) pulled
    ·
      simp only [decide_eq_false_iff_not] at h20
      iterate 2 (first | refine Rg.skipP rfl rfl rfl ?_ | refine Rg.skipR rfl rfl rfl ?_ | refine Rg.skipE rfl rfl rfl ?_)
      refine Rg.pure rfl rfl rfl (Pv.pickF rfl rfl) ?_
      refine Rg.nil ?_
      exact Vc.inv1 _ ⟨fun hb => (by first | (simp only [decide_eq_true_eq] at hb; omega) | cases hb), fun hb => (by first | (simp only [decide_eq_false_iff_not] at hb; omega) | omega)⟩ (.cons rfl (.cons rfl (.cons rfl (.cons rfl (.cons rfl (.cons rfl .nil)))))) pulled
  ·
    rintro bb ⟨hb1, hb2⟩
    refine Vc.cond rfl (fun h23 => ?_) (fun h23 => ?_)
    ·
      obtain ⟨h4, h5⟩ := hb1 h23
      obtain ⟨b0, o0, cc0, e0, _⟩ := ha.block (by omega)
      cases e0
      refine Vc.skip ?_
      refine Vc.seq ?_
      refine Vc.block ?_
      refine Vc.text (List.range 6) (sd [(0, .pure), (1, .pure), (2, .pure), (3, .pure), (4, .read), (5, .eff)]) rfl ?_
      refine Rg.pure rfl rfl rfl (Pv.move rfl) ?_
      refine Rg.pure rfl rfl rfl (Pv.move rfl) ?_
      refine Rg.pure rfl rfl rfl (Pv.move rfl) ?_
      refine Rg.pure rfl rfl rfl (Pv.ixA (i) rfl rfl (by omega) (by omega)) ?_
      refine Rg.read rfl rfl rfl (Ev.ldS (i) (ha.src) rfl rfl rfl (by omega)) ?_
      refine Rg.callH rfl rfl rfl (run_callF rfl) (fun F' hF' => push_at F' b15 X xs[i]! _ hx (by omega)) rfl ?_
      rintro v31 sx' hx'
      refine Rg.nil ?_
      refine Vc.blk ?_
      refine Vc.text (List.range 3) (sd [(0, .pure), (1, .pure), (2, .pure)]) rfl ?_
      refine Rg.pure rfl rfl rfl (Pv.move rfl) ?_
      refine Rg.pure rfl rfl rfl (Pv.asI (i + 1) (Pv.add rfl rfl (by omega)) (by omega)) ?_
      refine Rg.pure rfl rfl rfl (Pv.assign rfl) ?_
      refine Rg.nil ?_
      exact Vc.inv3 (i + 1) (pushL X xs[i]!) sx' ⟨⟨by omega, by omega, push_take h3 (by omega), push_ok hX _, hx'⟩, by omega⟩ (.cons rfl (.cons rfl (.cons rfl (.cons rfl (.cons rfl .nil))))) pulled
    ·
      obtain ⟨m, hm⟩ : ∃ m, m = i := ⟨_, rfl⟩
      have hmm := hb2 h23
      subst hm
      refine Vc.exit rfl ?_
      refine Vc.seq ?_
      refine Vc.text (List.range 3) (sd [(0, .pure), (1, .eff), (2, .pure)]) rfl ?_
      refine Rg.pure rfl rfl rfl (Pv.move rfl) ?_
      refine Rg.callP rfl rfl rfl (run_callF rfl) (len_at hx frz_sb) ?_
      rintro _ rfl
      rw [hlx]
      refine Rg.pure rfl rfl rfl (Pv.assign rfl) ?_
      refine Rg.nil ?_
      refine Vc.seq ?_
      refine Vc.seq ?_
      refine Vc.text (List.range 5) (sd [(0, .pure), (1, .pure), (2, .pure), (3, .pure), (4, .pure)]) rfl ?_
      refine Rg.pure rfl rfl rfl (Pv.move rfl) ?_
      refine Rg.pure rfl rfl rfl (Pv.move rfl) ?_
      refine Rg.pure rfl rfl rfl (Pv.lenS rfl) ?_
      refine Rg.pure rfl rfl rfl (Pv.min rfl rfl) ?_
      refine Rg.pure rfl rfl rfl (Pv.neq rfl rfl) ?_
      refine Rg.nil ?_
      refine Vc.cond rfl (fun h38 => absurd h38 (by simp; omega)) (fun h38 => ?_)
      refine Vc.skip ?_
      refine Vc.seq ?_
      refine Vc.seq ?_
      refine Vc.text (List.range 2) (sd [(0, .pure), (1, .pure)]) rfl ?_
      refine Rg.pure rfl rfl rfl (Pv.move rfl) ?_
      refine Rg.pure rfl rfl rfl (Pv.eql rfl rfl) ?_
      refine Rg.nil ?_
      refine Vc.cond rfl (fun h40 => ?_) (fun h40 => ?_)
      ·
        simp only [beq_iff_eq] at h40
        refine Vc.seq ?_
        refine Vc.text (List.range 2) (sd [(0, .pure), (1, .pure)]) rfl ?_
        refine Rg.pure rfl rfl rfl (Pv.move rfl) ?_
        refine Rg.pure rfl rfl rfl (Pv.assign rfl) ?_
        refine Rg.nil ?_
        refine Vc.ret (Vc.rets rfl (.cons (.tmp rfl) (.nil)) ?_)
        rfl
      ·
        simp only [beq_eq_false_iff_ne, ne_eq] at h40
        obtain ⟨b0, o0, cc0, e0, hc0⟩ := ha.block (by omega)
        cases e0
        refine Vc.skip ?_
        refine Vc.seq ?_
        refine Vc.text (List.range 8) (sd [(0, .pure), (1, .pure), (2, .pure), (3, .eff), (4, .pure), (5, .read), (6, .eff), (7, .eff)]) rfl ?_
        refine Rg.pure rfl rfl rfl (Pv.move rfl) ?_
        refine Rg.pure rfl rfl rfl (Pv.move rfl) ?_
        refine Rg.pure rfl rfl rfl (Pv.slTo (m) rfl rfl (by omega)) ?_
        refine Rg.callH rfl rfl rfl (run_callF rfl) (fun F' hF' => sort_spec F' _ (xs.take m) (Arg.of_arg (ha.take (by omega)) hF') (by simp; omega)) rfl ?_
        rintro v45 s45 own45
        have hs45 := sortL_length (xs.take m)
        have hS : Same X (sortL (xs.take m)) := ⟨h3.trans (sort_perm _ []).symm, hX, sort_rises _ _ .nil⟩
        rw [List.length_take, Nat.min_eq_left (by omega)] at hs45
        generalize sortL (xs.take m) = Y at *
        obtain ⟨b, cap, sp, rfl, rfl, hcY, _⟩ := own45.block (by omega)
        refine Rg.pure rfl rfl rfl (Pv.ixA (0) rfl rfl (by omega) (by omega)) ?_
        refine Rg.read rfl rfl rfl (Ev.ldR (0) rfl (Nat.zero_add _) (by omega)) ?_
        refine Rg.alloc rfl rfl rfl rfl (fun b9 => ?_)
        refine Rg.storeA rfl rfl rfl rfl rfl rfl rfl rfl ?_
        refine Rg.nil ?_
        refine Vc.seq ?_
        refine Vc.seq ?_
        refine Vc.text (List.range 1) (sd [(0, .pure)]) rfl ?_
        refine Rg.pure rfl rfl rfl (Pv.assign rfl) ?_
        refine Rg.nil ?_
        refine Vc.block ?_
        refine Vc.loop3 (fun (j : Nat) (X : List Rc) (sx : Hl) => j ≤ 50 ∧ Same X Y ∧ HeapAt b15 X sx) (fun j X sx => [(1, .int .i64 q), (5, .bool true), (6, .pointer (some ⟨b15, 0, none⟩)), (8, .int .i64 (m : Int)), (9, .pointer (some ⟨b9, 0, none⟩)), (10, .int .i64 (j : Int))]) (fun j X sx => (b9, cellsO (recC Y[0]!) 30) :: sx) (fun j X sx => 50 - j) 0 X sx ⟨by omega, hS, hx⟩ (.cons rfl (.cons rfl (.cons rfl (.cons rfl (.cons rfl (.cons rfl .nil)))))) pulled ?_
        rintro j X sx ⟨h7, hS, hx⟩
        have hlen := hS.len
        refine Vc.seq ?_
        refine Vc.seq ?_
        refine Vc.text (List.range 5) (sd [(0, .pure), (1, .pure), (2, .pure), (3, .pure), (4, .pure)]) rfl ?_
        refine Rg.pure rfl rfl rfl (Pv.move rfl) ?_
        refine Rg.pure rfl rfl rfl (Pv.move rfl) ?_
        refine Rg.pure rfl rfl rfl (Pv.and rfl rfl (by omega)) ?_
        refine Rg.pure rfl rfl rfl (Pv.rem rfl rfl (by omega)) ?_
        refine Rg.pure rfl rfl rfl (Pv.lss rfl rfl) ?_
        refine Rg.nil ?_
        refine Vc.cond rfl (fun h52 => ?_) (fun h52 => ?_)
        ·
          simp only [decide_eq_true_eq] at h52
          refine Vc.skip ?_
          refine Vc.seq ?_
          refine Vc.block ?_
          refine Vc.seq ?_
          refine Vc.text (List.range 8) (sd [(0, .pure), (1, .eff), (2, .pure), (3, .pure), (4, .pure), (5, .eff), (6, .eff), (7, .pure)]) rfl ?_
          refine Rg.pure rfl rfl rfl (Pv.move rfl) ?_
          refine Rg.callH rfl rfl rfl (run_callF rfl) (fun F' hF' => pop_hd F' b15 X _ hx (by omega)) rfl ?_
          rintro _ sx' ⟨rfl, hx'⟩
          have hpl := popL_length X
          refine Rg.pure rfl rfl rfl (Pv.move rfl) ?_
          refine Rg.pure rfl rfl rfl (Pv.extract rfl rfl) ?_
          refine Rg.pure rfl rfl rfl (Pv.extract rfl rfl) ?_
          refine Rg.alloc rfl rfl rfl rfl (fun b11 => ?_)
          refine Rg.storeA rfl rfl rfl rfl rfl rfl rfl rfl ?_
          refine Rg.pure rfl rfl rfl (Pv.assign rfl) ?_
          refine Rg.nil ?_
          refine Vc.seq ?_
          refine Vc.seq ?_
          refine Vc.text (List.range 7) (sd [(0, .pure), (1, .pure), (2, .pure), (3, .read), (4, .read), (5, .pure), (6, .pure)]) rfl ?_
          refine Rg.pure rfl rfl rfl (Pv.move rfl) ?_
          refine Rg.pure rfl rfl rfl (Pv.not rfl) ?_
          refine Rg.pure rfl rfl rfl (Pv.move rfl) ?_
          refine Rg.split (t := 62) rfl (fun h62 => absurd h62 (by rw [decide_eq_true (show 0 < X.length by omega)]; simp)) (fun h62 => ?_)
          refine Rg.read rfl rfl rfl (Ev.ldA rfl rfl) ?_
          refine Rg.read rfl rfl rfl (Ev.ldA rfl rfl) ?_
          refine Rg.pure rfl rfl rfl (Pv.neqE recE _ _ rfl rfl) ?_
          refine Rg.pure rfl rfl rfl (Pv.pickF rfl rfl) ?_
          refine Rg.nil ?_
          refine Vc.cond rfl (fun h66 => absurd h66 (by simp [hS.first (by omega)])) (fun h66 => ?_)
          refine Vc.skip ?_
          refine Vc.text (List.range 3) (sd [(0, .pure), (1, .read), (2, .eff)]) rfl ?_
          refine Rg.pure rfl rfl rfl (Pv.move rfl) ?_
          refine Rg.read rfl rfl rfl (Ev.ldA rfl rfl) ?_
          refine Rg.callH rfl rfl rfl (run_callF rfl) (fun F' hF' => push_at F' b15 (popL X) (hd X) _ hx' (by omega)) rfl ?_
          rintro v69 sx2 hx2
          refine Rg.nil ?_
          refine Vc.blk ?_
          refine Vc.text (List.range 3) (sd [(0, .pure), (1, .pure), (2, .pure)]) rfl ?_
          refine Rg.pure rfl rfl rfl (Pv.move rfl) ?_
          refine Rg.pure rfl rfl rfl (Pv.asI (j + 1) (Pv.add rfl rfl (by omega)) (by omega)) ?_
          refine Rg.pure rfl rfl rfl (Pv.assign rfl) ?_
          refine Rg.nil ?_
          exact Vc.inv3 (j + 1) (pushL (popL X) (hd X)) sx2 ⟨⟨by omega, ⟨(push_perm _ _).trans (((by have := pop_perm X (by omega); rwa [← hd_get (by omega)] at this : X.Perm (hd X :: popL X)).symm).trans hS.perm), push_ok (pop_ok hS.ok) _, hS.rises⟩, hx2⟩, by omega⟩ (.cons rfl (.cons rfl (.cons rfl (.cons rfl (.cons rfl (.cons rfl .nil)))))) pulled
        ·
          refine Vc.exit rfl ?_
          refine Vc.seq ?_
          refine Vc.text (List.range 8) (sd [(0, .pure), (1, .pure), (2, .pure), (3, .eff), (4, .pure), (5, .pure), (6, .pure), (7, .pure)]) rfl ?_
          refine Rg.pure rfl rfl rfl (Pv.move rfl) ?_
          refine Rg.pure rfl rfl rfl (Pv.move rfl) ?_
          refine Rg.split (t := 71) rfl (fun h71 => ?_) (fun h71 => absurd h71 (by simp))
          refine Rg.pure rfl rfl rfl (Pv.move rfl) ?_
          refine Rg.callP rfl rfl rfl (run_callF rfl) (len_at hx frz_sb) ?_
          rintro _ rfl
          refine Rg.pure rfl rfl rfl (Pv.move rfl) ?_
          refine Rg.pure rfl rfl rfl (Pv.eql rfl rfl) ?_
          refine Rg.pure rfl rfl rfl (Pv.pickT rfl rfl) ?_
          refine Rg.pure rfl rfl rfl (Pv.assign rfl) ?_
          refine Rg.nil ?_
          refine Vc.ret (Vc.rets rfl (.cons (.tmp rfl) (.nil)) ?_)
          exact congrArg Value.bool (by rw [hlen, hs45]; simp)
end Go.Proofs.Ytbhgbhhdpcehbaa
