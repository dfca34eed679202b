/- The statements' functions: LruTwo. -/
import Derived.Test.YtigkckpjbnflpaaLuX
import Derived.Test.YtigkckpjbnflpaaLuVi
namespace Go.Proofs.Ytigkckpjbnflpaa
set_option linter.unusedVariables false

def stepU {κ : Type} [DecidableEq κ] (z : κ) (fr : Nat) (L : List (κ × Nat)) (k : κ) : List (κ × Nat) :=
  match useK z fr L k with
  | none => L
  | some p => p.1 ++ [(k, p.2.1)]
theorem dropK_length {κ : Type} [DecidableEq κ] (L : List (κ × Nat)) (k : κ) : (dropK L k).length ≤ L.length := List.length_filter_le _ _
theorem dropK_mem {κ : Type} [DecidableEq κ] {L : List (κ × Nat)} {k : κ} {p : κ × Nat} (h : p ∈ dropK L k) : p ∈ L := (List.mem_filter.1 h).1
theorem pinsK_le {κ : Type} [DecidableEq κ] {L : List (κ × Nat)} {k : κ} {B : Nat} (h : ∀ p ∈ L, p.2 ≤ B) : pinsK L k ≤ B := by
  unfold pinsK
  cases e : L.find? fun p => decide (p.1 = k) with
  | none => simp
  | some p => exact h p (List.mem_of_find?_eq_some e)
theorem useK_part {κ : Type} [DecidableEq κ] {z : κ} {fr : Nat} {L : List (κ × Nat)} {k : κ} {p : List (κ × Nat) × Nat × κ × Bool} (h : useK z fr L k = some p) {B : Nat} (hB : ∀ p ∈ L, p.2 ≤ B) :
    p.1.length ≤ L.length ∧ (∀ x ∈ p.1, x ∈ L) ∧ p.2.1 ≤ B := by
  unfold useK at h
  split at h
  · cases h; exact ⟨dropK_length _ _, fun x => dropK_mem, pinsK_le hB⟩
  · split at h
    · split at h
      · cases h
      · cases h; exact ⟨dropK_length _ _, fun x => dropK_mem, Nat.zero_le _⟩
    · cases h; exact ⟨Nat.le_refl _, fun x hx => hx, Nat.zero_le _⟩
theorem pins_bound {κ : Type} : ∀ L : List (κ × Nat), ∃ B, ∀ p ∈ L, p.2 ≤ B
  | [] => ⟨0, fun p h => by cases h⟩
  | x :: L => by
    obtain ⟨B, hB⟩ := pins_bound L
    refine ⟨x.2 + B, fun p hp => ?_⟩
    rcases List.mem_cons.1 hp with rfl | hp
    · omega
    · have := hB p hp; omega
theorem stepU_length {κ : Type} [DecidableEq κ] (z : κ) (fr : Nat) (L : List (κ × Nat)) (k : κ) : (stepU z fr L k).length ≤ L.length + 1 := by
  unfold stepU
  cases e : useK z fr L k with
  | none => simp
  | some p =>
    obtain ⟨B, hB⟩ := pins_bound L
    have := (useK_part e hB).1
    simp; omega
theorem stepU_pins {κ : Type} [DecidableEq κ] {z : κ} {fr : Nat} {L : List (κ × Nat)} {k : κ} {B : Nat} (h : ∀ p ∈ L, p.2 ≤ B) : ∀ p ∈ stepU z fr L k, p.2 ≤ B := by
  unfold stepU
  cases e : useK z fr L k with
  | none => exact h
  | some q =>
    intro p hp
    obtain ⟨_, h2, h3⟩ := useK_part e h
    rcases List.mem_append.1 hp with hp | hp
    · exact h p (h2 p hp)
    · rw [List.mem_singleton.1 hp]; exact h3

theorem use_any (F : Fm) {cb fr ck : Nat} {L : List (KTi × Nat)} {s : Hl} (hh : Cachei cb fr ck L s) (key : KTi) (hck : ck < 1073741824) (hN : L.length < 1073741824) :
    Spec Try.prog 26 #[.pointer (some ⟨cb, 0, none⟩), kvi key] F s fun v s' => ∃ ck', ck' ≤ ck + 1 ∧ Cachei cb fr ck' (stepU zi fr L key) s' :=
  (use_speci F hh key hck hN).mono fun v s' hv => by
    rcases hv with ⟨h1, _, h3⟩ | ⟨M, q, g, is, h1, _, h3⟩
    · exact ⟨ck, by omega, by simp only [stepU, h1]; exact h3⟩
    · exact ⟨ck + 1, by omega, by simp only [stepU, h1]; exact h3⟩
theorem setK_pins {κ : Type} [DecidableEq κ] {L : List (κ × Nat)} {k : κ} {m B : Nat} (h : ∀ p ∈ L, p.2 ≤ B) (hm : m ≤ B) : ∀ p ∈ setK L k m, p.2 ≤ B := by
  intro p hp
  obtain ⟨q, hq, rfl⟩ := List.mem_map.1 hp
  split
  · exact hm
  · exact h q hq
theorem pin_any (F : Fm) {cb fr ck B : Nat} {L : List (KTi × Nat)} {s : Hl} (hh : Cachei cb fr ck L s) (key : KTi) (hp : ∀ p ∈ L, p.2 ≤ B) (hB : B < 1073741824) :
    Spec Try.prog 27 #[.pointer (some ⟨cb, 0, none⟩), kvi key] F s fun v s' => ∃ L', L'.length = L.length ∧ (∀ p ∈ L', p.2 ≤ B + 1) ∧ Cachei cb fr ck L' s' :=
  (pin_speci F hh key (fun p h => by have := hp p h; omega)).mono fun v s' hv => by
    refine ⟨_, ?_, ?_, hv.2⟩
    · split
      · simp [setK]
      · rfl
    · have hp1 : ∀ p ∈ L, p.2 ≤ B + 1 := fun p h => by have := hp p h; omega
      split
      · exact setK_pins hp1 (by have := pinsK_le (k := key) hp; omega)
      · exact hp1
theorem unpin_any (F : Fm) {cb fr ck B : Nat} {L : List (KTi × Nat)} {s : Hl} (hh : Cachei cb fr ck L s) (key : KTi) (hp : ∀ p ∈ L, p.2 ≤ B) (hB : B < 1073741824) :
    Spec Try.prog 31 #[.pointer (some ⟨cb, 0, none⟩), kvi key] F s fun v s' => ∃ L', L'.length = L.length ∧ (∀ p ∈ L', p.2 ≤ B) ∧ Cachei cb fr ck L' s' :=
  (unpin_speci F hh key (fun p h => by have := hp p h; omega)).mono fun v s' hv => by
    refine ⟨_, ?_, ?_, hv.2⟩
    · split
      · simp [setK]
      · rfl
    · split
      · exact setK_pins hp (by have := pinsK_le (k := key) hp; omega)
      · exact hp

theorem LruTwo_spec (F : Fm) (v0 v1 : Value) (xs ys : List Int) (ha : Arg keyEi F v0 xs) (hb : Arg keyEi F v1 ys) :
    Spec Try.prog 9 #[v0, v1] F [] fun v _ => v = .bool true := by
  obtain ⟨p0, c0, rfl⟩ := ha.shape
  obtain ⟨p1, c1, rfl⟩ := hb.shape
  have e5 : (max (5 : Int) 1).toNat = 5 := by decide
  refine Spec.of (n := 96) (vs := [.slice p0 xs.length c0, .slice p1 ys.length c1]) Try.func9 rfl Try.ntmps9 rfl ?_
  refine Vc.seq ?_
  refine Vc.text (List.range 1) (sd [(0, .pure)]) rfl ?_
  refine Rg.pure rfl rfl rfl (Pv.assign rfl) ?_
  refine Rg.nil ?_
  refine Vc.seq ?_
  refine Vc.text (List.range 2) (sd [(0, .eff), (1, .pure)]) rfl ?_
  refine Rg.callP rfl rfl rfl (run_callF rfl) (shown_spec _) ?_
  rintro _ rfl
  refine Rg.pure rfl rfl rfl (Pv.assign rfl) ?_
  refine Rg.nil ?_
  refine Vc.seq ?_
  refine Vc.text (List.range 2) (sd [(0, .eff), (1, .pure)]) rfl ?_
  refine Rg.callH rfl rfl rfl (run_callF rfl) (fun F' hF' => new_speci F' 5 (by omega)) rfl ?_
  rintro _ s1 ⟨bx, rfl, h1⟩
  rw [e5] at h1
  refine Rg.pure rfl rfl rfl (Pv.assign rfl) ?_
  refine Rg.nil ?_
  refine Vc.seq ?_
  refine Vc.text (List.range 2) (sd [(0, .eff), (1, .pure)]) rfl ?_
  refine Rg.callH rfl rfl rfl (run_callF rfl) (fun F' hF' => new_speci F' 5 (by omega)) rfl ?_
  rintro _ s2 ⟨by_, rfl, h2⟩
  rw [e5] at h2
  refine Rg.pure rfl rfl rfl (Pv.assign rfl) ?_
  refine Rg.nil ?_
  refine Vc.seq ?_
  refine Vc.text (List.range 2) (sd [(0, .eff), (1, .pure)]) rfl ?_
  refine Rg.callH rfl rfl rfl (run_callF rfl) (fun F' hF' => new_speci F' 5 (by omega)) rfl ?_
  rintro _ s3 ⟨bz, rfl, h3⟩
  rw [e5] at h3
  refine Rg.pure rfl rfl rfl (Pv.assign rfl) ?_
  refine Rg.nil ?_
  refine Vc.seq ?_
  refine Vc.seq ?_
  refine Vc.text (List.range 10) (sd [(0, .pure), (1, .pure), (2, .pure), (3, .pure), (4, .pure), (5, .pure), (6, .pure), (7, .pure), (8, .pure), (9, .pure)]) rfl ?_
  refine Rg.pure rfl rfl rfl (Pv.move rfl) ?_
  refine Rg.pure rfl rfl rfl (Pv.eqlNil rfl rfl) ?_
  refine Rg.pure rfl rfl rfl (Pv.move rfl) ?_
  refine Rg.split (t := 19) rfl (fun h19 => absurd h19 (by simp)) (fun h19 => ?_)
  refine Rg.pure rfl rfl rfl (Pv.move rfl) ?_
  refine Rg.pure rfl rfl rfl (Pv.eqlNil rfl rfl) ?_
  refine Rg.pure rfl rfl rfl (Pv.pickF rfl rfl) ?_
  refine Rg.pure rfl rfl rfl (Pv.move rfl) ?_
  refine Rg.split (t := 23) rfl (fun h23 => absurd h23 (by simp)) (fun h23 => ?_)
  refine Rg.pure rfl rfl rfl (Pv.move rfl) ?_
  refine Rg.pure rfl rfl rfl (Pv.eqlNil rfl rfl) ?_
  refine Rg.pure rfl rfl rfl (Pv.pickF rfl rfl) ?_
  refine Rg.nil ?_
  refine Vc.cond rfl (fun h26 => absurd h26 (by simp)) (fun h26 => ?_)
  refine Vc.skip ?_
  refine Vc.seq ?_
  refine Vc.seq ?_
  refine Vc.text (List.range 1) (sd [(0, .pure)]) rfl ?_
  refine Rg.pure rfl rfl rfl (Pv.assign rfl) ?_
  refine Rg.nil ?_
  refine Vc.block ?_
  refine Vc.loop6 (fun (i : Nat) (L Ly : List (KTi × Nat)) (sx sy sz : Hl) => i ≤ 60 ∧ L.length ≤ i ∧ Ly.length ≤ i ∧ (∀ p ∈ Ly, p.2 ≤ i) ∧ (∃ ck, ck ≤ i ∧ Cachei bx 5 ck L sx) ∧ (∃ ck, ck ≤ i ∧ Cachei by_ 5 ck Ly sy) ∧ (∃ ck, ck ≤ i ∧ Cachei bz 5 ck L sz)) (fun i L Ly sx sy sz => [(0, .slice p0 xs.length c0), (1, .slice p1 ys.length c1), (5, .bool true), (6, .pointer (some ⟨bx, 0, none⟩)), (7, .pointer (some ⟨by_, 0, none⟩)), (8, .pointer (some ⟨bz, 0, none⟩)), (9, .int .i64 (i : Int))]) (fun i L Ly sx sy sz => sx ++ (sy ++ sz)) (fun i L Ly sx sy sz => 60 - i) 0 [] [] s1 s2 s3 ⟨by omega, by simp, by simp, by simp, ⟨0, by omega, h1⟩, ⟨0, by omega, h2⟩, ⟨0, by omega, h3⟩⟩ (.cons rfl (.cons rfl (.cons rfl (.cons rfl (.cons rfl (.cons rfl (.cons rfl .nil))))))) pulled ?_
  rintro i L Ly sx sy sz ⟨hi, hl, hly, hpy, ⟨ckx, hkx, hcx⟩, ⟨cky, hky, hcy⟩, ⟨ckz, hkz, hcz⟩⟩
  refine Vc.seq ?_
  refine Vc.seq ?_
  refine Vc.cut1 (fun (b : Bool) => b = true → i < xs.length ∧ i < 60) (fun b => (34, .bool b) :: [(0, .slice p0 xs.length c0), (1, .slice p1 ys.length c1), (5, .bool true), (6, .pointer (some ⟨bx, 0, none⟩)), (7, .pointer (some ⟨by_, 0, none⟩)), (8, .pointer (some ⟨bz, 0, none⟩)), (9, .int .i64 (i : Int))]) (fun b => sx ++ (sy ++ sz)) ?_ ?_
  ·
    refine Vc.text (List.range 8) (sd [(0, .pure), (1, .pure), (2, .pure), (3, .pure), (4, .pure), (5, .pure), (6, .pure), (7, .pure)]) rfl ?_
    refine Rg.pure rfl rfl rfl (Pv.move rfl) ?_
    refine Rg.pure rfl rfl rfl (Pv.move rfl) ?_
    refine Rg.pure rfl rfl rfl (Pv.lenS rfl) ?_
    refine Rg.pure rfl rfl rfl (Pv.lss rfl rfl) ?_
    refine Rg.pure rfl rfl rfl (Pv.move rfl) ?_
    refine Rg.split (t := 31) rfl (fun h31 => ?_) (fun h31 => ?_)
    ·
      simp only [decide_eq_true_eq] at h31
      refine Rg.pure rfl rfl rfl (Pv.move rfl) ?_
      refine Rg.pure rfl rfl rfl (Pv.lss rfl rfl) ?_
      refine Rg.pure rfl rfl rfl (Pv.pickT rfl rfl) ?_
      refine Rg.nil ?_
      exact Vc.inv1 _ (fun hb => by first | (simp only [decide_eq_true_eq] at hb; omega) | cases hb) (.cons rfl (.cons rfl (.cons rfl (.cons rfl (.cons rfl (.cons rfl (.cons rfl (.cons rfl .nil)))))))) pulled
    ·
      iterate 2 (first | refine Rg.skipP rfl rfl rfl ?_ | refine Rg.skipR rfl rfl rfl ?_ | refine Rg.skipE rfl rfl rfl ?_)
      refine Rg.pure rfl rfl rfl (Pv.pickF rfl rfl) ?_
      refine Rg.nil ?_
      exact Vc.inv1 _ (fun hb => by first | (simp only [decide_eq_true_eq] at hb; omega) | cases hb) (.cons rfl (.cons rfl (.cons rfl (.cons rfl (.cons rfl (.cons rfl (.cons rfl (.cons rfl .nil)))))))) pulled
  ·
    rintro bb hbb
    refine Vc.cond rfl (fun h34 => ?_) (fun h34 => ?_)
    ·
      obtain ⟨h3, h4⟩ := hbb h34
      obtain ⟨b0, o0, cc0, e0, _⟩ := ha.block (by omega)
      cases e0
      have hsl := stepU_length zi 5 L xs[i]!
      refine Vc.skip ?_
      refine Vc.seq ?_
      refine Vc.block ?_
      refine Vc.seq ?_
      refine Vc.text (List.range 6) (sd [(0, .pure), (1, .pure), (2, .pure), (3, .pure), (4, .read), (5, .eff)]) rfl ?_
      refine Rg.pure rfl rfl rfl (Pv.move rfl) ?_
      refine Rg.pure rfl rfl rfl (Pv.move rfl) ?_
      refine Rg.pure rfl rfl rfl (Pv.move rfl) ?_
      refine Rg.pure rfl rfl rfl (Pv.ixA (i) rfl rfl (by omega) (by omega)) ?_
      refine Rg.read rfl rfl rfl (Ev.ldS (i) (ha.src) rfl rfl rfl (by omega)) ?_
      refine Rg.callH rfl rfl rfl (run_callF rfl) (fun F' hF' => use_any F' hcx xs[i]! (by omega) (by omega)) rfl ?_
      rintro v42 sx' ⟨ckx', hkx', hcx'⟩
      refine Rg.nil ?_
      refine Vc.seq ?_
      refine Vc.text (List.range 6) (sd [(0, .pure), (1, .pure), (2, .pure), (3, .pure), (4, .read), (5, .eff)]) rfl ?_
      refine Rg.pure rfl rfl rfl (Pv.move rfl) ?_
      refine Rg.pure rfl rfl rfl (Pv.move rfl) ?_
      refine Rg.pure rfl rfl rfl (Pv.move rfl) ?_
      refine Rg.pure rfl rfl rfl (Pv.ixA (i) rfl rfl (by omega) (by omega)) ?_
      refine Rg.read rfl rfl rfl (Ev.ldS (i) (ha.src) rfl rfl rfl (by omega)) ?_
      refine Rg.callH rfl rfl rfl (run_callF rfl) (fun F' hF' => use_any F' hcz xs[i]! (by omega) (by omega)) rfl ?_
      rintro v48 sz' ⟨ckz', hkz', hcz'⟩
      refine Rg.nil ?_
      refine Vc.seq ?_
      refine Vc.text (List.range 4) (sd [(0, .pure), (1, .pure), (2, .pure), (3, .pure)]) rfl ?_
      refine Rg.pure rfl rfl rfl (Pv.move rfl) ?_
      refine Rg.pure rfl rfl rfl (Pv.move rfl) ?_
      refine Rg.pure rfl rfl rfl (Pv.lenS rfl) ?_
      refine Rg.pure rfl rfl rfl (Pv.lss rfl rfl) ?_
      refine Rg.nil ?_
      refine Vc.cond rfl (fun h52 => ?_) (fun h52 => ?_)
      ·
        simp only [decide_eq_true_eq] at h52
        obtain ⟨b1, o1, cc1, e1, _⟩ := hb.block (by omega)
        cases e1
        have hsy := stepU_length zi 5 Ly ys[i]!
        refine Vc.seq ?_
        refine Vc.text (List.range 6) (sd [(0, .pure), (1, .pure), (2, .pure), (3, .pure), (4, .read), (5, .eff)]) rfl ?_
        refine Rg.pure rfl rfl rfl (Pv.move rfl) ?_
        refine Rg.pure rfl rfl rfl (Pv.move rfl) ?_
        refine Rg.pure rfl rfl rfl (Pv.move rfl) ?_
        refine Rg.pure rfl rfl rfl (Pv.ixA (i) rfl rfl (by omega) (by omega)) ?_
        refine Rg.read rfl rfl rfl (Ev.ldS (i) (hb.src) rfl rfl rfl (by omega)) ?_
        refine Rg.callH rfl rfl rfl (run_callF rfl) (fun F' hF' => use_any F' hcy ys[i]! (by omega) (by omega)) rfl ?_
        rintro v58 sy1 ⟨cky1, hky1, hcy1⟩
        refine Rg.nil ?_
        refine Vc.seq ?_
        refine Vc.text (List.range 6) (sd [(0, .pure), (1, .pure), (2, .pure), (3, .pure), (4, .read), (5, .eff)]) rfl ?_
        refine Rg.pure rfl rfl rfl (Pv.move rfl) ?_
        refine Rg.pure rfl rfl rfl (Pv.move rfl) ?_
        refine Rg.pure rfl rfl rfl (Pv.move rfl) ?_
        refine Rg.pure rfl rfl rfl (Pv.ixA (i) rfl rfl (by omega) (by omega)) ?_
        refine Rg.read rfl rfl rfl (Ev.ldS (i) (hb.src) rfl rfl rfl (by omega)) ?_
        refine Rg.callH rfl rfl rfl (run_callF rfl) (fun F' hF' => pin_any F' hcy1 ys[i]! (stepU_pins hpy) (by omega)) rfl ?_
        rintro v64 sy2 ⟨L2, hl2, hp2, hcy2⟩
        refine Rg.nil ?_
        refine Vc.text (List.range 6) (sd [(0, .pure), (1, .pure), (2, .pure), (3, .pure), (4, .read), (5, .eff)]) rfl ?_
        refine Rg.pure rfl rfl rfl (Pv.move rfl) ?_
        refine Rg.pure rfl rfl rfl (Pv.move rfl) ?_
        refine Rg.pure rfl rfl rfl (Pv.move rfl) ?_
        refine Rg.pure rfl rfl rfl (Pv.ixA (i) rfl rfl (by omega) (by omega)) ?_
        refine Rg.read rfl rfl rfl (Ev.ldS (i) (hb.src) rfl rfl rfl (by omega)) ?_
        refine Rg.callH rfl rfl rfl (run_callF rfl) (fun F' hF' => unpin_any F' hcy2 ys[i]! hp2 (by omega)) rfl ?_
        rintro v70 sy3 ⟨L3, hl3, hp3, hcy3⟩
        refine Rg.nil ?_
        refine Vc.blk ?_
        refine Vc.text (List.range 3) (sd [(0, .pure), (1, .pure), (2, .pure)]) rfl ?_
        refine Rg.pure rfl rfl rfl (Pv.move rfl) ?_
        refine Rg.pure rfl rfl rfl (Pv.asI (i + 1) (Pv.add rfl rfl (by omega)) (by omega)) ?_
        refine Rg.pure rfl rfl rfl (Pv.assign rfl) ?_
        refine Rg.nil ?_
        exact Vc.inv6 (i + 1) (stepU zi 5 L xs[i]!) L3 sx' sy3 sz' ⟨⟨by omega, by omega, by omega, hp3, ⟨_, by omega, hcx'⟩, ⟨_, by omega, hcy3⟩, ⟨_, by omega, hcz'⟩⟩, by omega⟩ (.cons rfl (.cons rfl (.cons rfl (.cons rfl (.cons rfl (.cons rfl (.cons rfl .nil))))))) pulled
      ·
        refine Vc.skip ?_
        refine Vc.blk ?_
        refine Vc.text (List.range 3) (sd [(0, .pure), (1, .pure), (2, .pure)]) rfl ?_
        refine Rg.pure rfl rfl rfl (Pv.move rfl) ?_
        refine Rg.pure rfl rfl rfl (Pv.asI (i + 1) (Pv.add rfl rfl (by omega)) (by omega)) ?_
        refine Rg.pure rfl rfl rfl (Pv.assign rfl) ?_
        refine Rg.nil ?_
        exact Vc.inv6 (i + 1) (stepU zi 5 L xs[i]!) Ly sx' sy sz' ⟨⟨by omega, by omega, by omega, fun p h => by have := hpy p h; omega, ⟨_, by omega, hcx'⟩, ⟨_, by omega, hcy⟩, ⟨_, by omega, hcz'⟩⟩, by omega⟩ (.cons rfl (.cons rfl (.cons rfl (.cons rfl (.cons rfl (.cons rfl (.cons rfl .nil))))))) pulled
    ·
      refine Vc.exit rfl ?_
      refine Vc.seq ?_
      refine Vc.text (List.range 3) (sd [(0, .pure), (1, .eff), (2, .pure)]) rfl ?_
      refine Rg.pure rfl rfl rfl (Pv.move rfl) ?_
      refine Rg.callH rfl rfl rfl (run_callF rfl) (fun F' hF' => keys_speci (F := F') hcx (fun b o h => hF' b o (.inl (Sb.sub (seg := sx) _ h))) (by omega) (by omega)) rfl ?_
      rintro v72 s72 own72
      refine Rg.pure rfl rfl rfl (Pv.assign rfl) ?_
      refine Rg.nil ?_
      refine Vc.seq ?_
      refine Vc.text (List.range 3) (sd [(0, .pure), (1, .eff), (2, .pure)]) rfl ?_
      refine Rg.pure rfl rfl rfl (Pv.move rfl) ?_
      refine Rg.callH rfl rfl rfl (run_callF rfl) (fun F' hF' => keys_speci (F := F') hcz (fun b o h => hF' b o (.inl (Sb.sub (seg := sz) _ h))) (by omega) (by omega)) rfl ?_
      rintro v74 s74 own74
      have hkl : (L.map (·.1)).length = L.length := List.length_map _
      generalize L.map (·.1) = ks at own72 own74 hkl
      obtain ⟨q72, c72, rfl⟩ := own72.shape
      obtain ⟨q74, c74, rfl⟩ := own74.shape
      refine Rg.pure rfl rfl rfl (Pv.assign rfl) ?_
      refine Rg.nil ?_
      refine Vc.seq ?_
      refine Vc.seq ?_
      refine Vc.text (List.range 5) (sd [(0, .pure), (1, .pure), (2, .pure), (3, .pure), (4, .pure)]) rfl ?_
      refine Rg.pure rfl rfl rfl (Pv.move rfl) ?_
      refine Rg.pure rfl rfl rfl (Pv.lenS rfl) ?_
      refine Rg.pure rfl rfl rfl (Pv.move rfl) ?_
      refine Rg.pure rfl rfl rfl (Pv.lenS rfl) ?_
      refine Rg.pure rfl rfl rfl (Pv.neq rfl rfl) ?_
      refine Rg.nil ?_
      refine Vc.cond rfl (fun h79 => absurd h79 (by simp)) (fun h79 => ?_)
      refine Vc.skip ?_
      refine Vc.seq ?_
      refine Vc.seq ?_
      refine Vc.text (List.range 1) (sd [(0, .pure)]) rfl ?_
      refine Rg.pure rfl rfl rfl (Pv.assign rfl) ?_
      refine Rg.nil ?_
      refine Vc.block ?_
      refine Vc.loop1 (fun (k : Nat) => k ≤ ks.length) (fun k => [(5, .bool true), (10, .slice q72 ks.length c72), (11, .slice q74 ks.length c74), (12, .int .i64 (k : Int))]) (fun k => s72 ++ s74) (fun k => ks.length - k) 0 (Nat.zero_le _) (.cons rfl (.cons rfl (.cons rfl (.cons rfl .nil)))) pulled ?_
      rintro k hk
      refine Vc.seq ?_
      refine Vc.seq ?_
      refine Vc.text (List.range 4) (sd [(0, .pure), (1, .pure), (2, .pure), (3, .pure)]) rfl ?_
      refine Rg.pure rfl rfl rfl (Pv.move rfl) ?_
      refine Rg.pure rfl rfl rfl (Pv.move rfl) ?_
      refine Rg.pure rfl rfl rfl (Pv.lenS rfl) ?_
      refine Rg.pure rfl rfl rfl (Pv.lss rfl rfl) ?_
      refine Rg.nil ?_
      refine Vc.cond rfl (fun h83 => ?_) (fun h83 => ?_)
      ·
        simp only [decide_eq_true_eq] at h83
        obtain ⟨ba, ca, spa, ea, rfl, _, _⟩ := own72.block (by omega)
        obtain ⟨bb2, cb2, spb, eb, rfl, _, _⟩ := own74.block (by omega)
        cases ea
        cases eb
        refine Vc.skip ?_
        refine Vc.seq ?_
        refine Vc.block ?_
        refine Vc.seq ?_
        refine Vc.draw [] (sd [(0, .pure), (1, .pure), (2, .pure), (3, .read), (4, .pure), (5, .pure), (6, .pure), (7, .read), (8, .pure)]) mixed (by kernel_rfl) ?_
        refine Rg.pure rfl rfl rfl (Pv.move rfl) ?_
        refine Rg.pure rfl rfl rfl (Pv.move rfl) ?_
        refine Rg.pure rfl rfl rfl (Pv.ixA (k) rfl rfl (by omega) (by omega)) ?_
        refine Rg.read rfl rfl rfl (Ev.ldR (k) rfl (Nat.zero_add _) (by omega)) ?_
        refine Rg.pure rfl rfl rfl (Pv.move rfl) ?_
        refine Rg.pure rfl rfl rfl (Pv.move rfl) ?_
        refine Rg.pure rfl rfl rfl (Pv.ixA (k) rfl rfl (by omega) (by omega)) ?_
        refine Rg.read rfl rfl rfl (Ev.ldR (k) rfl (Nat.zero_add _) (by omega)) ?_
        refine Rg.pure rfl rfl rfl (Pv.neq rfl rfl) ?_
        refine Rg.nil ?_
        refine Vc.cond rfl (fun h94 => absurd h94 (by simp)) (fun h94 => ?_)
        refine Vc.skip ?_
        refine Vc.blk ?_
        refine Vc.text (List.range 3) (sd [(0, .pure), (1, .pure), (2, .pure)]) rfl ?_
        refine Rg.pure rfl rfl rfl (Pv.move rfl) ?_
        refine Rg.pure rfl rfl rfl (Pv.asI (k + 1) (Pv.add rfl rfl (by omega)) (by omega)) ?_
        refine Rg.pure rfl rfl rfl (Pv.assign rfl) ?_
        refine Rg.nil ?_
        exact Vc.inv1 (k + 1) ⟨by omega, by omega⟩ (.cons rfl (.cons rfl (.cons rfl (.cons rfl .nil)))) pulled
      ·
        refine Vc.exit rfl ?_
        refine Vc.seq ?_
        refine Vc.text (List.range 2) (sd [(0, .pure), (1, .pure)]) rfl ?_
        refine Rg.pure rfl rfl rfl (Pv.move rfl) ?_
        refine Rg.pure rfl rfl rfl (Pv.assign rfl) ?_
        refine Rg.nil ?_
        refine Vc.ret (Vc.rets rfl (.cons (.tmp rfl) (.nil)) ?_)
        rfl
end Go.Proofs.Ytigkckpjbnflpaa
