/- The document's cache: Use. -/
import Derived.Test.YtigkckpjbnflpaaLuPu
namespace Go.Proofs.Ytigkckpjbnflpaa
set_option linter.unusedVariables false

theorem ruse_spec (F : Fm) {rb fr : Nat} {L : List (KTs × Nat)} {s : Hl} (hh : RefAt rb fr L s) (key : KTs) (hn : (L.map (·.1)).Nodup) (hp : ∀ p ∈ L, p.2 < 1073741824) (hN : L.length < 1073741824) (hfr : L.length ≤ fr) :
    Spec Try.prog 14 #[.pointer (some ⟨rb, 0, none⟩), kvs key] F s fun v s' =>
      (useK zs fr L key = none ∧ v = .tuple #[kvs zs, .bool false, .int .i64 8] ∧ RefAt rb fr L s') ∨
      ∃ M q g is, useK zs fr L key = some (M, q, g, is) ∧ v = .tuple #[kvs g, .bool is, .int .i64 0] ∧ RefAt rb fr (M ++ [(key, q)]) s' := by
  have hf := fun (F' : Fm) (hF : ∀ b o, (b, o) ∈ s → F'.at_ b o) => find_spec hh hF key hN
  refine Spec.of (n := 92) (vs := [.pointer (some ⟨rb, 0, none⟩), kvs key]) Try.func14 rfl Try.ntmps14 rfl ?_
  refine Vc.seq ?_
  refine Vc.text (List.range 3) (sd [(0, .pure), (1, .pure), (2, .pure)]) rfl ?_
  refine Rg.pure rfl rfl rfl (Pv.assign rfl) ?_
  refine Rg.pure rfl rfl rfl (Pv.assign rfl) ?_
  refine Rg.pure rfl rfl rfl (Pv.assign rfl) ?_
  refine Rg.nil ?_
  refine Vc.seq ?_
  refine Vc.text (List.range 4) (sd [(0, .pure), (1, .pure), (2, .eff), (3, .pure)]) rfl ?_
  refine Rg.pure rfl rfl rfl (Pv.move rfl) ?_
  refine Rg.pure rfl rfl rfl (Pv.move rfl) ?_
  refine Rg.callP rfl rfl rfl (run_callF rfl) (hf _ frz_sb) ?_
  rintro _ rfl
  refine Rg.pure rfl rfl rfl (Pv.assign rfl) ?_
  refine Rg.nil ?_
  refine Vc.seq ?_
  refine Vc.text (List.range 1) (sd [(0, .pure)]) rfl ?_
  refine Rg.pure rfl rfl rfl (Pv.assign rfl) ?_
  refine Rg.nil ?_
  refine Vc.seq ?_
  refine Vc.text (List.range 1) (sd [(0, .pure)]) rfl ?_
  refine Rg.pure rfl rfl rfl (Pv.assign rfl) ?_
  refine Rg.nil ?_
  refine Vc.seq ?_
  refine Vc.text (List.range 1) (sd [(0, .pure)]) rfl ?_
  refine Rg.pure rfl rfl rfl (Pv.assign rfl) ?_
  refine Rg.nil ?_
  refine Vc.seq ?_
  refine Vc.seq ?_
  refine Vc.text (List.range 2) (sd [(0, .pure), (1, .pure)]) rfl ?_
  refine Rg.pure rfl rfl rfl (Pv.move rfl) ?_
  refine Rg.pure rfl rfl rfl (Pv.geq rfl rfl) ?_
  refine Rg.nil ?_
  refine Vc.cut5 (fun (M : List (KTs × Nat)) (q : Nat) (g : KTs) (is : Bool) (s1 : Hl) => useK zs fr L key = some (M, q, g, is) ∧ M.length ≤ L.length ∧ RefAt rb fr M s1) (fun M q g is s1 => [(0, .pointer (some ⟨rb, 0, none⟩)), (1, kvs key), (8, .int .i64 (q : Int)), (9, kvs g), (10, .bool is)]) (fun M q g is s1 => s1) ?_ ?_
  ·
    refine Vc.cond rfl (fun h16 => ?_) (fun h16 => ?_)
    ·
      simp only [decide_eq_true_eq] at h16
      obtain ⟨A, p, B, rfl, rfl, h1, hk, hpk⟩ : ∃ A p B, L = A ++ p :: B ∧ p.1 = key ∧ placeK L key = (A.length : Int) ∧ hasK L key = true ∧ pinsK L key = p.2 := by
        rcases place_parts L key with ⟨h1, _⟩ | ⟨A, p, B, h2, h3, h4, h5, h6, _⟩
        · omega
        · exact ⟨A, p, B, h2, h3, h4, h5, h6⟩
      have hu : useK zs fr (A ++ p :: B) p.1 = some (A ++ B, p.2, zs, false) := by simp only [useK, hk, if_true, hpk, dropK_parts hn]
      have hpp := hp p (by simp)
      have hh0 := hh
      obtain ⟨vL, vP, sL, sP, ownL, ownP, rfl⟩ := hh
      have lP : ((A ++ p :: B).map fun p : KTs × Nat => ((p.2 : Int) : KTi)).length = A.length + 1 + B.length := by simp; omega
      have gP : ((A ++ p :: B).map fun p : KTs × Nat => ((p.2 : Int) : KTi))[A.length]! = (p.2 : Int) := by rw [getElem!_pos ((A ++ p :: B).map fun p : KTs × Nat => ((p.2 : Int) : KTi)) A.length (by omega)]; simp
      generalize ((A ++ p :: B).map fun p : KTs × Nat => ((p.2 : Int) : KTi)) = ps at ownP lP gP
      obtain ⟨bP, cP, spP, rfl, rfl, hcP, hmP⟩ := ownP.block (by omega)
      rw [h1]
      refine Vc.seq ?_
      refine Vc.text (List.range 8) (sd [(0, .pure), (1, .pure), (2, .pure), (3, .read), (4, .pure), (5, .pure), (6, .read), (7, .pure)]) rfl ?_
      refine Rg.pure rfl rfl rfl (Pv.move rfl) ?_
      refine Rg.pure rfl rfl rfl (Pv.nilp rfl) ?_
      refine Rg.pure rfl rfl rfl (Pv.fa rfl) ?_
      refine Rg.read rfl rfl rfl (Ev.ld rfl rfl) ?_
      refine Rg.pure rfl rfl rfl (Pv.move rfl) ?_
      refine Rg.pure rfl rfl rfl (Pv.ixA (A.length) rfl rfl (by omega) (by omega)) ?_
      refine Rg.read rfl rfl rfl (Ev.as (.int .i64 (p.2 : Int)) (Ev.ldR (A.length) rfl (Nat.zero_add _) (by omega)) (congrArg kvi gP)) ?_
      refine Rg.pure rfl rfl rfl (Pv.assign rfl) ?_
      refine Rg.nil ?_
      refine Vc.text (List.range 3) (sd [(0, .pure), (1, .pure), (2, .eff)]) rfl ?_
      refine Rg.pure rfl rfl rfl (Pv.move rfl) ?_
      refine Rg.pure rfl rfl rfl (Pv.move rfl) ?_
      refine Rg.callH rfl rfl rfl (run_callF rfl) (fun F' hF' => cut_spec F' hh0 hN) rfl ?_
      rintro v26 s26 h26
      refine Rg.nil ?_
      exact Vc.inv5 (A ++ B) p.2 zs false s26 ⟨hu, by simp, h26⟩ (.cons rfl (.cons rfl (.cons rfl (.cons rfl (.cons rfl .nil))))) pulled
    ·
      simp only [decide_eq_false_iff_not] at h16
      have hk : hasK L key = false := by rw [← placeK_has]; exact decide_eq_false h16
      have hh0 := hh
      obtain ⟨vL, vP, sL, sP, ownL, ownP, rfl⟩ := hh
      have lL : (L.map fun p : KTs × Nat => p.1).length = L.length := List.length_map _
      obtain ⟨qL, cL, rfl⟩ := ownL.shape
      refine Vc.seq ?_
      refine Vc.draw [] (sd [(0, .pure), (1, .pure), (2, .pure), (3, .read), (4, .pure), (5, .pure), (6, .pure), (7, .pure), (8, .read), (9, .pure)]) mixed (by kernel_rfl) ?_
      refine Rg.pure rfl rfl rfl (Pv.move rfl) ?_
      refine Rg.pure rfl rfl rfl (Pv.nilp rfl) ?_
      refine Rg.pure rfl rfl rfl (Pv.fa rfl) ?_
      refine Rg.read rfl rfl rfl (Ev.ld rfl rfl) ?_
      refine Rg.pure rfl rfl rfl (Pv.lenS rfl) ?_
      refine Rg.pure rfl rfl rfl (Pv.move rfl) ?_
      refine Rg.pure rfl rfl rfl (Pv.nilp rfl) ?_
      refine Rg.pure rfl rfl rfl (Pv.fa rfl) ?_
      refine Rg.read rfl rfl rfl (Ev.ld rfl rfl) ?_
      refine Rg.pure rfl rfl rfl (Pv.eql rfl rfl) ?_
      refine Rg.nil ?_
      refine Vc.cond rfl (fun h36 => ?_) (fun h36 => ?_)
      ·
        simp only [beq_iff_eq] at h36
        refine Vc.seq ?_
        refine Vc.seq ?_
        refine Vc.text (List.range 1) (sd [(0, .pure)]) rfl ?_
        refine Rg.pure rfl rfl rfl (Pv.assign rfl) ?_
        refine Rg.nil ?_
        refine Vc.block ?_
        refine Vc.loop5 (fun (k : Nat) (is : Bool) (g : KTs) (M : List (KTs × Nat)) (s1 : Hl) => RefAt rb fr M s1 ∧ M.length ≤ L.length ∧ k ≤ L.length ∧ ((is = false ∧ M = L ∧ g = zs ∧ ∀ p ∈ L.take k, p.2 ≠ 0) ∨ (is = true ∧ useK zs fr L key = some (M, 0, g, true)))) (fun k is g M s1 => [(0, .pointer (some ⟨rb, 0, none⟩)), (1, kvs key), (8, .int .i64 ((0 : Nat) : Int)), (9, kvs g), (10, .bool is), (11, .int .i64 (k : Int))]) (fun k is g M s1 => s1) (fun k is g M s1 => L.length - k) 0 false zs L _ ⟨hh0, Nat.le_refl _, Nat.zero_le _, .inl ⟨rfl, rfl, rfl, by simp⟩⟩ (.cons rfl (.cons rfl (.cons rfl (.cons rfl (.cons rfl (.cons rfl .nil)))))) pulled ?_
        rintro k is g M s1 ⟨hh1, hM, hkk, hcase⟩
        have hh2 := hh1
        obtain ⟨wL, wP, tL, tP, ownL1, ownP1, rfl⟩ := hh1
        have lL1 : (M.map fun p : KTs × Nat => p.1).length = M.length := List.length_map _
        obtain ⟨qL1, cL1, rfl⟩ := ownL1.shape
        refine Vc.seq ?_
        refine Vc.seq ?_
        refine Vc.cut1 (fun (b : Bool) => (b = true → k < M.length ∧ is = false) ∧ (b = false → ¬ k < M.length ∨ is = true)) (fun b => (47, .bool b) :: [(0, .pointer (some ⟨rb, 0, none⟩)), (1, kvs key), (8, .int .i64 ((0 : Nat) : Int)), (9, kvs g), (10, .bool is), (11, .int .i64 (k : Int))]) (fun b => (rb, cellsO [.int .i64 (fr : Int), .slice qL1 (M.map fun p : KTs × Nat => p.1).length cL1, wP] 39) :: (tL ++ tP)) ?_ ?_
        ·
          refine Vc.text (List.range 11) (sd [(0, .pure), (1, .pure), (2, .pure), (3, .pure), (4, .read), (5, .pure), (6, .pure), (7, .pure), (8, .pure), (9, .pure), (10, .pure)]) rfl ?_
          refine Rg.pure rfl rfl rfl (Pv.move rfl) ?_
          refine Rg.pure rfl rfl rfl (Pv.move rfl) ?_
          refine Rg.pure rfl rfl rfl (Pv.nilp rfl) ?_
          refine Rg.pure rfl rfl rfl (Pv.fa rfl) ?_
          refine Rg.read rfl rfl rfl (Ev.ld rfl rfl) ?_
          refine Rg.pure rfl rfl rfl (Pv.lenS rfl) ?_
          refine Rg.pure rfl rfl rfl (Pv.lss rfl rfl) ?_
          refine Rg.pure rfl rfl rfl (Pv.move rfl) ?_
          refine Rg.split (t := 44) rfl (fun h44 => ?_) (fun h44 => ?_)
          ·
            simp only [decide_eq_true_eq] at h44
            refine Rg.pure rfl rfl rfl (Pv.move rfl) ?_
            refine Rg.pure rfl rfl rfl (Pv.not rfl) ?_
            refine Rg.pure rfl rfl rfl (Pv.pickT rfl rfl) ?_
            refine Rg.nil ?_
            exact Vc.inv1 _ ⟨fun hb => (by first | (exact ⟨by omega, by simpa using hb⟩) | cases hb), fun hb => (by first | (exact .inr (by simpa using hb)) | exact .inl (by omega))⟩ (.cons rfl (.cons rfl (.cons rfl (.cons rfl (.cons rfl (.cons rfl (.cons rfl .nil))))))) pulled
          ·
            simp only [decide_eq_false_iff_not] at h44
            iterate 2 (first | refine Rg.skipP rfl rfl rfl ?_ | refine Rg.skipR rfl rfl rfl ?_ | refine Rg.skipE rfl rfl rfl ?_)
            refine Rg.pure rfl rfl rfl (Pv.pickF rfl rfl) ?_
            refine Rg.nil ?_
            exact Vc.inv1 _ ⟨fun hb => (by first | (exact ⟨by omega, by simpa using hb⟩) | cases hb), fun hb => (by first | (exact .inr (by simpa using hb)) | exact .inl (by omega))⟩ (.cons rfl (.cons rfl (.cons rfl (.cons rfl (.cons rfl (.cons rfl (.cons rfl .nil))))))) pulled
        ·
          rintro bb ⟨hb1, hb2⟩
          refine Vc.cond rfl (fun h47 => ?_) (fun h47 => ?_)
          ·
            obtain ⟨hb3, rfl⟩ := hb1 h47
            obtain ⟨rfl, rfl, hnz⟩ : L = M ∧ zs = g ∧ ∀ p ∈ L.take k, p.2 ≠ 0 := by
              rcases hcase with ⟨_, h1, h2, h3⟩ | ⟨h1, _⟩
              · exact ⟨h1.symm, h2.symm, h3⟩
              · cases h1
            obtain ⟨A, p, B, rfl, rfl⟩ : ∃ A p B, L = A ++ p :: B ∧ A.length = k := ⟨L.take k, L[k], L.drop (k + 1), by rw [List.getElem_cons_drop]; exact (List.take_append_drop k L).symm, by simp; omega⟩
            have hnz' : ∀ q ∈ A, q.2 ≠ 0 := fun q hq => hnz q (by rw [List.take_left' rfl]; exact hq)
            have hpp := hp p (by simp)
            have lP : ((A ++ p :: B).map fun p : KTs × Nat => ((p.2 : Int) : KTi)).length = A.length + 1 + B.length := by simp; omega
            have gP : ((A ++ p :: B).map fun p : KTs × Nat => ((p.2 : Int) : KTi))[A.length]! = (p.2 : Int) := by rw [getElem!_pos ((A ++ p :: B).map fun p : KTs × Nat => ((p.2 : Int) : KTi)) A.length (by omega)]; simp
            have lK : ((A ++ p :: B).map fun p : KTs × Nat => p.1).length = A.length + 1 + B.length := by simp; omega
            have gK : ((A ++ p :: B).map fun p : KTs × Nat => p.1)[A.length]! = p.1 := by rw [getElem!_pos ((A ++ p :: B).map fun p : KTs × Nat => p.1) A.length (by omega)]; simp
            obtain ⟨bP, cP, spP, rfl, rfl, hcP, hmP⟩ := ownP1.block (by omega)
            obtain ⟨bK, cK, spK, eK, rfl, _, _⟩ := ownL1.block (by omega)
            cases eK
            refine Vc.skip ?_
            refine Vc.seq ?_
            refine Vc.block ?_
            refine Vc.seq ?_
            refine Vc.text (List.range 8) (sd [(0, .pure), (1, .pure), (2, .pure), (3, .read), (4, .pure), (5, .pure), (6, .read), (7, .pure)]) rfl ?_
            refine Rg.pure rfl rfl rfl (Pv.move rfl) ?_
            refine Rg.pure rfl rfl rfl (Pv.nilp rfl) ?_
            refine Rg.pure rfl rfl rfl (Pv.fa rfl) ?_
            refine Rg.read rfl rfl rfl (Ev.ld rfl rfl) ?_
            refine Rg.pure rfl rfl rfl (Pv.move rfl) ?_
            refine Rg.pure rfl rfl rfl (Pv.ixA (A.length) rfl rfl (by omega) (by omega)) ?_
            refine Rg.read rfl rfl rfl (Ev.as (.int .i64 (p.2 : Int)) (Ev.ldR (A.length) rfl (Nat.zero_add _) (by omega)) (congrArg kvi gP)) ?_
            refine Rg.pure rfl rfl rfl (Pv.eql rfl rfl) ?_
            refine Rg.nil ?_
            refine Vc.cond rfl (fun h57 => ?_) (fun h57 => ?_)
            ·
              simp only [beq_iff_eq] at h57
              have p0 : p.2 = 0 := (by omega)
              refine Vc.seq ?_
              refine Vc.text (List.range 1) (sd [(0, .pure)]) rfl ?_
              refine Rg.pure rfl rfl rfl (Pv.assign rfl) ?_
              refine Rg.nil ?_
              refine Vc.seq ?_
              refine Vc.text (List.range 8) (sd [(0, .pure), (1, .pure), (2, .pure), (3, .read), (4, .pure), (5, .pure), (6, .read), (7, .pure)]) rfl ?_
              refine Rg.pure rfl rfl rfl (Pv.move rfl) ?_
              refine Rg.pure rfl rfl rfl (Pv.nilp rfl) ?_
              refine Rg.pure rfl rfl rfl (Pv.fa rfl) ?_
              refine Rg.read rfl rfl rfl (Ev.ld rfl rfl) ?_
              refine Rg.pure rfl rfl rfl (Pv.move rfl) ?_
              refine Rg.pure rfl rfl rfl (Pv.ixA (A.length) rfl rfl (by omega) (by omega)) ?_
              refine Rg.read rfl rfl rfl (Ev.as (kvs p.1) (Ev.ldR (A.length) rfl (Nat.zero_add _) (by omega)) (congrArg kvs gK)) ?_
              refine Rg.pure rfl rfl rfl (Pv.assign rfl) ?_
              refine Rg.nil ?_
              refine Vc.text (List.range 3) (sd [(0, .pure), (1, .pure), (2, .eff)]) rfl ?_
              refine Rg.pure rfl rfl rfl (Pv.move rfl) ?_
              refine Rg.pure rfl rfl rfl (Pv.move rfl) ?_
              refine Rg.callH rfl rfl rfl (run_callF rfl) (fun F' hF' => cut_spec F' hh2 hN) rfl ?_
              rintro v67 s67 h67
              have hu : useK zs fr (A ++ p :: B) key = some (A ++ B, 0, p.1, true) := by
                have e2 : (A ++ p :: B).find? (fun p => decide (p.2 = 0)) = some p := by
                  rw [List.find?_append, List.find?_eq_none.2 (fun q hq => by simpa using hnz' q hq), Option.none_or, List.find?_cons, decide_eq_true p0]
                simp only [useK, hk, Bool.false_eq_true, if_false]
                rw [if_pos (by omega)]
                simp only [e2, dropK_parts hn]
              refine Rg.nil ?_
              refine Vc.blk ?_
              refine Vc.text (List.range 3) (sd [(0, .pure), (1, .pure), (2, .pure)]) rfl ?_
              refine Rg.pure rfl rfl rfl (Pv.move rfl) ?_
              refine Rg.pure rfl rfl rfl (Pv.asI (A.length + 1) (Pv.add rfl rfl (by omega)) (by omega)) ?_
              refine Rg.pure rfl rfl rfl (Pv.assign rfl) ?_
              refine Rg.nil ?_
              exact Vc.inv5 (A.length + 1) true p.1 (A ++ B) s67 ⟨⟨h67, by simp, by simp, .inr ⟨rfl, hu⟩⟩, by simp; omega⟩ (.cons rfl (.cons rfl (.cons rfl (.cons rfl (.cons rfl (.cons rfl .nil)))))) pulled
            ·
              simp only [beq_eq_false_iff_ne, ne_eq] at h57
              have p0 : ¬ p.2 = 0 := (by omega)
              refine Vc.skip ?_
              refine Vc.blk ?_
              refine Vc.text (List.range 3) (sd [(0, .pure), (1, .pure), (2, .pure)]) rfl ?_
              refine Rg.pure rfl rfl rfl (Pv.move rfl) ?_
              refine Rg.pure rfl rfl rfl (Pv.asI (A.length + 1) (Pv.add rfl rfl (by omega)) (by omega)) ?_
              refine Rg.pure rfl rfl rfl (Pv.assign rfl) ?_
              refine Rg.nil ?_
              exact Vc.inv5 (A.length + 1) false zs (A ++ p :: B) _ ⟨⟨hh2, Nat.le_refl _, by simp, .inl ⟨rfl, rfl, rfl, fun q hq => by
                rw [show (A ++ p :: B).take (A.length + 1) = A ++ [p] by rw [show A ++ p :: B = (A ++ [p]) ++ B by simp]; exact List.take_left' (by simp)] at hq
                rcases List.mem_append.1 hq with hq | hq
                · exact hnz' q hq
                · rw [List.mem_singleton.1 hq]; exact p0⟩⟩, by simp; omega⟩ (.cons rfl (.cons rfl (.cons rfl (.cons rfl (.cons rfl (.cons rfl .nil)))))) pulled
          ·
            have hb3 := hb2 h47
            refine Vc.exit rfl ?_
            refine Vc.seq ?_
            refine Vc.text (List.range 2) (sd [(0, .pure), (1, .pure)]) rfl ?_
            refine Rg.pure rfl rfl rfl (Pv.move rfl) ?_
            refine Rg.pure rfl rfl rfl (Pv.not rfl) ?_
            refine Rg.nil ?_
            refine Vc.cond rfl (fun h69 => ?_) (fun h69 => ?_)
            ·
              obtain rfl : is = false := (by simpa using h69)
              obtain ⟨rfl, rfl, hnz⟩ : L = M ∧ zs = g ∧ ∀ p ∈ L.take k, p.2 ≠ 0 := by
                rcases hcase with ⟨_, h1, h2, h3⟩ | ⟨h1, _⟩
                · exact ⟨h1.symm, h2.symm, h3⟩
                · cases h1
              have hnone : useK zs fr L key = none := by
                have e2 : L.find? (fun p => decide (p.2 = 0)) = none := by
                  rw [List.find?_eq_none]
                  intro p hp
                  have := hnz p (by rw [List.take_of_length_le (by simp at hb3; omega)]; exact hp)
                  simpa using this
                simp only [useK, hk, Bool.false_eq_true, if_false]
                rw [if_pos (by omega)]
                simp only [e2]
              refine Vc.seq ?_
              refine Vc.text (List.range 3) (sd [(0, .pure), (1, .pure), (2, .pure)]) rfl ?_
              refine Rg.pure rfl rfl rfl (Pv.assign rfl) ?_
              refine Rg.pure rfl rfl rfl (Pv.assign rfl) ?_
              refine Rg.pure rfl rfl rfl (Pv.assign rfl) ?_
              refine Rg.nil ?_
              exact Vc.ret (Vc.rets rfl (.cons (.tmp rfl) (.cons (.tmp rfl) (.cons (.tmp rfl) .nil))) (.inl ⟨hnone, rfl, hh2⟩))
            ·
              obtain rfl : is = true := (by simpa using h69)
              obtain ⟨_, hu⟩ : true = true ∧ useK zs fr L key = some (M, 0, g, true) := by
                rcases hcase with ⟨h1, _⟩ | h1
                · cases h1
                · exact h1
              refine Vc.skip ?_
              exact Vc.inv5 M 0 g true _ ⟨hu, hM, hh2⟩ (.cons rfl (.cons rfl (.cons rfl (.cons rfl (.cons rfl .nil))))) pulled
      ·
        simp only [beq_eq_false_iff_ne, ne_eq] at h36
        have hu : useK zs fr L key = some (L, 0, zs, false) := by simp only [useK, hk, Bool.false_eq_true, if_false]; rw [if_neg (by omega)]
        refine Vc.skip ?_
        exact Vc.inv5 L 0 zs false _ ⟨hu, Nat.le_refl _, hh0⟩ (.cons rfl (.cons rfl (.cons rfl (.cons rfl (.cons rfl .nil))))) pulled
  ·
    rintro M q g is s1 ⟨hu, hM, hh1⟩
    obtain ⟨vL, vP, sL, sP, ownL, ownP, rfl⟩ := hh1
    have lL : (M.map fun p : KTs × Nat => p.1).length = M.length := List.length_map _
    have lP : (M.map fun p : KTs × Nat => ((p.2 : Int) : KTi)).length = M.length := List.length_map _
    refine Vc.seq ?_
    refine Vc.text (List.range 11) (sd [(0, .pure), (1, .pure), (2, .pure), (3, .pure), (4, .read), (5, .pure), (6, .eff), (7, .eff), (8, .pure), (9, .pure), (10, .eff)]) rfl ?_
    refine Rg.pure rfl rfl rfl (Pv.move rfl) ?_
    refine Rg.pure rfl rfl rfl (Pv.move rfl) ?_
    refine Rg.pure rfl rfl rfl (Pv.nilp rfl) ?_
    refine Rg.pure rfl rfl rfl (Pv.fa rfl) ?_
    refine Rg.read rfl rfl rfl (Ev.ld rfl rfl) ?_
    refine Rg.pure rfl rfl rfl (Pv.move rfl) ?_
    refine Rg.bslice1 rfl rfl rfl rfl rfl rfl rfl (fun b76 => ?_)
    refine Rg.append rfl rfl rfl rfl rfl ownL (Src.one (y := key) rfl) (by simp; omega) (by simp [maxLen]; omega) rfl (fun v77 s77 own77 => ?_)
    refine Rg.pure rfl rfl rfl (Pv.nilp rfl) ?_
    refine Rg.pure rfl rfl rfl (Pv.fa rfl) ?_
    refine Rg.store rfl rfl rfl rfl rfl own77.one rfl rfl ?_
    refine Rg.nil ?_
    refine Vc.seq ?_
    refine Vc.text (List.range 11) (sd [(0, .pure), (1, .pure), (2, .pure), (3, .pure), (4, .read), (5, .pure), (6, .eff), (7, .eff), (8, .pure), (9, .pure), (10, .eff)]) rfl ?_
    refine Rg.pure rfl rfl rfl (Pv.move rfl) ?_
    refine Rg.pure rfl rfl rfl (Pv.move rfl) ?_
    refine Rg.pure rfl rfl rfl (Pv.nilp rfl) ?_
    refine Rg.pure rfl rfl rfl (Pv.fa rfl) ?_
    refine Rg.read rfl rfl rfl (Ev.ld rfl rfl) ?_
    refine Rg.pure rfl rfl rfl (Pv.move rfl) ?_
    refine Rg.bslice1 rfl rfl rfl rfl rfl rfl rfl (fun b86 => ?_)
    refine Rg.append rfl rfl rfl rfl rfl ownP (Src.one (y := (q : Int)) rfl) (by simp; omega) (by simp [maxLen]; omega) rfl (fun v87 s87 own87 => ?_)
    refine Rg.pure rfl rfl rfl (Pv.nilp rfl) ?_
    refine Rg.pure rfl rfl rfl (Pv.fa rfl) ?_
    refine Rg.store rfl rfl rfl rfl rfl own87.one rfl rfl ?_
    refine Rg.nil ?_
    refine Vc.seq ?_
    refine Vc.text (List.range 5) (sd [(0, .pure), (1, .pure), (2, .pure), (3, .pure), (4, .pure)]) rfl ?_
    refine Rg.pure rfl rfl rfl (Pv.move rfl) ?_
    refine Rg.pure rfl rfl rfl (Pv.move rfl) ?_
    refine Rg.pure rfl rfl rfl (Pv.assign rfl) ?_
    refine Rg.pure rfl rfl rfl (Pv.assign rfl) ?_
    refine Rg.pure rfl rfl rfl (Pv.assign rfl) ?_
    refine Rg.nil ?_
    exact Vc.ret (Vc.retsH rfl (.cons (.tmp rfl) (.cons (.tmp rfl) (.cons (.tmp rfl) (.nil)))) (.inr ⟨M, q, g, is, hu, rfl, v77, v87, s77, s87, by simpa using own77, by simpa using own87, rfl⟩) pulled)
end Go.Proofs.Ytigkckpjbnflpaa
