/- Caches whose keys are of one type: Use. -/
import Derived.Test.YtigkckpjbnflpaaLuCi
import Derived.Test.YtigkckpjbnflpaaLuUs
namespace Go.Proofs.Ytigkckpjbnflpaa
set_option linter.unusedVariables false


abbrev zi : KTi := 0

theorem use_speci (F : Fm) {cb fr ck : Nat} {L : List (KTi × Nat)} {s : Hl} (hh : Cachei cb fr ck L s) (key : KTi) (hck : ck < 1073741824) (hN : L.length < 1073741824) :
    Spec Try.prog 26 #[.pointer (some ⟨cb, 0, none⟩), kvi key] F s fun v s' =>
      (useK zi fr L key = none ∧ v = .tuple #[kvi zi, .bool false, .int .i64 8] ∧ Cachei cb fr ck L s') ∨
      ∃ M q g is, useK zi fr L key = some (M, q, g, is) ∧ v = .tuple #[kvi g, .bool is, .int .i64 0] ∧ Cachei cb fr (ck + 1) (M ++ [(key, q)]) s' := by
  obtain ⟨mb, mc, es, us, hperm, hg, rfl⟩ := hh
  refine Spec.permL ?_ hperm
  have hlen : (es.map meC).length = us.length := by rw [List.length_map]; exact hg.perm.length_eq
  have hlv : (viewC us).length = us.length := by simp [viewC]
  have hC : Cachei cb fr ck (viewC us) ((cb, cellsO [.int .i64 (fr : Int), .int .i64 (ck : Int), .map (some mb)] 69) :: (mb, mapO kvi (es.map meC) mc) :: us.map (ebC 59)) := ⟨mb, mc, es, us, .refl _, hg, rfl⟩
  refine Spec.of (n := 68) (vs := [.pointer (some ⟨cb, 0, none⟩), kvi key]) Try.func26 rfl Try.ntmps26 rfl ?_
  refine Vc.seq ?_
  refine Vc.text (List.range 4) (sd [(0, .eff), (1, .pure), (2, .pure), (3, .pure)]) rfl ?_
  refine Rg.box rfl rfl rfl rfl rfl (fun b2 => ?_)
  refine Rg.pure rfl rfl rfl (Pv.assign rfl) ?_
  refine Rg.pure rfl rfl rfl (Pv.assign rfl) ?_
  refine Rg.pure rfl rfl rfl (Pv.assign rfl) ?_
  refine Rg.nil ?_
  refine Vc.seq ?_
  refine Vc.seq ?_
  refine Vc.text (List.range 4) (sd [(0, .read), (1, .pure), (2, .eff), (3, .pure)]) rfl ?_
  refine Rg.read rfl rfl rfl (Ev.ld rfl rfl) ?_
  refine Rg.pure rfl rfl rfl (Pv.move rfl) ?_
  refine Rg.callP rfl rfl rfl (run_callF rfl) (has_speci hC frz_sb key) ?_
  rintro _ rfl
  refine Rg.pure rfl rfl rfl (Pv.not rfl) ?_
  refine Rg.nil ?_
  refine Vc.cut7 (fun (mc : Nat) (es A B : List (Ce KTi)) (e : Ce KTi) (gone : KTi) (is : Bool) => e.k = key ∧ Good (ck + 1) mc es (A ++ (B ++ [{ e with used := ck + 1 }])) ∧ useK zi fr (viewC us) key = some (viewC (A ++ B), e.pins, gone, is)) (fun mc es A B e gone is => [(1, kvi key), (2, .pointer (some ⟨b2, 0, none⟩)), (4, kvi gone), (5, .bool is)]) (fun mc es A B e gone is => (b2, cellsO [.pointer (some ⟨cb, 0, none⟩)] 42) :: (cb, cellsO [.int .i64 (fr : Int), .int .i64 (ck : Int), .map (some mb)] 69) :: (mb, mapO kvi (es.map meC) mc) :: (A.map (ebC 59) ++ (e.blk, cellsO [.int .i64 (e.used : Int), .int .i64 (e.pins : Int)] 59) :: B.map (ebC 59))) ?_ ?_
  ·
    refine Vc.cond rfl (fun h12 => ?_) (fun h12 => ?_)
    ·
      have hk : hasK (viewC us) key = false := (by simpa using h12)
      refine Vc.seq ?_
      refine Vc.seq ?_
      refine Vc.draw [] (sd [(0, .read), (1, .pure), (2, .pure), (3, .read), (4, .read), (5, .read), (6, .pure), (7, .pure), (8, .read), (9, .pure)]) mixed (by kernel_rfl) ?_
      refine Rg.read rfl rfl rfl (Ev.ld rfl rfl) ?_
      refine Rg.pure rfl rfl rfl (Pv.nilp rfl) ?_
      refine Rg.pure rfl rfl rfl (Pv.fa rfl) ?_
      refine Rg.read rfl rfl rfl (Ev.ld rfl rfl) ?_
      refine Rg.read rfl rfl rfl (Ev.lenM rfl) ?_
      refine Rg.read rfl rfl rfl (Ev.ld rfl rfl) ?_
      refine Rg.pure rfl rfl rfl (Pv.nilp rfl) ?_
      refine Rg.pure rfl rfl rfl (Pv.fa rfl) ?_
      refine Rg.read rfl rfl rfl (Ev.ld rfl rfl) ?_
      refine Rg.pure rfl rfl rfl (Pv.geq rfl rfl) ?_
      refine Rg.nil ?_
      refine Vc.cut4 (fun (es1 us1 : List (Ce KTi)) (gone : KTi) (is : Bool) => Good ck mc es1 us1 ∧ hasK (viewC us1) key = false ∧ useK zi fr (viewC us) key = some (viewC us1, 0, gone, is)) (fun es1 us1 gone is => [(1, kvi key), (2, .pointer (some ⟨b2, 0, none⟩)), (4, kvi gone), (5, .bool is)]) (fun es1 us1 gone is => (b2, cellsO [.pointer (some ⟨cb, 0, none⟩)] 42) :: (cb, cellsO [.int .i64 (fr : Int), .int .i64 (ck : Int), .map (some mb)] 69) :: (mb, mapO kvi (es1.map meC) mc) :: us1.map (ebC 59)) ?_ ?_
      ·
        refine Vc.cond rfl (fun h22 => ?_) (fun h22 => ?_)
        ·
          simp only [decide_eq_true_eq] at h22
          refine Vc.seq ?_
          refine Vc.text (List.range 3) (sd [(0, .read), (1, .eff), (2, .pure)]) rfl ?_
          refine Rg.read rfl rfl rfl (Ev.ld rfl rfl) ?_
          refine Rg.callH rfl rfl rfl (run_callF rfl) (fun F' hF' => keys_speci (F := F') hC (fun b o h => hF' b o (.inl ((Sb.sub (seg := (cb, cellsO [.int .i64 (fr : Int), .int .i64 (ck : Int), .map (some mb)] 69) :: (mb, mapO kvi (es.map meC) mc) :: us.map (ebC 59))) _ h))) (by omega) hN) rfl ?_
          rintro v24 s24 own24
          refine Rg.pure rfl rfl rfl (Pv.assign rfl) ?_
          refine Rg.nil ?_
          refine Vc.seq ?_
          refine Vc.text (List.range 4) (sd [(0, .pure), (1, .pure), (2, .eff), (3, .pure)]) rfl ?_
          refine Rg.pure rfl rfl rfl (Pv.move rfl) ?_
          refine Rg.pure rfl rfl rfl (Pv.mkF rfl rfl) ?_
          refine Rg.callP rfl rfl rfl (run_callF rfl) (idx_speci (Arg.own own24 frz_sb) (fun k => decide (pinsK (viewC us) k = 0)) 43 [.pointer (some ⟨b2, 0, none⟩)] (by simp [viewC]; omega) (fun F2 hF2 x hx => by obtain ⟨p, hp, rfl⟩ := List.mem_map.1 hx; obtain ⟨e1, he1, rfl⟩ := List.mem_map.1 hp; simp only [pinsK_view hg.keys he1]; exact @free_speci F2 cb fr ck mb mc b2 es us hg ⟨hF2 _ _ frz_pull⟩ ⟨hF2 _ _ frz_pull⟩ ⟨hF2 _ _ frz_pull⟩ (fun e he => hF2 _ _ (frz_sb (s := us.map (ebC 59)) _ _ (List.mem_map.2 ⟨e, he, rfl⟩))) e1 he1)) ?_
          rintro _ rfl
          refine Rg.pure rfl rfl rfl (Pv.assign rfl) ?_
          refine Rg.nil ?_
          refine Vc.seq ?_
          refine Vc.seq ?_
          refine Vc.text (List.range 2) (sd [(0, .pure), (1, .pure)]) rfl ?_
          refine Rg.pure rfl rfl rfl (Pv.move rfl) ?_
          refine Rg.pure rfl rfl rfl (Pv.lss rfl rfl) ?_
          refine Rg.nil ?_
          refine Vc.cond rfl (fun h29 => ?_) (fun h29 => ?_)
          ·
            simp only [decide_eq_true_eq] at h29
            have huse : useK zi fr (viewC us) key = none := (by rcases use_full zi (fr := fr) hg.keys hk (by omega) with h | ⟨A0, g, B0, _, hI, _⟩ <;> first | exact h.2 | omega)
            refine Vc.seq ?_
            refine Vc.text (List.range 4) (sd [(0, .pure), (1, .pure), (2, .pure), (3, .pure)]) rfl ?_
            refine Rg.pure rfl rfl rfl (Pv.move rfl) ?_
            refine Rg.pure rfl rfl rfl (Pv.assign rfl) ?_
            refine Rg.pure rfl rfl rfl (Pv.assign rfl) ?_
            refine Rg.pure rfl rfl rfl (Pv.assign rfl) ?_
            refine Rg.nil ?_
            exact Vc.ret (Vc.retsH (hl' := (cb, cellsO [.int .i64 (fr : Int), .int .i64 (ck : Int), .map (some mb)] 69) :: (mb, mapO kvi (es.map meC) mc) :: us.map (ebC 59)) rfl (.cons (.tmp rfl) (.cons (.tmp rfl) (.cons (.tmp rfl) .nil))) (.inl ⟨huse, rfl, hC⟩) pulled)
          ·
            simp only [decide_eq_false_iff_not] at h29
            obtain ⟨A0, g, B0, rfl, hI, huse⟩ : ∃ A g B, us = A ++ g :: B ∧ idxI (fun k => decide (pinsK (viewC us) k = 0)) ((viewC us).map (·.1)) 0 = (A.length : Int) ∧ useK zi fr (viewC us) key = some (viewC (A ++ B), 0, g.k, true) := (by rcases use_full zi (fr := fr) hg.keys hk (by omega) with h | h <;> first | exact h | omega)
            rw [show (A0 ++ g :: B0).map (ebC 59) = A0.map (ebC 59) ++ ebC 59 g :: B0.map (ebC 59) from by rw [List.map_append, List.map_cons]]
            have hgl : A0.length < ((viewC (A0 ++ g :: B0)).map (·.1)).length := by simp [viewC]
            have hge : ((viewC (A0 ++ g :: B0)).map (·.1))[A0.length]! = g.k := by rw [getElem!_pos ((viewC (A0 ++ g :: B0)).map (·.1)) A0.length hgl]; simp [viewC]
            obtain ⟨bk, capk, spk, rfl, rfl, _, _⟩ := own24.block (by omega)
            refine Vc.skip ?_
            refine Vc.seq ?_
            refine Vc.text (List.range 6) (sd [(0, .pure), (1, .pure), (2, .pure), (3, .read), (4, .pure), (5, .pure)]) rfl ?_
            refine Rg.pure rfl rfl rfl (Pv.move rfl) ?_
            refine Rg.pure rfl rfl rfl (Pv.move rfl) ?_
            refine Rg.pure rfl rfl rfl (Pv.ixA (A0.length) rfl rfl (by omega) (by omega)) ?_
            refine Rg.read rfl rfl rfl (Ev.as (kvi g.k) (Ev.ldR (A0.length) rfl (Nat.zero_add _) hgl) (congrArg kvi hge)) ?_
            refine Rg.pure rfl rfl rfl (Pv.assign rfl) ?_
            refine Rg.pure rfl rfl rfl (Pv.assign rfl) ?_
            refine Rg.nil ?_
            refine Vc.text (List.range 6) (sd [(0, .read), (1, .pure), (2, .pure), (3, .read), (4, .pure), (5, .eff)]) rfl ?_
            refine Rg.read rfl rfl rfl (Ev.ld rfl rfl) ?_
            refine Rg.pure rfl rfl rfl (Pv.nilp rfl) ?_
            refine Rg.pure rfl rfl rfl (Pv.fa rfl) ?_
            refine Rg.read rfl rfl rfl (Ev.ld rfl rfl) ?_
            refine Rg.pure rfl rfl rfl (Pv.move rfl) ?_
            refine Rg.mapDel rfl rfl rfl rfl rfl (⟨meC g, List.mem_map.2 ⟨g, hg.perm.mem_iff.2 (by simp), rfl⟩, rfl⟩) (hg.nodup) rfl ?_
            refine Rg.nil ?_
            have hno : hasK (viewC (A0 ++ B0)) key = false := by
              rw [Bool.eq_false_iff]
              intro h
              obtain ⟨x, hx, e⟩ := (hasK_view _ _).1 h
              have := (hasK_view (A0 ++ g :: B0) key).2 ⟨x, by rcases List.mem_append.1 hx with h | h <;> simp [h], e⟩
              rw [hk] at this; cases this
            rw [← me_gone es g.k]
            exact Vc.inv4 (es.filter fun x => !decide (x.k = g.k)) (A0 ++ B0) g.k true ⟨hg.gone, hno, huse⟩ (.cons rfl (.cons rfl (.cons rfl (.cons rfl .nil)))) (by rw [List.map_append]; exact pulled)
        ·
          simp only [decide_eq_false_iff_not] at h22
          refine Vc.skip ?_
          exact Vc.inv4 es us zi false ⟨hg, hk, by simp only [useK, hk, Bool.false_eq_true, if_false]; rw [if_neg (by omega)]⟩ (.cons rfl (.cons rfl (.cons rfl (.cons rfl .nil)))) pulled
      ·
        rintro es1 us1 gone is ⟨hg1, hk1, huse⟩
        refine Vc.text (List.range 8) (sd [(0, .read), (1, .pure), (2, .pure), (3, .read), (4, .pure), (5, .pure), (6, .eff), (7, .eff)]) rfl ?_
        refine Rg.read rfl rfl rfl (Ev.ld rfl rfl) ?_
        refine Rg.pure rfl rfl rfl (Pv.nilp rfl) ?_
        refine Rg.pure rfl rfl rfl (Pv.fa rfl) ?_
        refine Rg.read rfl rfl rfl (Ev.ld rfl rfl) ?_
        refine Rg.pure rfl rfl rfl (Pv.move rfl) ?_
        refine Rg.pure rfl rfl rfl (Pv.build rfl rfl) ?_
        refine Rg.box rfl rfl rfl rfl rfl (fun b46 => ?_)
        refine Rg.mapPut rfl rfl rfl rfl rfl rfl (fun m hm e0 => by obtain ⟨x, hx, rfl⟩ := List.mem_map.1 hm; have := (hasK_view us1 key).2 ⟨x, hg1.perm.mem_iff.1 hx, e0⟩; rw [hk1] at this; cases this) (hg1.nodup) rfl ?_
        refine Rg.nil ?_
        rw [show es1.map meC ++ [(⟨key, .pointer (some ⟨b46, 0, none⟩), mc⟩ : Me KTi)] = (es1 ++ [(⟨key, ck + 1, 0, b46, mc⟩ : Ce KTi)]).map meC from by simp]
        exact Vc.inv7 (mc + 1) (es1 ++ [⟨key, ck + 1, 0, b46, mc⟩]) us1 [] ⟨key, 0, 0, b46, mc⟩ gone is ⟨rfl, hg1.come key hk1 b46, by rw [List.append_nil]; exact huse⟩ (.cons rfl (.cons rfl (.cons rfl (.cons rfl .nil)))) (rest := []) (by rw [List.append_nil]; exact (List.perm_append_singleton _ _).symm)
    ·
      have hk : hasK (viewC us) key = true := (by simpa using h12)
      obtain ⟨e, he, rfl⟩ := (hasK_view us key).1 hk
      obtain ⟨A, B, rfl⟩ := List.append_of_mem he
      refine Vc.skip ?_
      rw [← me_last es e.k (ck + 1), List.map_append, List.map_cons]
      exact Vc.inv7 mc (es.map fun x => if x.k = e.k then { x with used := ck + 1 } else x) A B e zi false ⟨rfl, hg.last, by simp only [useK, hk, if_true, dropK_split hg.keys, pinsK_split hg.keys]⟩ (.cons rfl (.cons rfl (.cons rfl (.cons rfl .nil)))) pulled
  ·
    rintro mc1 es1 A B e gone is ⟨rfl, hg1, huse⟩
    have ex : ((findM (es1.map meC) e.k).map (·.v)).getD (.pointer none) = .pointer (some ⟨e.blk, 0, none⟩) := by
      rw [findM_some hg1.nodup (m := meC { e with used := ck + 1 }) (List.mem_map.2 ⟨{ e with used := ck + 1 }, hg1.perm.mem_iff.2 (by simp), rfl⟩) rfl]; rfl
    refine Vc.seq ?_
    refine Vc.text (List.range 8) (sd [(0, .read), (1, .pure), (2, .pure), (3, .read), (4, .pure), (5, .pure), (6, .pure), (7, .eff)]) rfl ?_
    refine Rg.read rfl rfl rfl (Ev.ld rfl rfl) ?_
    refine Rg.pure rfl rfl rfl (Pv.nilp rfl) ?_
    refine Rg.pure rfl rfl rfl (Pv.fa rfl) ?_
    refine Rg.read rfl rfl rfl (Ev.ld rfl rfl) ?_
    refine Rg.pure rfl rfl rfl (Pv.asI (ck + 1) (Pv.add rfl rfl (by omega)) (by omega)) ?_
    refine Rg.pure rfl rfl rfl (Pv.nilp rfl) ?_
    refine Rg.pure rfl rfl rfl (Pv.fa rfl) ?_
    refine Rg.store rfl rfl rfl rfl rfl rfl rfl rfl ?_
    refine Rg.nil ?_
    refine Vc.seq ?_
    refine Vc.draw [12] (sd [(0, .read), (1, .pure), (2, .pure), (3, .read), (4, .pure), (5, .read), (6, .read), (7, .pure), (8, .pure), (9, .read), (10, .pure), (11, .pure), (12, .eff)]) mixed (by kernel_rfl) ?_
    refine Rg.read rfl rfl rfl (Ev.ld rfl rfl) ?_
    refine Rg.pure rfl rfl rfl (Pv.nilp rfl) ?_
    refine Rg.pure rfl rfl rfl (Pv.fa rfl) ?_
    refine Rg.read rfl rfl rfl (Ev.ld rfl rfl) ?_
    refine Rg.pure rfl rfl rfl (Pv.move rfl) ?_
    refine Rg.read rfl rfl rfl (Ev.as (.pointer (some ⟨e.blk, 0, none⟩)) (Ev.lookup rfl rfl hg1.nodup) ex) ?_
    refine Rg.read rfl rfl rfl (Ev.ld rfl rfl) ?_
    refine Rg.pure rfl rfl rfl (Pv.nilp rfl) ?_
    refine Rg.pure rfl rfl rfl (Pv.fa rfl) ?_
    refine Rg.read rfl rfl rfl (Ev.ld rfl rfl) ?_
    refine Rg.pure rfl rfl rfl (Pv.nilp rfl) ?_
    refine Rg.pure rfl rfl rfl (Pv.fa rfl) ?_
    refine Rg.store rfl rfl rfl rfl rfl rfl rfl rfl ?_
    refine Rg.nil ?_
    refine Vc.seq ?_
    refine Vc.text (List.range 5) (sd [(0, .pure), (1, .pure), (2, .pure), (3, .pure), (4, .pure)]) rfl ?_
    refine Rg.pure rfl rfl rfl (Pv.move rfl) ?_
    refine Rg.pure rfl rfl rfl (Pv.move rfl) ?_
    refine Rg.pure rfl rfl rfl (Pv.assign rfl) ?_
    refine Rg.pure rfl rfl rfl (Pv.assign rfl) ?_
    refine Rg.pure rfl rfl rfl (Pv.assign rfl) ?_
    refine Rg.nil ?_
    exact Vc.ret (Vc.retsH (hl' := (cb, cellsO [.int .i64 (fr : Int), .int .i64 ((ck + 1 : Nat) : Int), .map (some mb)] 69) :: (mb, mapO kvi (es1.map meC) mc1) :: (A.map (ebC 59) ++ (e.blk, cellsO [.int .i64 ((ck + 1 : Nat) : Int), .int .i64 (e.pins : Int)] 59) :: B.map (ebC 59))) rfl (.cons (.tmp rfl) (.cons (.tmp rfl) (.cons (.tmp rfl) .nil))) (.inr ⟨_, _, _, _, huse, rfl, mb, mc1, es1, A ++ (B ++ [{ e with used := ck + 1 }]), by rw [List.map_append, List.map_append]; exact ((((List.perm_append_singleton (ebC 59 { e with used := ck + 1 }) (B.map (ebC 59))).symm.append_left _).cons _).cons _), hg1, by simp [viewC]⟩) pulled)
end Go.Proofs.Ytigkckpjbnflpaa
