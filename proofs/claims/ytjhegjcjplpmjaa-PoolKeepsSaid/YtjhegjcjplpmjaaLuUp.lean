/- Caches whose keys are of one type: Use. -/
import Derived.Test.YtjhegjcjplpmjaaLuCp
namespace Go.Proofs.Ytjhegjcjplpmjaa
set_option linter.unusedVariables false

theorem idxI_map {α β : Type} (f : α → β) (p : β → Bool) : ∀ (xs : List α) (i : Nat), idxI p (xs.map f) i = idxI (fun x => p (f x)) xs i
  | [], _ => rfl
  | x :: l, i => by simp only [List.map_cons, idxI, idxI_map f p l (i + 1)]
theorem pinsK_view {κ : Type} [DecidableEq κ] {us : List (Ce κ)} (hn : (us.map (·.k)).Nodup) {e : Ce κ} (he : e ∈ us) : pinsK (viewC us) e.k = e.pins := by
  obtain ⟨A, B, rfl⟩ := List.append_of_mem he
  exact pinsK_split hn
theorem use_full {κ : Type} [DecidableEq κ] {us : List (Ce κ)} (z : κ) {fr : Nat} {key : κ} (hn : (us.map (·.k)).Nodup) (hk : hasK (viewC us) key = false) (hf : fr ≤ us.length) :
    (idxI (fun k => decide (pinsK (viewC us) k = 0)) ((viewC us).map (·.1)) 0 < 0 ∧ useK z fr (viewC us) key = none) ∨
    ∃ A g B, us = A ++ g :: B ∧ idxI (fun k => decide (pinsK (viewC us) k = 0)) ((viewC us).map (·.1)) 0 = (A.length : Int) ∧ useK z fr (viewC us) key = some (viewC (A ++ B), 0, g.k, true) := by
  have e0 : (viewC us).map (·.1) = us.map (·.k) := by simp [viewC, List.map_map, Function.comp_def]
  have hlen : fr ≤ (viewC us).length := by simpa [viewC] using hf
  rw [e0, idxI_map]
  rcases idxI_spec (fun e : Ce κ => decide (pinsK (viewC us) e.k = 0)) us 0 with ⟨h1, h2⟩ | ⟨A, g, B, hu, h2, h3, h4⟩
  · refine .inl ⟨by rw [h1]; decide, ?_⟩
    have : (viewC us).find? (fun p => decide (p.2 = 0)) = none := by
      rw [List.find?_eq_none]
      intro p hp
      obtain ⟨e, he, rfl⟩ := List.mem_map.1 hp
      have := h2 e he
      rw [pinsK_view hn he] at this
      simpa using this
    simp only [useK, hk, Bool.false_eq_true, if_false, if_pos hlen, this]
  · refine .inr ⟨A, g, B, hu, by rw [h4]; simp, ?_⟩
    have hgm : g ∈ us := by rw [hu]; simp
    rw [pinsK_view hn hgm] at h3
    have hg0 : g.pins = 0 := by simpa using h3
    have hfind : (viewC us).find? (fun p => decide (p.2 = 0)) = some (g.k, g.pins) := by
      have hA : (viewC A).find? (fun p => decide (p.2 = 0)) = none := by
        rw [List.find?_eq_none]
        intro p hp
        obtain ⟨e, he, rfl⟩ := List.mem_map.1 hp
        have := h2 e he
        rw [pinsK_view hn (by rw [hu]; exact List.mem_append_left _ he)] at this
        simpa using this
      rw [hu]
      simp only [viewC] at hA
      simp [viewC, List.find?_append, hA, hg0]
    simp only [useK, hk, Bool.false_eq_true, if_false, if_pos hlen, hfind]
    rw [hu] at hn ⊢
    rw [dropK_split hn]
theorem frz_pull {F : Fm} {hl : Hl} {b : Nat} {o : Obj} {rest : Hl} [h : Pull1 hl b o rest] : (frz F hl).at_ b o := Or.inl mem_pull

abbrev zp : KTp := ⟨[], 0⟩

theorem use_specp (F : Fm) {cb fr ck : Nat} {L : List (KTp × Nat)} {s : Hl} (hh : Cachep cb fr ck L s) (key : KTp) (hck : ck < 1073741824) (hN : L.length < 1073741824) :
    Spec Try.prog 63 #[.pointer (some ⟨cb, 0, none⟩), kvp key] F s fun v s' =>
      (useK zp fr L key = none ∧ v = .tuple #[kvp zp, .bool false, .int .i64 8] ∧ Cachep cb fr ck L s') ∨
      ∃ M q g is, useK zp fr L key = some (M, q, g, is) ∧ v = .tuple #[kvp g, .bool is, .int .i64 0] ∧ Cachep cb fr (ck + 1) (M ++ [(key, q)]) s' := by
  obtain ⟨mb, mc, es, us, hperm, hg, rfl⟩ := hh
  refine Spec.permL ?_ hperm
  have hlen : (es.map meC).length = us.length := by rw [List.length_map]; exact hg.perm.length_eq
  have hlv : (viewC us).length = us.length := by simp [viewC]
  have hC : Cachep cb fr ck (viewC us) ((cb, cellsO [.int .i64 (fr : Int), .int .i64 (ck : Int), .map (some mb)] 97) :: (mb, mapO kvp (es.map meC) mc) :: us.map (ebC 112)) := ⟨mb, mc, es, us, .refl _, hg, rfl⟩
  refine Spec.of (n := 68) (vs := [.pointer (some ⟨cb, 0, none⟩), kvp key]) Try.func63 rfl Try.ntmps63 rfl ?_
  refine Vc.seq ?_
  refine Vc.text (List.range 5) (sd [(0, .eff), (1, .eff), (2, .eff), (3, .pure), (4, .pure)]) rfl ?_
  refine Rg.box rfl rfl rfl rfl rfl (fun b2 => ?_)
  refine Rg.box rfl rfl rfl rfl rfl (fun b3 => ?_)
  refine Rg.alloc rfl rfl rfl rfl (fun b4 => ?_)
  refine Rg.pure rfl rfl rfl (Pv.assign rfl) ?_
  refine Rg.pure rfl rfl rfl (Pv.assign rfl) ?_
  refine Rg.nil ?_
  refine Vc.seq ?_
  refine Vc.seq ?_
  refine Vc.text (List.range 4) (sd [(0, .read), (1, .read), (2, .eff), (3, .pure)]) rfl ?_
  refine Rg.read rfl rfl rfl (Ev.ld rfl rfl) ?_
  refine Rg.read rfl rfl rfl (Ev.ldA rfl rfl) ?_
  refine Rg.callP rfl rfl rfl (run_callF rfl) (has_specp hC frz_sb key) ?_
  rintro _ rfl
  refine Rg.pure rfl rfl rfl (Pv.not rfl) ?_
  refine Rg.nil ?_
  refine Vc.cut7 (fun (mc : Nat) (es A B : List (Ce KTp)) (e : Ce KTp) (gone : KTp) (is : Bool) => e.k = key ∧ Good (ck + 1) mc es (A ++ (B ++ [{ e with used := ck + 1 }])) ∧ useK zp fr (viewC us) key = some (viewC (A ++ B), e.pins, gone, is)) (fun mc es A B e gone is => [(2, .pointer (some ⟨b2, 0, none⟩)), (3, .pointer (some ⟨b3, 0, none⟩)), (4, .pointer (some ⟨b4, 0, none⟩)), (5, .bool is)]) (fun mc es A B e gone is => (b2, cellsO [.pointer (some ⟨cb, 0, none⟩)] 51) :: (b3, cellsO (plC key) 54) :: (b4, cellsO (plC gone) 54) :: (cb, cellsO [.int .i64 (fr : Int), .int .i64 (ck : Int), .map (some mb)] 97) :: (mb, mapO kvp (es.map meC) mc) :: (A.map (ebC 112) ++ (e.blk, cellsO [.int .i64 (e.used : Int), .int .i64 (e.pins : Int)] 112) :: B.map (ebC 112))) ?_ ?_
  ·
    refine Vc.cond rfl (fun h12 => ?_) (fun h12 => ?_)
    ·
      have hk : hasK (viewC us) key = false := (by simpa using h12)
      refine Vc.seq ?_
      refine Vc.seq ?_
      refine Vc.draw [] (sd [(0, .read), (1, .pure), (2, .pure), (3, .read), (4, .read), (5, .read), (6, .pure), (7, .pure), (8, .read), (9, .pure)]) mixed (by kernel_rfl) ?_
      refine Rg.read rfl rfl rfl (Ev.ld rfl rfl) ?_
      refine Rg.pure rfl rfl rfl (Pv.nilp rfl) ?_
      refine Rg.pure rfl rfl rfl (Pv.fa rfl) ?_
      refine Rg.read rfl rfl rfl (Ev.ld rfl rfl) ?_
      refine Rg.read rfl rfl rfl (Ev.lenM rfl) ?_
      refine Rg.read rfl rfl rfl (Ev.ld rfl rfl) ?_
      refine Rg.pure rfl rfl rfl (Pv.nilp rfl) ?_
      refine Rg.pure rfl rfl rfl (Pv.fa rfl) ?_
      refine Rg.read rfl rfl rfl (Ev.ld rfl rfl) ?_
      refine Rg.pure rfl rfl rfl (Pv.geq rfl rfl) ?_
      refine Rg.nil ?_
      refine Vc.cut4 (fun (es1 us1 : List (Ce KTp)) (gone : KTp) (is : Bool) => Good ck mc es1 us1 ∧ hasK (viewC us1) key = false ∧ useK zp fr (viewC us) key = some (viewC us1, 0, gone, is)) (fun es1 us1 gone is => [(2, .pointer (some ⟨b2, 0, none⟩)), (3, .pointer (some ⟨b3, 0, none⟩)), (4, .pointer (some ⟨b4, 0, none⟩)), (5, .bool is)]) (fun es1 us1 gone is => (b2, cellsO [.pointer (some ⟨cb, 0, none⟩)] 51) :: (b3, cellsO (plC key) 54) :: (b4, cellsO (plC gone) 54) :: (cb, cellsO [.int .i64 (fr : Int), .int .i64 (ck : Int), .map (some mb)] 97) :: (mb, mapO kvp (es1.map meC) mc) :: us1.map (ebC 112)) ?_ ?_
      ·
        refine Vc.cond rfl (fun h22 => ?_) (fun h22 => ?_)
        ·
          simp only [decide_eq_true_eq] at h22
          refine Vc.seq ?_
          refine Vc.text (List.range 3) (sd [(0, .read), (1, .eff), (2, .pure)]) rfl ?_
          refine Rg.read rfl rfl rfl (Ev.ld rfl rfl) ?_
          refine Rg.callH rfl rfl rfl (run_callF rfl) (fun F' hF' => keys_specp (F := F') hC (fun b o h => hF' b o (.inl ((Sb.sub (seg := (cb, cellsO [.int .i64 (fr : Int), .int .i64 (ck : Int), .map (some mb)] 97) :: (mb, mapO kvp (es.map meC) mc) :: us.map (ebC 112))) _ h))) (by omega) hN) rfl ?_
          rintro v24 s24 own24
          refine Rg.pure rfl rfl rfl (Pv.assign rfl) ?_
          refine Rg.nil ?_
          refine Vc.seq ?_
          refine Vc.text (List.range 4) (sd [(0, .pure), (1, .pure), (2, .eff), (3, .pure)]) rfl ?_
          refine Rg.pure rfl rfl rfl (Pv.move rfl) ?_
          refine Rg.pure rfl rfl rfl (Pv.mkF rfl rfl) ?_
          refine Rg.callP rfl rfl rfl (run_callF rfl) (idx_specp (Arg.own own24 frz_sb) (fun k => decide (pinsK (viewC us) k = 0)) 75 [.pointer (some ⟨b2, 0, none⟩)] (by simp [viewC]; omega) (fun F2 hF2 x hx => by obtain ⟨p, hp, rfl⟩ := List.mem_map.1 hx; obtain ⟨e1, he1, rfl⟩ := List.mem_map.1 hp; simp only [pinsK_view hg.keys he1]; exact @free_specp F2 cb fr ck mb mc b2 es us hg ⟨hF2 _ _ frz_pull⟩ ⟨hF2 _ _ frz_pull⟩ ⟨hF2 _ _ frz_pull⟩ (fun e he => hF2 _ _ (frz_sb (s := us.map (ebC 112)) _ _ (List.mem_map.2 ⟨e, he, rfl⟩))) e1 he1)) ?_
          rintro _ rfl
          refine Rg.pure rfl rfl rfl (Pv.assign rfl) ?_
          refine Rg.nil ?_
          refine Vc.seq ?_
          refine Vc.seq ?_
          refine Vc.text (List.range 2) (sd [(0, .pure), (1, .pure)]) rfl ?_
          refine Rg.pure rfl rfl rfl (Pv.move rfl) ?_
          refine Rg.pure rfl rfl rfl (Pv.lss rfl rfl) ?_
          refine Rg.nil ?_
          refine Vc.cond rfl (fun h29 => ?_) (fun h29 => ?_)
          ·
            simp only [decide_eq_true_eq] at h29
            have huse : useK zp fr (viewC us) key = none := (by rcases use_full zp (fr := fr) hg.keys hk (by omega) with h | ⟨A0, g, B0, _, hI, _⟩ <;> first | exact h.2 | omega)
            refine Vc.seq ?_
            refine Vc.text (List.range 4) (sd [(0, .read), (1, .eff), (2, .pure), (3, .pure)]) rfl ?_
            refine Rg.read rfl rfl rfl (Ev.ldA rfl rfl) ?_
            refine Rg.storeA rfl rfl rfl rfl rfl rfl rfl rfl ?_
            refine Rg.pure rfl rfl rfl (Pv.assign rfl) ?_
            refine Rg.pure rfl rfl rfl (Pv.assign rfl) ?_
            refine Rg.nil ?_
            exact Vc.ret (Vc.retsH (hl' := (cb, cellsO [.int .i64 (fr : Int), .int .i64 (ck : Int), .map (some mb)] 97) :: (mb, mapO kvp (es.map meC) mc) :: us.map (ebC 112)) rfl (.cons (.cellA rfl rfl) (.cons (.tmp rfl) (.cons (.tmp rfl) .nil))) (.inl ⟨huse, rfl, hC⟩) pulled)
          ·
            simp only [decide_eq_false_iff_not] at h29
            obtain ⟨A0, g, B0, rfl, hI, huse⟩ : ∃ A g B, us = A ++ g :: B ∧ idxI (fun k => decide (pinsK (viewC us) k = 0)) ((viewC us).map (·.1)) 0 = (A.length : Int) ∧ useK zp fr (viewC us) key = some (viewC (A ++ B), 0, g.k, true) := (by rcases use_full zp (fr := fr) hg.keys hk (by omega) with h | h <;> first | exact h | omega)
            rw [show (A0 ++ g :: B0).map (ebC 112) = A0.map (ebC 112) ++ ebC 112 g :: B0.map (ebC 112) from by rw [List.map_append, List.map_cons]]
            have hgl : A0.length < ((viewC (A0 ++ g :: B0)).map (·.1)).length := by simp [viewC]
            have hge : ((viewC (A0 ++ g :: B0)).map (·.1))[A0.length]! = g.k := by rw [getElem!_pos ((viewC (A0 ++ g :: B0)).map (·.1)) A0.length hgl]; simp [viewC]
            obtain ⟨bk, capk, spk, rfl, rfl, _, _⟩ := own24.block (by omega)
            refine Vc.skip ?_
            refine Vc.seq ?_
            refine Vc.text (List.range 6) (sd [(0, .pure), (1, .pure), (2, .pure), (3, .read), (4, .eff), (5, .pure)]) rfl ?_
            refine Rg.pure rfl rfl rfl (Pv.move rfl) ?_
            refine Rg.pure rfl rfl rfl (Pv.move rfl) ?_
            refine Rg.pure rfl rfl rfl (Pv.ixA (A0.length) rfl rfl (by omega) (by omega)) ?_
            refine Rg.read rfl rfl rfl (Ev.as (kvp g.k) (Ev.ldR (A0.length) rfl (Nat.zero_add _) hgl) (congrArg kvp hge)) ?_
            refine Rg.storeA rfl rfl rfl rfl rfl rfl rfl rfl ?_
            refine Rg.pure rfl rfl rfl (Pv.assign rfl) ?_
            refine Rg.nil ?_
            refine Vc.draw [5] (sd [(0, .read), (1, .pure), (2, .pure), (3, .read), (4, .read), (5, .eff)]) mixed (by kernel_rfl) ?_
            refine Rg.read rfl rfl rfl (Ev.ld rfl rfl) ?_
            refine Rg.pure rfl rfl rfl (Pv.nilp rfl) ?_
            refine Rg.pure rfl rfl rfl (Pv.fa rfl) ?_
            refine Rg.read rfl rfl rfl (Ev.ld rfl rfl) ?_
            refine Rg.read rfl rfl rfl (Ev.ldA rfl rfl) ?_
            refine Rg.mapDel (kv := kvp) (k := g.k) rfl rfl rfl rfl rfl (⟨meC g, List.mem_map.2 ⟨g, hg.perm.mem_iff.2 (by simp), rfl⟩, rfl⟩) (hg.nodup) rfl ?_
            refine Rg.nil ?_
            have hno : hasK (viewC (A0 ++ B0)) key = false := by
              rw [Bool.eq_false_iff]
              intro h
              obtain ⟨x, hx, e⟩ := (hasK_view _ _).1 h
              have := (hasK_view (A0 ++ g :: B0) key).2 ⟨x, by rcases List.mem_append.1 hx with h | h <;> simp [h], e⟩
              rw [hk] at this; cases this
            rw [← me_gone es g.k]
            exact Vc.inv4 (es.filter fun x => !decide (x.k = g.k)) (A0 ++ B0) g.k true ⟨hg.gone, hno, huse⟩ (.cons rfl (.cons rfl (.cons rfl (.cons rfl .nil)))) (by rw [List.map_append]; exact pulled)
        ·
          simp only [decide_eq_false_iff_not] at h22
          refine Vc.skip ?_
          rw [show cellsO [Value.string ⟨#[]⟩, .int .i64 0] 54 = cellsO (plC zp) 54 from rfl]
          exact Vc.inv4 es us zp false ⟨hg, hk, by simp only [useK, hk, Bool.false_eq_true, if_false]; rw [if_neg (by omega)]⟩ (.cons rfl (.cons rfl (.cons rfl (.cons rfl .nil)))) pulled
      ·
        rintro es1 us1 gone is ⟨hg1, hk1, huse⟩
        refine Vc.draw [7] (sd [(0, .read), (1, .pure), (2, .pure), (3, .read), (4, .read), (5, .pure), (6, .eff), (7, .eff)]) mixed (by kernel_rfl) ?_
        refine Rg.read rfl rfl rfl (Ev.ld rfl rfl) ?_
        refine Rg.pure rfl rfl rfl (Pv.nilp rfl) ?_
        refine Rg.pure rfl rfl rfl (Pv.fa rfl) ?_
        refine Rg.read rfl rfl rfl (Ev.ld rfl rfl) ?_
        refine Rg.read rfl rfl rfl (Ev.ldA rfl rfl) ?_
        refine Rg.pure rfl rfl rfl (Pv.build rfl rfl) ?_
        refine Rg.box rfl rfl rfl rfl rfl (fun b46 => ?_)
        refine Rg.mapPut (kv := kvp) (k := key) rfl rfl rfl rfl rfl rfl (fun m hm e0 => by obtain ⟨x, hx, rfl⟩ := List.mem_map.1 hm; have := (hasK_view us1 key).2 ⟨x, hg1.perm.mem_iff.1 hx, e0⟩; rw [hk1] at this; cases this) (hg1.nodup) rfl ?_
        refine Rg.nil ?_
        rw [show es1.map meC ++ [(⟨key, .pointer (some ⟨b46, 0, none⟩), mc⟩ : Me KTp)] = (es1 ++ [(⟨key, ck + 1, 0, b46, mc⟩ : Ce KTp)]).map meC from by simp]
        exact Vc.inv7 (mc + 1) (es1 ++ [⟨key, ck + 1, 0, b46, mc⟩]) us1 [] ⟨key, 0, 0, b46, mc⟩ gone is ⟨rfl, hg1.come key hk1 b46, by rw [List.append_nil]; exact huse⟩ (.cons rfl (.cons rfl (.cons rfl (.cons rfl .nil)))) (rest := []) (by rw [List.append_nil]; exact (List.perm_append_singleton _ _).symm)
    ·
      have hk : hasK (viewC us) key = true := (by simpa using h12)
      obtain ⟨e, he, rfl⟩ := (hasK_view us key).1 hk
      obtain ⟨A, B, rfl⟩ := List.append_of_mem he
      refine Vc.skip ?_
      rw [show cellsO [Value.string ⟨#[]⟩, .int .i64 0] 54 = cellsO (plC zp) 54 from rfl]
      rw [← me_last es e.k (ck + 1), List.map_append, List.map_cons]
      exact Vc.inv7 mc (es.map fun x => if x.k = e.k then { x with used := ck + 1 } else x) A B e zp false ⟨rfl, hg.last, by simp only [useK, hk, if_true, dropK_split hg.keys, pinsK_split hg.keys]⟩ (.cons rfl (.cons rfl (.cons rfl (.cons rfl .nil)))) pulled
  ·
    rintro mc1 es1 A B e gone is ⟨rfl, hg1, huse⟩
    have ex : ((findM (es1.map meC) e.k).map (·.v)).getD (.pointer none) = .pointer (some ⟨e.blk, 0, none⟩) := by
      rw [findM_some hg1.nodup (m := meC { e with used := ck + 1 }) (List.mem_map.2 ⟨{ e with used := ck + 1 }, hg1.perm.mem_iff.2 (by simp), rfl⟩) rfl]; rfl
    refine Vc.seq ?_
    refine Vc.text (List.range 8) (sd [(0, .read), (1, .pure), (2, .pure), (3, .read), (4, .pure), (5, .pure), (6, .pure), (7, .eff)]) rfl ?_
    refine Rg.read rfl rfl rfl (Ev.ld rfl rfl) ?_
    refine Rg.pure rfl rfl rfl (Pv.nilp rfl) ?_
    refine Rg.pure rfl rfl rfl (Pv.fa rfl) ?_
    refine Rg.read rfl rfl rfl (Ev.ld rfl rfl) ?_
    refine Rg.pure rfl rfl rfl (Pv.asI (ck + 1) (Pv.add rfl rfl (by omega)) (by omega)) ?_
    refine Rg.pure rfl rfl rfl (Pv.nilp rfl) ?_
    refine Rg.pure rfl rfl rfl (Pv.fa rfl) ?_
    refine Rg.store rfl rfl rfl rfl rfl rfl rfl rfl ?_
    refine Rg.nil ?_
    refine Vc.seq ?_
    refine Vc.draw [12] (sd [(0, .read), (1, .pure), (2, .pure), (3, .read), (4, .read), (5, .read), (6, .read), (7, .pure), (8, .pure), (9, .read), (10, .pure), (11, .pure), (12, .eff)]) mixed (by kernel_rfl) ?_
    refine Rg.read rfl rfl rfl (Ev.ld rfl rfl) ?_
    refine Rg.pure rfl rfl rfl (Pv.nilp rfl) ?_
    refine Rg.pure rfl rfl rfl (Pv.fa rfl) ?_
    refine Rg.read rfl rfl rfl (Ev.ld rfl rfl) ?_
    refine Rg.read rfl rfl rfl (Ev.ldA rfl rfl) ?_
    refine Rg.read rfl rfl rfl (Ev.as (.pointer (some ⟨e.blk, 0, none⟩)) (Ev.lookup (kv := kvp) (k := e.k) rfl rfl hg1.nodup) ex) ?_
    refine Rg.read rfl rfl rfl (Ev.ld rfl rfl) ?_
    refine Rg.pure rfl rfl rfl (Pv.nilp rfl) ?_
    refine Rg.pure rfl rfl rfl (Pv.fa rfl) ?_
    refine Rg.read rfl rfl rfl (Ev.ld rfl rfl) ?_
    refine Rg.pure rfl rfl rfl (Pv.nilp rfl) ?_
    refine Rg.pure rfl rfl rfl (Pv.fa rfl) ?_
    refine Rg.store rfl rfl rfl rfl rfl rfl rfl rfl ?_
    refine Rg.nil ?_
    refine Vc.seq ?_
    refine Vc.text (List.range 5) (sd [(0, .read), (1, .pure), (2, .eff), (3, .pure), (4, .pure)]) rfl ?_
    refine Rg.read rfl rfl rfl (Ev.ldA rfl rfl) ?_
    refine Rg.pure rfl rfl rfl (Pv.move rfl) ?_
    refine Rg.storeA rfl rfl rfl rfl rfl rfl rfl rfl ?_
    refine Rg.pure rfl rfl rfl (Pv.assign rfl) ?_
    refine Rg.pure rfl rfl rfl (Pv.assign rfl) ?_
    refine Rg.nil ?_
    exact Vc.ret (Vc.retsH (hl' := (cb, cellsO [.int .i64 (fr : Int), .int .i64 ((ck + 1 : Nat) : Int), .map (some mb)] 97) :: (mb, mapO kvp (es1.map meC) mc1) :: (A.map (ebC 112) ++ (e.blk, cellsO [.int .i64 ((ck + 1 : Nat) : Int), .int .i64 (e.pins : Int)] 112) :: B.map (ebC 112))) rfl (.cons (.cellA rfl rfl) (.cons (.tmp rfl) (.cons (.tmp rfl) .nil))) (.inr ⟨_, _, _, _, huse, rfl, mb, mc1, es1, A ++ (B ++ [{ e with used := ck + 1 }]), by rw [List.map_append, List.map_append]; exact ((((List.perm_append_singleton (ebC 112 { e with used := ck + 1 }) (B.map (ebC 112))).symm.append_left _).cons _).cons _), hg1, by simp [viewC]⟩) pulled)
end Go.Proofs.Ytjhegjcjplpmjaa
