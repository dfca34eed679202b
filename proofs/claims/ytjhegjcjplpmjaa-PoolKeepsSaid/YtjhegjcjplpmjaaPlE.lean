/- Pools: room. -/
import Derived.Test.YtjhegjcjplpmjaaPlI
import Derived.Test.YtjhegjcjplpmjaaLuVp
namespace Go.Proofs.Ytjhegjcjplpmjaa
set_option linter.unusedVariables false

abbrev Zk (L : List Pl) : List (Pl × Nat) := L.map fun p => (p, 0)
theorem hasK_Z (L : List Pl) (pl : Pl) : hasK (Zk L) pl = decide (pl ∈ L) := by
  rw [Bool.eq_iff_iff]
  simp [hasK, Zk]
theorem dropK_Z (L : List Pl) (pl : Pl) : dropK (Zk L) pl = Zk (L.filter fun q => !decide (q = pl)) := by
  unfold dropK Zk
  rw [List.filter_map]
  rfl
theorem pinsK_Z (L : List Pl) (pl : Pl) : pinsK (Zk L) pl = 0 := by
  unfold pinsK Zk
  cases h : (L.map fun p => (p, 0)).find? fun p => decide (p.1 = pl) with
  | none => rfl
  | some p =>
    have := List.mem_of_find?_eq_some h
    obtain ⟨q, _, rfl⟩ := List.mem_map.1 this
    rfl
theorem useK_hit {L : List Pl} {pl : Pl} (h : pl ∈ L) (fr : Nat) : useK zp fr (Zk L) pl = some (Zk (L.filter fun q => !decide (q = pl)), 0, zp, false) := by
  rw [useK, if_pos (by rw [hasK_Z]; simpa using h), dropK_Z, pinsK_Z]
theorem useK_few {L : List Pl} {pl : Pl} (h : pl ∉ L) {fr : Nat} (hf : L.length < fr) : useK zp fr (Zk L) pl = some (Zk L, 0, zp, false) := by
  rw [useK, if_neg (by rw [hasK_Z]; simpa using h), if_neg (by rw [List.length_map]; omega)]
theorem useK_full {g : Pl} {L : List Pl} {pl : Pl} (h : pl ∉ g :: L) {fr : Nat} (hf : fr ≤ (g :: L).length) (hn : (g :: L).Nodup) : useK zp fr (Zk (g :: L)) pl = some (Zk L, 0, g, true) := by
  rw [useK, if_neg (by rw [hasK_Z]; simpa using h), if_pos (by rw [List.length_map]; exact hf)]
  have e : (Zk (g :: L)).find? (fun p => decide (p.2 = 0)) = some (g, 0) := by simp [Zk]
  rw [e]
  simp only [dropK_Z]
  rw [List.nodup_cons] at hn
  have : (g :: L).filter (fun q => !decide (q = g)) = L := by
    rw [List.filter_cons]
    simp only [decide_true, Bool.not_true, Bool.false_eq_true, if_false]
    rw [List.filter_eq_self]
    intro q hq
    have : q ≠ g := fun e => hn.1 (e ▸ hq)
    simp [this]
  rw [this]
theorem cutP_setP (P : List (Pl × Pg)) (g : Pl) (x : Pg) : cutP (setP P g x) g = cutP P g := by
  induction P with
  | nil => rfl
  | cons p P ih =>
    unfold cutP setP at *
    rw [List.map_cons, List.filter_cons, List.filter_cons]
    by_cases e : p.1 = g
    · rw [if_pos e]; simp [e, ih]
    · rw [if_neg e]; simp [e, ih]
theorem perm_pool {α : Type} (a b : α) (A sc hp t : List α) (hA : A.Perm (a :: b :: (sc ++ hp))) : (A ++ t).Perm (a :: b :: (sc ++ (hp ++ t))) := by
  have e : a :: b :: (sc ++ (hp ++ t)) = (a :: b :: (sc ++ hp)) ++ t := by simp
  rw [e]
  exact hA.append_right t
theorem Spec.pool {Pr : Program} {f : Nat} {args : Array Value} {F : Fm} {a b : Nat × Obj} {sc hp t : Hl} {post : Value → Hl → Prop} (h : Spec Pr f args F ((a :: b :: (sc ++ hp)) ++ t) post) : Spec Pr f args F (a :: b :: (sc ++ (hp ++ t))) post := by
  simpa using h
section
variable {F : Fm} {pb db fr ck n : Nat} {O : List UInt8 → Option (List UInt8)} {L : List Pl} {P : List (Pl × Pg)} {D : Dk} {s1 s2 : Hl}
theorem room_few (hP : PoolAt pb db fr ck L P s1) (hI : PInv O fr D L P) (hck : ck < 1000000) (hfr : fr ≤ 1000) (pl : Pl) (hno : findP P pl = none) (hcap : P.length < fr) :
    Spec Try.prog 64 #[.pointer (some ⟨pb, 0, none⟩), plV pl] F (s1 ++ s2) fun v s' => ∃ h1, v = .int .i64 0 ∧ s' = h1 ++ s2 ∧ PoolAt pb db fr (ck + 1) (L ++ [pl]) P h1 := by
  obtain ⟨cb, mb, mc, ms, sc, hp, hC, hpg, hnd, hbn, hold, hperm⟩ := hP
  refine Spec.perm ?_ (perm_pool _ _ _ _ _ _ hperm)
  have hLl : L.length = P.length := by have := hI.perm.length_eq; simpa using this
  have hpL : pl ∉ L := fun h => by
    obtain ⟨p, hp, e⟩ := List.mem_map.1 (hI.perm.mem_iff.1 h)
    exact findP_none hno p hp e
  have hu := useK_few hpL (fr := fr) (by omega)
  have hk := hasK_Z L pl
  rw [decide_eq_false hpL] at hk
  refine Spec.of (n := 55) (vs := [.pointer (some ⟨pb, 0, none⟩), plV pl]) Try.func64 rfl Try.ntmps64 rfl ?_
  refine Vc.seq ?_
  refine Vc.text (List.range 2) (sd [(0, .eff), (1, .pure)]) rfl ?_
  refine Rg.box rfl rfl rfl rfl rfl (fun b3 => ?_)
  refine Rg.pure rfl rfl rfl (Pv.assign rfl) ?_
  refine Rg.nil ?_
  refine Vc.seq ?_
  refine Vc.seq ?_
  refine Vc.draw [] (sd [(0, .pure), (1, .pure), (2, .pure), (3, .read), (4, .read), (5, .eff)]) mixed (by kernel_rfl) ?_
  refine Rg.pure rfl rfl rfl (Pv.move rfl) ?_
  refine Rg.pure rfl rfl rfl (Pv.nilp rfl) ?_
  refine Rg.pure rfl rfl rfl (Pv.fa rfl) ?_
  refine Rg.read rfl rfl rfl (Ev.ld rfl rfl) ?_
  refine Rg.read rfl rfl rfl (Ev.ldA rfl rfl) ?_
  refine Rg.callP rfl rfl rfl (run_callF rfl) (has_specp hC frz_sb pl) ?_
  rintro _ rfl
  refine Rg.nil ?_
  refine Vc.cond rfl (fun h14 => absurd h14 (by (rw [hk]; decide))) (fun h14 => ?_)
  refine Vc.skip ?_
  refine Vc.seq ?_
  refine Vc.cut2 (fun (s : Hl) (b5 : Nat) => Cachep cb fr (ck + 1) (Zk L ++ [(pl, 0)]) s) (fun s b5 => [(0, .pointer (some ⟨pb, 0, none⟩)), (3, .pointer (some ⟨b3, 0, none⟩)), (5, .pointer (some ⟨b5, 0, none⟩)), (6, .bool false), (7, .int .i64 0)]) (fun s b5 => (b5, cellsO (plC zp) 54) :: (b3, cellsO (plC pl) 54) :: (pb, cellsO [.pointer (some ⟨db, 0, none⟩), .pointer (some ⟨cb, 0, none⟩), .map (some mb)] 57) :: (mb, mapO plV ms mc) :: (s ++ (hp ++ s2))) ?_ ?_
  ·
    refine Vc.draw [5, 11] (.st 0 .pure (.st 1 .pure (.st 2 .pure (.st 3 .read (.st 4 .read (.two 5 (sd [(6, .pure), (7, .pure), (8, .pure), (9, .pure), (10, .eff), (11, .eff), (12, .pure), (13, .pure)]) 10 (sd [(5, .eff), (6, .pure), (7, .pure), (8, .pure), (9, .pure), (11, .eff), (12, .pure), (13, .pure)]))))))) mixed (by kernel_rfl) ?_
    refine Rg.pure rfl rfl rfl (Pv.move rfl) ?_
    refine Rg.pure rfl rfl rfl (Pv.nilp rfl) ?_
    refine Rg.pure rfl rfl rfl (Pv.fa rfl) ?_
    refine Rg.read rfl rfl rfl (Ev.ld rfl rfl) ?_
    refine Rg.read rfl rfl rfl (Ev.ldA rfl rfl) ?_
    refine Rg.two ?_ ?_
    ·
      refine Rg.callH rfl rfl rfl (run_callF rfl) (fun F' hF' => use_somep F' hC pl (by omega) (by rw [List.length_map]; omega) hu) rfl ?_
      rintro _ s21 ⟨rfl, hC21⟩
      refine Rg.pure rfl rfl rfl (Pv.move rfl) ?_
      refine Rg.pure rfl rfl rfl (Pv.extract rfl rfl) ?_
      refine Rg.pure rfl rfl rfl (Pv.extract rfl rfl) ?_
      refine Rg.pure rfl rfl rfl (Pv.extract rfl rfl) ?_
      refine Rg.alloc rfl rfl rfl rfl (fun b5 => ?_)
      refine Rg.storeA rfl rfl rfl rfl rfl rfl rfl rfl ?_
      refine Rg.pure rfl rfl rfl (Pv.assign rfl) ?_
      refine Rg.pure rfl rfl rfl (Pv.assign rfl) ?_
      refine Rg.nil ?_
      exact Vc.inv2 s21 b5 hC21 (.cons rfl (.cons rfl (.cons rfl (.cons rfl (.cons rfl .nil))))) pulled
    ·
      refine Rg.alloc rfl rfl rfl rfl (fun b5 => ?_)
      refine Rg.callH rfl rfl rfl (run_callF rfl) (fun F' hF' => use_somep F' hC pl (by omega) (by rw [List.length_map]; omega) hu) rfl ?_
      rintro _ s21 ⟨rfl, hC21⟩
      refine Rg.pure rfl rfl rfl (Pv.move rfl) ?_
      refine Rg.pure rfl rfl rfl (Pv.extract rfl rfl) ?_
      refine Rg.pure rfl rfl rfl (Pv.extract rfl rfl) ?_
      refine Rg.pure rfl rfl rfl (Pv.extract rfl rfl) ?_
      refine Rg.storeA rfl rfl rfl rfl rfl rfl rfl rfl ?_
      refine Rg.pure rfl rfl rfl (Pv.assign rfl) ?_
      refine Rg.pure rfl rfl rfl (Pv.assign rfl) ?_
      refine Rg.nil ?_
      exact Vc.inv2 s21 b5 hC21 (.cons rfl (.cons rfl (.cons rfl (.cons rfl (.cons rfl .nil))))) pulled
  ·
    rintro s21 b5 hC21
    refine Vc.seq ?_
    refine Vc.seq ?_
    refine Vc.text (List.range 6) (sd [(0, .pure), (1, .pure), (2, .pure), (3, .pure), (4, .pure), (5, .pure)]) rfl ?_
    refine Rg.pure rfl rfl rfl (Pv.move rfl) ?_
    refine Rg.pure rfl rfl rfl (Pv.neq rfl rfl) ?_
    refine Rg.pure rfl rfl rfl (Pv.move rfl) ?_
    refine Rg.split (t := 27) rfl (fun h27 => absurd h27 (by decide)) (fun h27 => ?_)
    refine Rg.pure rfl rfl rfl (Pv.move rfl) ?_
    refine Rg.pure rfl rfl rfl (Pv.not rfl) ?_
    refine Rg.pure rfl rfl rfl (Pv.pickF rfl rfl) ?_
    refine Rg.nil ?_
    refine Vc.cond rfl (fun h30 => ?_) (fun h30 => absurd h30 (by decide))
    refine Vc.seq ?_
    refine Vc.text (List.range 2) (sd [(0, .pure), (1, .pure)]) rfl ?_
    refine Rg.pure rfl rfl rfl (Pv.move rfl) ?_
    refine Rg.pure rfl rfl rfl (Pv.assign rfl) ?_
    refine Rg.nil ?_
    exact Vc.ret (Vc.retsH (hl' := (pb, cellsO [.pointer (some ⟨db, 0, none⟩), .pointer (some ⟨cb, 0, none⟩), .map (some mb)] 57) :: (mb, mapO plV ms mc) :: (s21 ++ (hp ++ s2))) rfl (.cons (.tmp rfl) .nil) ⟨(pb, cellsO [.pointer (some ⟨db, 0, none⟩), .pointer (some ⟨cb, 0, none⟩), .map (some mb)] 57) :: (mb, mapO plV ms mc) :: (s21 ++ hp), rfl, by simp, cb, mb, mc, ms, s21, hp, by rw [List.map_append]; exact hC21, hpg, hnd, hbn, hold, .refl _⟩ pulled)
theorem room_full {g : Pl} {L0 : List Pl} (hP : PoolAt pb db fr ck (g :: L0) P s1) (hD : DiskAt db D s2) (hw : Dq n D) (hn : n < 1000) (hI : PInv O fr D (g :: L0) P) (hck : ck < 1000000) (hfr : fr ≤ 1000) (pl : Pl) (hno : findP P pl = none) (hcap : fr ≤ P.length) (hsm : ∀ nm own, O nm = some own → own.length ≤ 300) :
    Spec Try.prog 64 #[.pointer (some ⟨pb, 0, none⟩), plV pl] F (s1 ++ s2) fun v s' => ∃ h1 h2 D', v = .int .i64 0 ∧ s' = h1 ++ h2 ∧ PoolAt pb db fr (ck + 1) (L0 ++ [pl]) (cutP P g) h1 ∧ DiskAt db D' h2 ∧ Dq (n + 1) D' ∧ PInv O fr D' L0 (cutP P g) ∧ (cutP P g).length + 1 = P.length := by
  have hgP : g ∈ P.map (·.1) := hI.perm.mem_iff.1 List.mem_cons_self
  obtain ⟨x, hx⟩ : ∃ x, findP P g = some x := by
    cases h : findP P g with
    | some x => exact ⟨x, rfl⟩
    | none =>
      obtain ⟨p, hp, e⟩ := List.mem_map.1 hgP
      exact absurd e (findP_none h p hp)
  have hLn : (g :: L0).Nodup := hI.perm.nodup_iff.2 hI.keys
  have hxl : x.b.length ≤ 300 ∧ g.k < 1048576 := by
    obtain ⟨own, h1, h2, h3⟩ := hI.pg g x (findP_some hx)
    have := hsm _ own h1
    rw [h3, chunk_len]
    omega
  obtain ⟨D', hE, hE', hI', _, _⟩ := hI.clean hx
  have hxs : findP (setP P g ⟨x.b, false⟩) g = some ⟨x.b, false⟩ := findP_mem (by rw [setP_keys]; exact hI.keys) (List.mem_map.2 ⟨_, findP_some hx, if_pos rfl⟩)
  have hcut := hI'.cut (L' := L0) hxs rfl (by
    rw [List.nodup_cons] at hLn
    rw [List.filter_cons]
    simp only [decide_true, Bool.not_true, Bool.false_eq_true, if_false]
    rw [List.filter_eq_self.2]
    intro q hq
    have : q ≠ g := fun e => hLn.1 (e ▸ hq)
    simp [this])
  rw [cutP_setP, setP, List.length_map] at hcut
  obtain ⟨cb, mb, mc, ms, sc, hp, hC, hpg, hnd, hbn, hold, hperm⟩ := hP
  refine Spec.perm ?_ (perm_pool _ _ _ _ _ _ hperm)
  have hLl : (g :: L0).length = P.length := by have := hI.perm.length_eq; simpa using this
  have hcap2 := hI.cap
  have hpL : pl ∉ g :: L0 := fun h => by
    obtain ⟨p, hp, e⟩ := List.mem_map.1 (hI.perm.mem_iff.1 h)
    exact findP_none hno p hp e
  have hu := useK_full hpL (fr := fr) (by omega) hLn
  have hk := hasK_Z (g :: L0) pl
  rw [decide_eq_false hpL] at hk
  refine Spec.of (n := 55) (vs := [.pointer (some ⟨pb, 0, none⟩), plV pl]) Try.func64 rfl Try.ntmps64 rfl ?_
  refine Vc.seq ?_
  refine Vc.text (List.range 2) (sd [(0, .eff), (1, .pure)]) rfl ?_
  refine Rg.box rfl rfl rfl rfl rfl (fun b3 => ?_)
  refine Rg.pure rfl rfl rfl (Pv.assign rfl) ?_
  refine Rg.nil ?_
  refine Vc.seq ?_
  refine Vc.seq ?_
  refine Vc.draw [] (sd [(0, .pure), (1, .pure), (2, .pure), (3, .read), (4, .read), (5, .eff)]) mixed (by kernel_rfl) ?_
  refine Rg.pure rfl rfl rfl (Pv.move rfl) ?_
  refine Rg.pure rfl rfl rfl (Pv.nilp rfl) ?_
  refine Rg.pure rfl rfl rfl (Pv.fa rfl) ?_
  refine Rg.read rfl rfl rfl (Ev.ld rfl rfl) ?_
  refine Rg.read rfl rfl rfl (Ev.ldA rfl rfl) ?_
  refine Rg.callP rfl rfl rfl (run_callF rfl) (has_specp hC frz_sb pl) ?_
  rintro _ rfl
  refine Rg.nil ?_
  refine Vc.cond rfl (fun h14 => absurd h14 (by (rw [hk]; decide))) (fun h14 => ?_)
  refine Vc.skip ?_
  refine Vc.seq ?_
  refine Vc.cut2 (fun (s : Hl) (b5 : Nat) => Cachep cb fr (ck + 1) (Zk L0 ++ [(pl, 0)]) s) (fun s b5 => [(0, .pointer (some ⟨pb, 0, none⟩)), (3, .pointer (some ⟨b3, 0, none⟩)), (5, .pointer (some ⟨b5, 0, none⟩)), (6, .bool true), (7, .int .i64 0)]) (fun s b5 => (b5, cellsO (plC g) 54) :: (b3, cellsO (plC pl) 54) :: (pb, cellsO [.pointer (some ⟨db, 0, none⟩), .pointer (some ⟨cb, 0, none⟩), .map (some mb)] 57) :: (mb, mapO plV ms mc) :: (s ++ (hp ++ s2))) ?_ ?_
  ·
    refine Vc.draw [5, 11] (.st 0 .pure (.st 1 .pure (.st 2 .pure (.st 3 .read (.st 4 .read (.two 5 (sd [(6, .pure), (7, .pure), (8, .pure), (9, .pure), (10, .eff), (11, .eff), (12, .pure), (13, .pure)]) 10 (sd [(5, .eff), (6, .pure), (7, .pure), (8, .pure), (9, .pure), (11, .eff), (12, .pure), (13, .pure)]))))))) mixed (by kernel_rfl) ?_
    refine Rg.pure rfl rfl rfl (Pv.move rfl) ?_
    refine Rg.pure rfl rfl rfl (Pv.nilp rfl) ?_
    refine Rg.pure rfl rfl rfl (Pv.fa rfl) ?_
    refine Rg.read rfl rfl rfl (Ev.ld rfl rfl) ?_
    refine Rg.read rfl rfl rfl (Ev.ldA rfl rfl) ?_
    refine Rg.two ?_ ?_
    ·
      refine Rg.callH rfl rfl rfl (run_callF rfl) (fun F' hF' => use_somep F' hC pl (by omega) (by rw [List.length_map]; omega) hu) rfl ?_
      rintro _ s21 ⟨rfl, hC21⟩
      refine Rg.pure rfl rfl rfl (Pv.move rfl) ?_
      refine Rg.pure rfl rfl rfl (Pv.extract rfl rfl) ?_
      refine Rg.pure rfl rfl rfl (Pv.extract rfl rfl) ?_
      refine Rg.pure rfl rfl rfl (Pv.extract rfl rfl) ?_
      refine Rg.alloc rfl rfl rfl rfl (fun b5 => ?_)
      refine Rg.storeA rfl rfl rfl rfl rfl rfl rfl rfl ?_
      refine Rg.pure rfl rfl rfl (Pv.assign rfl) ?_
      refine Rg.pure rfl rfl rfl (Pv.assign rfl) ?_
      refine Rg.nil ?_
      exact Vc.inv2 s21 b5 hC21 (.cons rfl (.cons rfl (.cons rfl (.cons rfl (.cons rfl .nil))))) pulled
    ·
      refine Rg.alloc rfl rfl rfl rfl (fun b5 => ?_)
      refine Rg.callH rfl rfl rfl (run_callF rfl) (fun F' hF' => use_somep F' hC pl (by omega) (by rw [List.length_map]; omega) hu) rfl ?_
      rintro _ s21 ⟨rfl, hC21⟩
      refine Rg.pure rfl rfl rfl (Pv.move rfl) ?_
      refine Rg.pure rfl rfl rfl (Pv.extract rfl rfl) ?_
      refine Rg.pure rfl rfl rfl (Pv.extract rfl rfl) ?_
      refine Rg.pure rfl rfl rfl (Pv.extract rfl rfl) ?_
      refine Rg.storeA rfl rfl rfl rfl rfl rfl rfl rfl ?_
      refine Rg.pure rfl rfl rfl (Pv.assign rfl) ?_
      refine Rg.pure rfl rfl rfl (Pv.assign rfl) ?_
      refine Rg.nil ?_
      exact Vc.inv2 s21 b5 hC21 (.cons rfl (.cons rfl (.cons rfl (.cons rfl (.cons rfl .nil))))) pulled
  ·
    rintro s21 b5 hC21
    have hPA : PoolAt pb db fr (ck + 1) (L0 ++ [pl]) P ((pb, cellsO [.pointer (some ⟨db, 0, none⟩), .pointer (some ⟨cb, 0, none⟩), .map (some mb)] 57) :: (mb, mapO plV ms mc) :: (s21 ++ hp)) := ⟨cb, mb, mc, ms, s21, hp, by rw [List.map_append]; exact hC21, hpg, hnd, hbn, hold, .refl _⟩
    refine Vc.seq ?_
    refine Vc.seq ?_
    refine Vc.text (List.range 6) (sd [(0, .pure), (1, .pure), (2, .pure), (3, .pure), (4, .pure), (5, .pure)]) rfl ?_
    refine Rg.pure rfl rfl rfl (Pv.move rfl) ?_
    refine Rg.pure rfl rfl rfl (Pv.neq rfl rfl) ?_
    refine Rg.pure rfl rfl rfl (Pv.move rfl) ?_
    refine Rg.split (t := 27) rfl (fun h27 => absurd h27 (by decide)) (fun h27 => ?_)
    refine Rg.pure rfl rfl rfl (Pv.move rfl) ?_
    refine Rg.pure rfl rfl rfl (Pv.not rfl) ?_
    refine Rg.pure rfl rfl rfl (Pv.pickF rfl rfl) ?_
    refine Rg.nil ?_
    refine Vc.cond rfl (fun h30 => absurd h30 (by decide)) (fun h30 => ?_)
    refine Vc.skip ?_
    refine Vc.seq ?_
    refine Vc.seq ?_
    refine Vc.text (List.range 4) (sd [(0, .pure), (1, .read), (2, .eff), (3, .pure)]) rfl ?_
    refine Rg.pure rfl rfl rfl (Pv.move rfl) ?_
    refine Rg.read rfl rfl rfl (Ev.ldA rfl rfl) ?_
    refine Rg.callH rfl rfl rfl (run_callF rfl) (fun F' hF' => Spec.pool (clean_spec (F := F') hPA hD hw hn hI.keys g hxl.2 hx hxl.1 hE hE')) rfl ?_
    rintro _ _ ⟨h1, h2, rfl, rfl, ⟨cb', mb', mc', ms', sc', hp', hC', hpg', hnd', hbn', hold', hperm'⟩, hD', hw'⟩
    rcases findM_page hpg' hnd' g with ⟨_, h⟩ | ⟨m, x', hfm, hmm, hmk, hx'⟩
    · rw [hxs] at h; cases h
    obtain ⟨xb, x2, vx, sx, rest, hmv, hfx, hpp, ox, _, hcutpg⟩ := hpg'.get hnd' hmm
    rw [hmk, cutP_setP] at hcutpg
    refine Rg.pure rfl rfl rfl (Pv.assign rfl) ?_
    refine Rg.nil ?_
    refine Vc.seq ?_
    refine Vc.text (List.range 2) (sd [(0, .pure), (1, .pure)]) rfl ?_
    refine Rg.pure rfl rfl rfl (Pv.move rfl) ?_
    refine Rg.pure rfl rfl rfl (Pv.neq rfl rfl) ?_
    refine Rg.nil ?_
    refine Vc.cond rfl (fun h36 => absurd h36 (by decide)) (fun h36 => ?_)
    refine Vc.perm ((perm_pg _ _ _ _ _ _ _ _ _ hpp hperm').append_right _) ?_
    simp only [List.cons_append, List.append_assoc]
    refine Vc.skip ?_
    refine Vc.seq ?_
    refine Vc.draw [5] (sd [(0, .pure), (1, .pure), (2, .pure), (3, .read), (4, .read), (5, .eff)]) mixed (by kernel_rfl) ?_
    refine Rg.pure rfl rfl rfl (Pv.move rfl) ?_
    refine Rg.pure rfl rfl rfl (Pv.nilp rfl) ?_
    refine Rg.pure rfl rfl rfl (Pv.fa rfl) ?_
    refine Rg.read rfl rfl rfl (Ev.ld rfl rfl) ?_
    refine Rg.read rfl rfl rfl (Ev.ldA rfl rfl) ?_
    refine Rg.mapDel (kv := plV) (k := g) rfl rfl rfl rfl rfl (⟨m, hmm, hmk⟩) (hnd') rfl ?_
    refine Rg.nil ?_
    refine Vc.seq ?_
    refine Vc.text (List.range 1) (sd [(0, .pure)]) rfl ?_
    refine Rg.pure rfl rfl rfl (Pv.assign rfl) ?_
    refine Rg.nil ?_
    exact Vc.ret (Vc.retsH (hl' := (pb, cellsO [.pointer (some ⟨db, 0, none⟩), .pointer (some ⟨cb', 0, none⟩), .map (some mb')] 57) :: (mb', mapO plV (cutM ms' g) mc') :: (sc' ++ (rest ++ h2))) rfl (.cons (.tmp rfl) .nil) ⟨(pb, cellsO [.pointer (some ⟨db, 0, none⟩), .pointer (some ⟨cb', 0, none⟩), .map (some mb')] 57) :: (mb', mapO plV (cutM ms' g) mc') :: (sc' ++ rest), h2, D', rfl, by simp, ⟨cb', mb', mc', cutM ms' g, sc', rest, hC', hcutpg, hnd'.sublist (List.filter_sublist.map _), hbn'.sublist (List.filter_sublist.map _), fun m hm => hold' m (List.mem_filter.1 hm).1, .refl _⟩, hD', hw', hcut.1, hcut.2.1⟩ pulled)
end
end Go.Proofs.Ytjhegjcjplpmjaa
