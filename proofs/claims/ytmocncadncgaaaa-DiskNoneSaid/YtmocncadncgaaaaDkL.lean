/- Disks: Crash. -/
import Derived.Test.YtmocncadncgaaaaDkK
namespace Go.Proofs.Ytmocncadncgaaaa
set_option linter.unusedVariables false

theorem perm_cr {α : Type} (x y a b : α) (s1 s2 rest L : List α) : (x :: y :: ((s1 ++ s2) ++ (a :: b :: (rest ++ L)))).Perm (y :: a :: b :: ((x :: (s1 ++ (s2 ++ rest))) ++ L)) := by
  refine (List.Perm.swap y x _).trans (List.Perm.cons y ?_)
  have e1 : x :: ((s1 ++ s2) ++ (a :: b :: (rest ++ L))) = ((x :: (s1 ++ s2)) ++ [a, b]) ++ (rest ++ L) := by simp
  have e2 : a :: b :: ((x :: (s1 ++ (s2 ++ rest))) ++ L) = ([a, b] ++ (x :: (s1 ++ s2))) ++ (rest ++ L) := by simp
  rw [e1, e2]
  exact List.perm_append_comm.append_right _
set_option maxHeartbeats 2000000 in
theorem crash_spec {F : Fm} {db : Nat} {D : Dk} {kv0 : Value} {h0 : Hl} (hD : Disk0 db D kv0 h0) {kv : Value} {ks : List Bool} (hk : Arg boolE F kv ks) (hsz : D.files.length ≤ 1000) (hfb : FewB D.files) :
    Spec Try.prog 23 #[.pointer (some ⟨db, 0, none⟩), kv] F h0 fun _ s => Disk0 db (crashD ks D) kv0 s := by
  obtain ⟨mb, mc, ms, hf, hfl, hn, hbn, hold, hp⟩ := hD
  refine Spec.perm ?_ hp
  obtain ⟨pk, ck, rfl⟩ := hk.shape
  have hml : ms.length ≤ 1000 := by have := congrArg List.length hfl.keys; simp at this; omega
  refine Spec.of (n := 53) (vs := [.pointer (some ⟨db, 0, none⟩), .slice pk ks.length ck]) Try.func23 rfl Try.ntmps23 rfl ?_
  refine Vc.seq ?_
  refine Vc.text (List.range 1) (sd [(0, .eff)]) rfl ?_
  refine Rg.box rfl rfl rfl rfl rfl (fun b3 => ?_)
  refine Rg.nil ?_
  refine Vc.seq ?_
  refine Vc.seq ?_
  refine Vc.text (List.range 4) (sd [(0, .pure), (1, .pure), (2, .pure), (3, .eff)]) rfl ?_
  refine Rg.pure rfl rfl rfl (Pv.move rfl) ?_
  refine Rg.pure rfl rfl rfl (Pv.nilp rfl) ?_
  refine Rg.pure rfl rfl rfl (Pv.fa rfl) ?_
  refine Rg.callH rfl rfl rfl (run_callF rfl) (fun F' hF' => bswap_spec (F := F') (mb := mb) (room := D.room) (used := D.used) (ops := D.ops) (armed := D.armed) (keep := kv0) (down := D.down) true) rfl ?_
  rintro _ _ ⟨rfl, rfl⟩
  refine Rg.nil ?_
  refine Vc.cond rfl (fun h11 => ?_) (fun h11 => ?_)
  ·
    exact Vc.ret (Vc.retsH rfl (.nil) ((show Disk0 db (crashD ks D) kv0 ((db, dkO mb D.room D.used D.ops D.armed kv0 true) :: (mb, mapO kS ms mc) :: hf) from by rw [crashD, if_pos h11]; exact ⟨mb, mc, ms, hf, hfl, hn, hbn, hold, by rw [h11]⟩)) pulled)
  ·
    refine Vc.skip ?_
    refine Vc.seq ?_
    refine Vc.text (List.range 8) (sd [(0, .pure), (1, .pure), (2, .pure), (3, .pure), (4, .eff), (5, .pure), (6, .pure), (7, .eff)]) rfl ?_
    refine Rg.pure rfl rfl rfl (Pv.move rfl) ?_
    refine Rg.pure rfl rfl rfl (Pv.move rfl) ?_
    refine Rg.pure rfl rfl rfl (Pv.nilp rfl) ?_
    refine Rg.pure rfl rfl rfl (Pv.fa rfl) ?_
    refine Rg.store rfl rfl rfl rfl rfl rfl rfl rfl ?_
    refine Rg.pure rfl rfl rfl (Pv.nilp rfl) ?_
    refine Rg.pure rfl rfl rfl (Pv.fa rfl) ?_
    refine Rg.store rfl rfl rfl rfl rfl rfl rfl rfl ?_
    refine Rg.nil ?_
    refine Vc.seq ?_
    refine Vc.text (List.range 2) (sd [(0, .pure), (1, .pure)]) rfl ?_
    refine Rg.pure rfl rfl rfl (Pv.mkF rfl rfl) ?_
    refine Rg.pure rfl rfl rfl (Pv.assign rfl) ?_
    refine Rg.nil ?_
    refine Vc.seq ?_
    refine Vc.text (List.range 8) (sd [(0, .pure), (1, .pure), (2, .pure), (3, .read), (4, .eff), (5, .eff), (6, .pure), (7, .pure)]) rfl ?_
    refine Rg.pure rfl rfl rfl (Pv.move rfl) ?_
    refine Rg.pure rfl rfl rfl (Pv.nilp rfl) ?_
    refine Rg.pure rfl rfl rfl (Pv.fa rfl) ?_
    refine Rg.read rfl rfl rfl (Ev.ld rfl rfl) ?_
    refine Rg.callA rfl rfl rfl (run_callF rfl) keysF_spec ?_
    rintro _ _ ⟨bx, rfl, rfl⟩
    refine Rg.callH rfl rfl rfl (run_callF rfl) (fun F' hF' => sortedS_spec (F := F') (Sp := fun pre => pre.length ≤ ms.length) (S := fun ys => ys.Perm (ms.map (·.k))) (lb := [.pointer (some ⟨bx, 0, none⟩)]) (hi := [(bx, cellsO [.map (some mb)] 65)]) (fun F'' h => keys_iter (h _ _ (hF' mb _ (.inl (by simp)))) hold hbn) (fun pre x h => by simp at h; omega) (fun ys h => by have := h.length_eq; simp at this; omega)) rfl ?_
    rintro v24 s24 ⟨ys, hys, own24⟩
    have hsn : Go.Proofs.Ytmocncadncgaaaa.sortN ys = Go.Proofs.Ytmocncadncgaaaa.sortN (D.files.map (·.1)) := sortN_perm (by rw [← hfl.keys]; exact hys)
    rw [hsn] at own24
    have hmem : ∀ k ∈ Go.Proofs.Ytmocncadncgaaaa.sortN (D.files.map (·.1)), k ∈ ms.map (·.k) := fun k hk => by rw [hfl.keys]; exact (List.mergeSort_perm _ _).mem_iff.1 hk
    have hNl : (Go.Proofs.Ytmocncadncgaaaa.sortN (D.files.map (·.1))).length ≤ 1000 := by simp [Go.Proofs.Ytmocncadncgaaaa.sortN]; omega
    have hcr : crashD ks D = { D with files := (crFold D.files ks (Go.Proofs.Ytmocncadncgaaaa.sortN (D.files.map (·.1)))).files, used := (crFold D.files ks (Go.Proofs.Ytmocncadncgaaaa.sortN (D.files.map (·.1)))).used, armed := 0, down := true } := by rw [crashD, if_neg (by simpa using h11)]
    generalize Go.Proofs.Ytmocncadncgaaaa.sortN (D.files.map (·.1)) = N at own24 hmem hNl hcr
    obtain ⟨q24, c24, rfl⟩ := own24.shape
    refine Rg.pure rfl rfl rfl (Pv.lenS rfl) ?_
    refine Rg.pure rfl rfl rfl (Pv.move rfl) ?_
    refine Rg.nil ?_
    refine Vc.block ?_
    refine Vc.loop4 (fun (i : Nat) (kv2 : Value) (hf2 : Hl) (st : Cr) => i ≤ N.length ∧ st = crFold D.files ks (N.take i) ∧ FilesAt ms st.files hf2 ∧ (∀ F' : Fm, (∀ b o, F.at_ b o → F'.at_ b o) → Arg boolE F' kv2 st.ks) ∧ FewB st.files ∧ 0 ≤ st.used ∧ st.used ≤ (i : Int) * 100000) (fun i kv2 hf2 st => [(0, .pointer (some ⟨db, 0, none⟩)), (4, .func (.func 53) #[] #[.pointer (some ⟨b3, 0, none⟩)]), (24, .slice q24 N.length c24), (25, .int .i64 (N.length : Int)), (26, .int .i64 (i : Int))]) (fun i kv2 hf2 st => (b3, cellsO [kv2] 38) :: (db, dkO mb D.room st.used D.ops 0 kv0 true) :: (mb, mapO kS ms mc) :: (hf2 ++ s24)) (fun i kv2 hf2 st => N.length - i) 0 (.slice pk ks.length ck) hf ⟨D.files, 0, ks⟩ ⟨Nat.zero_le _, rfl, hfl, fun F' h => hk.mono h, hfb, Int.le_refl _, by simp⟩ (.cons rfl (.cons rfl (.cons rfl (.cons rfl (.cons rfl .nil))))) pulled ?_
    rintro i kv2 hf2 st ⟨hi, hst, hfl2, hkv2, hfb2, hu0, hu1⟩
    refine Vc.seq ?_
    refine Vc.text (List.range 1) (sd [(0, .pure)]) rfl ?_
    refine Rg.pure rfl rfl rfl (Pv.lss rfl rfl) ?_
    refine Rg.nil ?_
    refine Vc.seq ?_
    refine Vc.cond rfl (fun h27 => ?_) (fun h27 => ?_)
    ·
      simp only [decide_eq_true_eq] at h27
      have hi1 : i < N.length := by omega
      obtain ⟨bN, cN, spN, e, rfl, _, _⟩ := own24.block (by omega)
      cases e
      obtain ⟨k, hkk⟩ : ∃ k, N[i]! = k := ⟨_, rfl⟩
      have hkm := hmem N[i]! (by rw [getElem!_pos N i hi1]; exact List.getElem_mem _)
      have htk : N.take (i + 1) = N.take i ++ [N[i]!] := by rw [List.take_succ_eq_append_getElem hi1, getElem!_pos N i hi1]
      rw [hkk] at hkm htk
      obtain ⟨m, hmm, hmk⟩ := List.mem_map.1 hkm
      have hfind := findM_some hn hmm hmk
      obtain ⟨fb, f, vn, vs, t1, t2, rest, hmv, hff, hperm, o1, o2, hset⟩ := hfl2.get hn hmm
      rw [hmk] at hff hset
      obtain ⟨hl1, hl2⟩ := hfb2.find hff
      have hstep := crFold_snoc D.files ks (N.take i) k
      rw [← htk, ← hst] at hstep
      have htf := torn_few (ks := st.ks) hl1 hl2
      have hse : crStep st k = ⟨setF st.files k ⟨(tornG f.now f.synced st.ks (secs f.now.length)).1, (tornG f.now f.synced st.ks (secs f.now.length)).1⟩, st.used + (secs (tornG f.now f.synced st.ks (secs f.now.length)).1.length : Nat), (tornG f.now f.synced st.ks (secs f.now.length)).2⟩ := by simp only [crStep, hff, Option.getD_some]
      refine Vc.perm (((((hperm.append_right _).cons _).cons _).cons _)) ?_
      simp only [List.cons_append, List.append_assoc]
      refine Vc.skip ?_
      refine Vc.seq ?_
      refine Vc.block ?_
      refine Vc.seq ?_
      refine Vc.text (List.range 3) (sd [(0, .pure), (1, .read), (2, .pure)]) rfl ?_
      refine Rg.pure rfl rfl rfl (Pv.ixA (i) rfl rfl (by omega) (by omega)) ?_
      refine Rg.read rfl rfl rfl (Ev.as (kS k) (Ev.ldR (E := strE) i rfl (Nat.zero_add _) (by omega)) (congrArg strE.val hkk)) ?_
      refine Rg.pure rfl rfl rfl (Pv.assign rfl) ?_
      refine Rg.nil ?_
      refine Vc.seq ?_
      refine Vc.text (List.range 7) (sd [(0, .pure), (1, .pure), (2, .pure), (3, .read), (4, .pure), (5, .read), (6, .pure)]) rfl ?_
      refine Rg.pure rfl rfl rfl (Pv.move rfl) ?_
      refine Rg.pure rfl rfl rfl (Pv.nilp rfl) ?_
      refine Rg.pure rfl rfl rfl (Pv.fa rfl) ?_
      refine Rg.read rfl rfl rfl (Ev.ld rfl rfl) ?_
      refine Rg.pure rfl rfl rfl (Pv.move rfl) ?_
      refine Rg.read rfl rfl rfl (Ev.as (.pointer (some ⟨fb, 0, none⟩)) (Ev.lookup rfl rfl hn) (by rw [hfind, Option.map_some, Option.getD_some, hmv])) ?_
      refine Rg.pure rfl rfl rfl (Pv.assign rfl) ?_
      refine Rg.nil ?_
      refine Vc.seq ?_
      refine Vc.text (List.range 3) (sd [(0, .pure), (1, .pure), (2, .eff)]) rfl ?_
      refine Rg.pure rfl rfl rfl (Pv.move rfl) ?_
      refine Rg.pure rfl rfl rfl (Pv.move rfl) ?_
      refine Rg.callH rfl rfl rfl (run_callF rfl) (fun F' hF' => torn_spec (F := F') o1 o2 (fun F'' => ∀ b o, F.at_ b o → F''.at_ b o) (fun F'' h b o hb => h b o (hF' b o (.inr hb))) hkv2 (by omega) (by omega)) rfl ?_
      rintro v38 _ ⟨vn', vs', kv', t1', t2', o1', o2', hkv', rfl⟩
      obtain ⟨hl', hp', hfl'⟩ := hset ⟨_, _⟩ vn' vs' t1' t2' o1' o2'
      obtain ⟨pn', cn', rfl⟩ := o1'.shape
      refine Rg.nil ?_
      refine Vc.draw [13] (sd [(0, .pure), (1, .pure), (2, .pure), (3, .read), (4, .pure), (5, .pure), (6, .pure), (7, .read), (8, .pure), (9, .eff), (10, .pure), (11, .pure), (12, .pure), (13, .eff)]) mixed (by kernel_rfl) ?_
      refine Rg.pure rfl rfl rfl (Pv.move rfl) ?_
      refine Rg.pure rfl rfl rfl (Pv.nilp rfl) ?_
      refine Rg.pure rfl rfl rfl (Pv.fa rfl) ?_
      refine Rg.read rfl rfl rfl (Ev.ld rfl rfl) ?_
      refine Rg.pure rfl rfl rfl (Pv.move rfl) ?_
      refine Rg.pure rfl rfl rfl (Pv.nilp rfl) ?_
      refine Rg.pure rfl rfl rfl (Pv.fa rfl) ?_
      refine Rg.read rfl rfl rfl (Ev.ld rfl rfl) ?_
      refine Rg.pure rfl rfl rfl (Pv.lenS rfl) ?_
      refine Rg.callP rfl rfl rfl (run_callF rfl) (sectors_spec _ _ (by omega)) ?_
      rintro _ rfl
      refine Rg.pure rfl rfl rfl (Pv.add rfl rfl (by have : secs (tornG f.now f.synced st.ks (secs f.now.length)).1.length ≤ 100000 := (by unfold secs at htf ⊢; omega); omega)) ?_
      refine Rg.pure rfl rfl rfl (Pv.nilp rfl) ?_
      refine Rg.pure rfl rfl rfl (Pv.fa rfl) ?_
      refine Rg.store rfl rfl rfl rfl rfl rfl rfl rfl ?_
      refine Rg.nil ?_
      refine Vc.blk ?_
      refine Vc.text (List.range 2) (sd [(0, .pure), (1, .pure)]) rfl ?_
      refine Rg.pure rfl rfl rfl (Pv.asI (i + 1) (Pv.add rfl rfl (by omega)) (by omega)) ?_
      refine Rg.pure rfl rfl rfl (Pv.move rfl) ?_
      refine Rg.nil ?_
      exact Vc.inv4 (i + 1) kv' hl' (crStep st k) ⟨⟨by omega, hstep.symm, by rw [hse]; exact hfl', by rw [hse]; exact hkv', by rw [hse]; exact hfb2.set htf htf, by rw [hse]; show 0 ≤ st.used + _; omega, by rw [hse]; show st.used + _ ≤ _; have : secs (tornG f.now f.synced st.ks (secs f.now.length)).1.length ≤ 100000 := (by unfold secs at htf ⊢; omega); omega⟩, by omega⟩ (.cons rfl (.cons rfl (.cons rfl (.cons rfl (.cons rfl .nil))))) ((perm_cr _ _ _ _ _ _ _ _).trans (by rw [hse, List.append_nil]; exact ((((hp'.symm.append_right _).cons _).cons _).cons _)))
    ·
      simp only [decide_eq_false_iff_not] at h27
      rw [List.take_of_length_le (by omega)] at hst
      refine Vc.exit rfl ?_
      exact Vc.fin (Vc.retsH rfl .nil ((show Disk0 db (crashD ks D) kv0 ((db, dkO mb D.room st.used D.ops 0 kv0 true) :: (mb, mapO kS ms mc) :: hf2) from by rw [hcr, ← hst]; exact ⟨mb, mc, ms, hf2, hfl2, hn, hbn, hold, .refl _⟩)) pulled)
end Go.Proofs.Ytmocncadncgaaaa
