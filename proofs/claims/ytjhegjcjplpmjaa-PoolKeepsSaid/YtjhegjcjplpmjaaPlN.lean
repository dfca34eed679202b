/- Pools: what must be in any case. -/
import Derived.Test.YtjhegjcjplpmjaaPlM
namespace Go.Proofs.Ytjhegjcjplpmjaa
set_option linter.unusedVariables false

/-- bytes that a text may be: their block has a mark behind its end -/
def strR (ys : List UInt8) : Obj := .cells (flat byteE ys).toArray byteE.tid (ys.length, ys.length + 1)
theorem byte_flat (ys : List UInt8) : (flat byteE ys).length = ys.length := by rw [flat_length]; exact Nat.mul_one _
theorem run_convSl {P : Program} {s e : TypeId} (hs : P.underlying s = some (.slice e)) (he : P.underlying e = some (.int .u8)) {w : World} {b m c : Nat} {ys : List UInt8} (hb : w.heap[b]? = some (rowS byteE ys [])) :
    (Go.convert s s (.slice (some ⟨b, 0, none⟩) m c)).run P w = .ok (.slice (some ⟨b, 0, none⟩) m c) (Go.Proofs.Ytjhegjcjplpmjaa.putB w b (strR ys)) := by
  have hlt := (Array.getElem?_eq_some_iff.1 hb).1
  have hbl := byte_flat ys
  have hsh : w.shape? b = some (byteE.tid, ys.length) := by simp [World.shape?, hb, rowS, hbl]
  have hfr : w.freeze ⟨b, ys.length, none⟩ 1 = Go.Proofs.Ytjhegjcjplpmjaa.putB w b (strR ys) := by
    unfold World.freeze
    rw [if_neg (by decide)]
    unfold Go.Proofs.Ytjhegjcjplpmjaa.putB
    congr 1
    apply Array.ext_getElem?
    intro k
    rw [Array.getElem?_modify, Array.getElem?_setIfInBounds]
    by_cases e : b = k
    · subst e
      rw [if_pos rfl, if_pos rfl, if_pos hlt, hb]
      simp [rowS, strR]
    · rw [if_neg e, if_neg e]
  simp [Go.convert, run_underlying hs, run_underlying he, markStringish, hsh, hfr]
theorem Rg.convSl {P : Program} {Qf : Exit → Act → World → Prop} {n : Nf} {F : Fm} {ks : List KItem} {ops : List Oper} {clr : List Nat} {hs hl : Hl} {r : Sd} {i t0 : Nat} {l : Env} {ty : TypeId} {pos : String} {af : Array Edge} {g : Option (Nat × Bool)} {s e : TypeId} {x : Operand} {b m c : Nat} {ys : List UInt8} {put : Obj → Hl} [hu : TyUnder P s (.slice e)] [he : TyUnder P e (.int .u8)]
    (ho : nth ops i = some ⟨some t0, .convert s s x, ty, pos, af, g⟩) (hg : wantB ops l g = some true) (h0 : Nat.blt t0 n.n = true) (hx : ev l x = some (.slice (some ⟨b, 0, none⟩) m c)) [hb : Lens hl b (rowS byteE ys []) put] (hclr : clr.contains i = true)
    (h : Rg P Qf n F ks ops clr (put (strR ys)) r ((t0, .slice (some ⟨b, 0, none⟩) m c) :: l) (put (strR ys))) : Rg P Qf n F ks ops clr hs (.st i .eff r) l hl :=
  Rg.run ho hg fun a w hf hh => by
    have hr := run_convSl (P := P) hu.under he.under (hh.own b _ hb.mem) (m := m) (c := c)
    exact ⟨_, _, _, _, .inl ⟨_, by simp [execOp, hf.ev hx, hr], hf.put h0 _⟩, hb.putB hh _, (hb.putB hh _).st, .inl hclr, h⟩
theorem Arg.strR {F : Fm} {b c : Nat} {ys : List UInt8} (h : F.at_ b (Go.Proofs.Ytjhegjcjplpmjaa.strR ys)) (hc : ys.length ≤ c) : Arg byteE F (.slice (some ⟨b, 0, none⟩) ys.length c) ys :=
  .inr ⟨b, 0, c, rfl, hc, fun w hw j u hu => by
    have hlt := (List.getElem?_eq_some_iff.1 hu).1
    simp [World.cell?, hw b _ h, Go.Proofs.Ytjhegjcjplpmjaa.strR, hu]⟩
abbrev fF : List UInt8 := [102]
def oF (z : List UInt8) : List UInt8 → Option (List UInt8) := fun n => if n = fF then some z else none
theorem oF_f (z : List UInt8) : oF z fF = some z := by simp [oF]
theorem oF_set (z y : List UInt8) : setO (oF z) fF y = oF y := by
  funext n; unfold setO oF; split <;> rfl
theorem oF_small {z : List UInt8} (h : z.length ≤ 300) : ∀ nm own, oF z nm = some own → own.length ≤ 300 := fun nm own e => by
  unfold oF at e
  split at e
  · cases e; exact h
  · cases e
theorem oF_init (z : List UInt8) {room ops : Int} {fr : Nat} (hu : ((secs z.length : Nat) : Int) ≤ room) : PInv (oF z) fr (d1 fF ⟨z, []⟩ room ops false) [] [] := by
  have key : ∀ nm own, oF z nm = some own → findF (d1 fF ⟨z, []⟩ room ops false).files nm = some ⟨z, []⟩ ∧ own = z := fun nm own h => by
    unfold oF at h
    split at h
    · next e => cases h; exact ⟨by rw [e]; simp [findF], rfl⟩
    · cases h
  refine ⟨rfl, rfl, hu, fun nm own h => ?_, fun nm h => ?_, .nil, .nil, Nat.zero_le _, fun p x h => (by cases h), fun nm own f k h hf _ => ?_⟩
  · obtain ⟨a, b⟩ := key nm own h; exact ⟨_, a, by rw [b]⟩
  · unfold oF at h
    split at h
    · cases h
    · next e => simp [findF, Ne.symm e]
  · obtain ⟨a, b⟩ := key nm own h
    rw [a] at hf
    cases hf
    rw [b]
theorem oF_only {z : List UInt8} {fr : Nat} {D : Dk} {L : List Pl} {P : List (Pl × Pg)} (h : PInv (oF z) fr D L P) : ∀ q x, (q, x) ∈ P → q.nm = fF := fun q x hx => by
  obtain ⟨own, h1, _⟩ := h.pg q x hx
  unfold oF at h1
  split at h1
  · assumption
  · cases h1
theorem sh_put : (List.replicate 130 (0 : UInt8)).length = 130 ∧ (putAt (List.replicate 130 (0 : UInt8)) 63 [97, 98]).length = 130 ∧ ((putAt (List.replicate 130 (0 : UInt8)) 63 [97, 98]).drop 62).take 4 = [0, 97, 98, 0] ∧ ((putAt (List.replicate 130 (0 : UInt8)) 63 [97, 98]).drop 63).take 2 = [97, 98] := by decide +kernel
set_option maxHeartbeats 4000000 in
theorem shown_spec (F : Fm) : Spec Try.prog 9 #[] F [] fun v _ => v = .bool true := by
  obtain ⟨hz0, hz1, hz2, hz3⟩ := sh_put
  refine Spec.of (n := 95) (vs := []) Try.func9 rfl Try.ntmps9 rfl ?_
  refine Vc.seq ?_
  refine Vc.text (List.range 1) (sd [(0, .pure)]) rfl ?_
  refine Rg.pure rfl rfl rfl (Pv.assign rfl) ?_
  refine Rg.nil ?_
  refine Vc.seq ?_
  refine Vc.text (List.range 2) (sd [(0, .eff), (1, .pure)]) rfl ?_
  refine Rg.callA rfl rfl rfl (run_callF rfl) (new_w _ 100 100 (by decide)) ?_
  rintro _ s14 ⟨db, rfl, hD, hw⟩
  refine Rg.pure rfl rfl rfl (Pv.assign rfl) ?_
  refine Rg.nil ?_
  refine Vc.seq ?_
  refine Vc.seq ?_
  refine Vc.text (List.range 2) (sd [(0, .pure), (1, .pure)]) rfl ?_
  refine Rg.pure rfl rfl rfl (Pv.move rfl) ?_
  refine Rg.pure rfl rfl rfl (Pv.eqlNil rfl rfl) ?_
  refine Rg.nil ?_
  refine Vc.cond rfl (fun h16 => absurd h16 (by (intro h; cases h))) (fun h16 => ?_)
  refine Vc.skip ?_
  refine Vc.seq ?_
  refine Vc.text (List.range 2) (sd [(0, .pure), (1, .eff)]) rfl ?_
  refine Rg.pure rfl rfl rfl (Pv.move rfl) ?_
  refine Rg.callH rfl rfl rfl (run_callF rfl) (fun F' hF' => create_w (F := F') hD hw (by omega) (by omega) fF (create1 (by decide))) rfl ?_
  rintro _ s18 ⟨rfl, hD18, hw18⟩
  refine Rg.nil ?_
  refine Vc.seq ?_
  refine Vc.text (List.range 3) (sd [(0, .pure), (1, .eff), (2, .eff)]) rfl ?_
  refine Rg.pure rfl rfl rfl (Pv.move rfl) ?_
  refine Rg.makeN byteE 0 (m := 130) rfl rfl rfl rfl rfl (by decide) (fun b20 own20 => ?_)
  generalize hz : List.replicate 130 (0 : UInt8) = z at own20 hz0 hz1 hz2 hz3 ⊢
  refine Rg.callH rfl rfl rfl (run_callF rfl) (fun F' hF' => append_w (F := F') hD18 hw18 (by omega) (by omega) fF (Arg.own own20 fun b o hb => hF' b o (.inl (by simp only [List.mem_singleton] at hb; simp [hb]))) (by omega) (app1 z (by simp [secs, hz0]))) rfl ?_
  rintro _ s21 ⟨rfl, hD21, hw21⟩
  rw [List.nil_append] at hD21 hw21
  rw [hz0] at hw21
  have hI0 := oF_init z (room := 100) (ops := 0 + 1 + 1) (fr := (max (1 : Int) 1).toNat) (by rw [hz0]; decide)
  refine Rg.nil ?_
  refine Vc.seq ?_
  refine Vc.text (List.range 3) (sd [(0, .pure), (1, .eff), (2, .pure)]) rfl ?_
  refine Rg.pure rfl rfl rfl (Pv.move rfl) ?_
  refine Rg.callA rfl rfl rfl (run_callF rfl) (newPool_spec _ db 1 (by decide)) ?_
  rintro _ s23 ⟨pb, rfl, hP23⟩
  refine Rg.pure rfl rfl rfl (Pv.assign rfl) ?_
  refine Rg.nil ?_
  refine Vc.seq ?_
  refine Vc.seq ?_
  refine Vc.text (List.range 2) (sd [(0, .pure), (1, .pure)]) rfl ?_
  refine Rg.pure rfl rfl rfl (Pv.move rfl) ?_
  refine Rg.pure rfl rfl rfl (Pv.eqlNil rfl rfl) ?_
  refine Rg.nil ?_
  refine Vc.cond rfl (fun h25 => absurd h25 (by (intro h; cases h))) (fun h25 => ?_)
  refine Vc.skip ?_
  refine Vc.seq ?_
  refine Vc.text (List.range 5) (sd [(0, .pure), (1, .eff), (2, .eff), (3, .eff), (4, .pure)]) rfl ?_
  refine Rg.pure rfl rfl rfl (Pv.move rfl) ?_
  refine Rg.bsliceR (E := byteE) (e := 5) (cs := [.int .u8 97, .int .u8 98]) [97, 98] rfl rfl rfl rfl rfl rfl rfl (by rfl) rfl (by decide) (fun b27 own27 => ?_)
  refine Rg.convSl (ys := [97, 98]) rfl rfl rfl rfl rfl ?_
  refine Rg.callH rfl rfl rfl (run_callF rfl) (fun F' hF' => write_good (F := F') hP23 hD21 (show Dq 2 _ from hw21.mono (by omega) (by omega)) (by omega) hI0 (by omega) (by decide) (oF_small (by omega)) (oF_f z) 63 (Arg.strR (ys := [97, 98]) (hF' _ _ (.inl (by simp))) (by decide)) (by simp [hz0])) rfl ?_
  rintro _ _ ⟨h1, h2, L1, P1, D1, ck1, n1, rfl, rfl, hP29, hD29, hw29, hn29, hck29, hI29, hne29, _⟩
  rw [oF_set] at hI29
  rw [List.append_assoc]
  refine Rg.pure rfl rfl rfl (Pv.assign rfl) ?_
  refine Rg.nil ?_
  refine Vc.seq ?_
  refine Vc.text (List.range 7) (sd [(0, .pure), (1, .eff), (2, .pure), (3, .pure), (4, .pure), (5, .pure), (6, .pure)]) rfl ?_
  refine Rg.pure rfl rfl rfl (Pv.move rfl) ?_
  refine Rg.callH rfl rfl rfl (run_callF rfl) (fun F' hF' => read_good (F := F') hP29 hD29 hw29 (by omega) hI29 hck29 (by decide) (oF_small (by omega)) (oF_f _) 62 4 (by rw [hz1]; omega)) rfl ?_
  rintro _ _ ⟨u, su, h3, h4, L2, P2, D2, ck2, n2, rfl, ou, rfl, hP32, hD32, hw32, hn32, hck32, hI32, hne32, _⟩
  rw [hz2] at ou
  simp only [List.append_assoc]
  refine Rg.pure rfl rfl rfl (Pv.move rfl) ?_
  refine Rg.pure rfl rfl rfl (Pv.extract rfl rfl) ?_
  refine Rg.pure rfl rfl rfl (Pv.extract rfl rfl) ?_
  refine Rg.pure rfl rfl rfl (Pv.assign rfl) ?_
  refine Rg.pure rfl rfl rfl (Pv.assign rfl) ?_
  refine Rg.nil ?_
  refine Vc.seq ?_
  refine Vc.text (List.range 3) (sd [(0, .pure), (1, .eff), (2, .pure)]) rfl ?_
  refine Rg.pure rfl rfl rfl (Pv.move rfl) ?_
  refine Rg.callP rfl rfl rfl (run_callF rfl) (resident_spec hP32 frz_sb) ?_
  rintro _ rfl
  refine Rg.pure rfl rfl rfl (Pv.assign rfl) ?_
  refine Rg.nil ?_
  refine Vc.seq ?_
  refine Vc.text (List.range 3) (sd [(0, .pure), (1, .eff), (2, .pure)]) rfl ?_
  refine Rg.pure rfl rfl rfl (Pv.move rfl) ?_
  refine Rg.callH rfl rfl rfl (run_callF rfl) (fun F' hF' => flush_spec (F := F') hP32 hD32 hw32 (by show n2 + 1 < 990; omega) hI32 (oF_small (by omega)) fF) rfl ?_
  rintro _ _ ⟨h5, h6, P3, D3, rfl, rfl, hP38, hD38, hw38, hI38, hl38, hd38⟩
  simp only [List.append_assoc]
  have hcl : ∀ q x, (q, x) ∈ P3 → x.dirty = false := fun q x hx => by
    cases h : x.dirty with
    | false => rfl
    | true => exact absurd (oF_only hI38 q x hx) (hd38 q x hx h).1
  obtain ⟨f3, hf3, hf3n⟩ := hI38.flushed (oF_f _) fun q x hx _ => hcl q x hx
  obtain ⟨hr3, hb3⟩ := hI38.readF hf3 hf3n (at_ := 63) (q := 2) (by rw [hz1]; omega)
  rw [hz3] at hr3
  refine Rg.pure rfl rfl rfl (Pv.assign rfl) ?_
  refine Rg.nil ?_
  refine Vc.seq ?_
  refine Vc.text (List.range 7) (sd [(0, .pure), (1, .eff), (2, .pure), (3, .pure), (4, .pure), (5, .pure), (6, .pure)]) rfl ?_
  refine Rg.pure rfl rfl rfl (Pv.move rfl) ?_
  refine Rg.callH rfl rfl rfl (run_callF rfl) (fun F' hF' => readAt_w (F := F') hD38 hw38 (by show n2 + 1 < 1000; omega) (by show 300 * (n2 + 1) ≤ 1000000; omega) fF 63 2 hr3 hb3) rfl ?_
  rintro _ _ ⟨u2, su2, h7, rfl, ou2, hD41, hw41, rfl⟩
  simp only [List.append_assoc]
  have hI41 := hI38.ops (D3.ops + 1)
  have hs41 := hI41.size (oF_f _)
  have hn41 := hI41.noSize (nm := [103]) rfl
  refine Rg.pure rfl rfl rfl (Pv.move rfl) ?_
  refine Rg.pure rfl rfl rfl (Pv.extract rfl rfl) ?_
  refine Rg.pure rfl rfl rfl (Pv.extract rfl rfl) ?_
  refine Rg.pure rfl rfl rfl (Pv.assign rfl) ?_
  refine Rg.pure rfl rfl rfl (Pv.assign rfl) ?_
  refine Rg.nil ?_
  refine Vc.seq ?_
  refine Vc.text (List.range 7) (sd [(0, .pure), (1, .eff), (2, .pure), (3, .pure), (4, .pure), (5, .pure), (6, .pure)]) rfl ?_
  refine Rg.pure rfl rfl rfl (Pv.move rfl) ?_
  refine Rg.callH rfl rfl rfl (run_callF rfl) (fun F' hF' => read_no (F := F') hP38 hD41 (show Dq (n2 + 2) _ from hw41.mono (by show n2 + 1 + 1 ≤ n2 + 2; omega) (by show 300 * (n2 + 1) ≤ 300 * (n2 + 2); omega)) (by omega) fF hs41.1 (by rw [hz1]; omega) 129 2 (.inr ⟨rfl, by rw [hz1]; unfold mayP; omega, rfl⟩)) rfl ?_
  rintro _ _ ⟨h8, h9, rfl, rfl, hP46, hD46, hw46⟩
  simp only [List.append_assoc]
  rw [hs41.2] at hD46 hw46
  have hn46 := (hI41.ops (D3.ops + 1 + 1)).noSize (nm := [103]) rfl
  refine Rg.pure rfl rfl rfl (Pv.move rfl) ?_
  refine Rg.pure rfl rfl rfl (Pv.extract rfl rfl) ?_
  refine Rg.pure rfl rfl rfl (Pv.extract rfl rfl) ?_
  refine Rg.pure rfl rfl rfl (Pv.assign rfl) ?_
  refine Rg.pure rfl rfl rfl (Pv.assign rfl) ?_
  refine Rg.nil ?_
  refine Vc.seq ?_
  refine Vc.text (List.range 7) (sd [(0, .pure), (1, .eff), (2, .pure), (3, .pure), (4, .pure), (5, .pure), (6, .pure)]) rfl ?_
  refine Rg.pure rfl rfl rfl (Pv.move rfl) ?_
  refine Rg.callH rfl rfl rfl (run_callF rfl) (fun F' hF' => read_no (F := F') hP46 hD46 hw46 (by omega) [103] hn46.1 (by omega) 0 0 (.inl ⟨by decide, rfl⟩)) rfl ?_
  rintro _ _ ⟨h10, h11, rfl, rfl, hP51, hD51, hw51⟩
  simp only [List.append_assoc]
  refine Rg.pure rfl rfl rfl (Pv.move rfl) ?_
  refine Rg.pure rfl rfl rfl (Pv.extract rfl rfl) ?_
  refine Rg.pure rfl rfl rfl (Pv.extract rfl rfl) ?_
  refine Rg.pure rfl rfl rfl (Pv.assign rfl) ?_
  refine Rg.pure rfl rfl rfl (Pv.assign rfl) ?_
  refine Rg.nil ?_
  refine Vc.seq ?_
  refine Vc.text (List.range 42) (sd [(0, .pure), (1, .pure), (2, .pure), (3, .pure), (4, .pure), (5, .pure), (6, .pure), (7, .pure), (8, .read), (9, .pure), (10, .pure), (11, .pure), (12, .pure), (13, .pure), (14, .pure), (15, .pure), (16, .pure), (17, .pure), (18, .pure), (19, .pure), (20, .pure), (21, .pure), (22, .pure), (23, .pure), (24, .pure), (25, .read), (26, .pure), (27, .pure), (28, .pure), (29, .pure), (30, .pure), (31, .pure), (32, .pure), (33, .pure), (34, .pure), (35, .pure), (36, .pure), (37, .pure), (38, .eff), (39, .pure), (40, .pure), (41, .pure)]) rfl ?_
  refine Rg.pure rfl rfl rfl (Pv.move rfl) ?_
  refine Rg.pure rfl rfl rfl (Pv.eql rfl rfl) ?_
  refine Rg.pure rfl rfl rfl (Pv.move rfl) ?_
  refine Rg.split (t := 56) rfl (fun h56 => ?_) (fun h56 => absurd h56 (by decide))
  refine Rg.pure rfl rfl rfl (Pv.move rfl) ?_
  refine Rg.pure rfl rfl rfl (Pv.eql rfl rfl) ?_
  refine Rg.pure rfl rfl rfl (Pv.pickT rfl rfl) ?_
  refine Rg.pure rfl rfl rfl (Pv.move rfl) ?_
  refine Rg.split (t := 60) rfl (fun h60 => ?_) (fun h60 => absurd h60 (by decide))
  refine Rg.pure rfl rfl rfl (Pv.move rfl) ?_
  refine Rg.read rfl rfl rfl (Ev.str (Src.own (rest := []) ou Sb.sub) rfl) ?_
  refine Rg.pure rfl rfl rfl (Pv.eqlS rfl rfl) ?_
  refine Rg.pure rfl rfl rfl (Pv.pickT rfl rfl) ?_
  refine Rg.pure rfl rfl rfl (Pv.move rfl) ?_
  refine Rg.split (t := 65) rfl (fun h65 => ?_) (fun h65 => absurd h65 (by decide))
  refine Rg.pure rfl rfl rfl (Pv.move rfl) ?_
  refine Rg.pure rfl rfl rfl (Pv.eql rfl rfl) ?_
  refine Rg.pure rfl rfl rfl (Pv.pickT rfl rfl) ?_
  refine Rg.pure rfl rfl rfl (Pv.move rfl) ?_
  refine Rg.split (t := 69) rfl (fun h69 => ?_) (fun h69 => absurd h69 (by (have := hI32.cap; have := hne32 (by decide); simp at *; omega)))
  refine Rg.pure rfl rfl rfl (Pv.move rfl) ?_
  refine Rg.pure rfl rfl rfl (Pv.eql rfl rfl) ?_
  refine Rg.pure rfl rfl rfl (Pv.pickT rfl rfl) ?_
  refine Rg.pure rfl rfl rfl (Pv.move rfl) ?_
  refine Rg.split (t := 73) rfl (fun h73 => ?_) (fun h73 => absurd h73 (by decide))
  refine Rg.pure rfl rfl rfl (Pv.move rfl) ?_
  refine Rg.pure rfl rfl rfl (Pv.eql rfl rfl) ?_
  refine Rg.pure rfl rfl rfl (Pv.pickT rfl rfl) ?_
  refine Rg.pure rfl rfl rfl (Pv.move rfl) ?_
  refine Rg.split (t := 77) rfl (fun h77 => ?_) (fun h77 => absurd h77 (by decide))
  refine Rg.pure rfl rfl rfl (Pv.move rfl) ?_
  refine Rg.read rfl rfl rfl (Ev.str (Src.own (rest := []) ou2 Sb.sub) rfl) ?_
  refine Rg.pure rfl rfl rfl (Pv.eqlS rfl rfl) ?_
  refine Rg.pure rfl rfl rfl (Pv.pickT rfl rfl) ?_
  refine Rg.pure rfl rfl rfl (Pv.move rfl) ?_
  refine Rg.split (t := 82) rfl (fun h82 => ?_) (fun h82 => absurd h82 (by decide))
  refine Rg.pure rfl rfl rfl (Pv.move rfl) ?_
  refine Rg.pure rfl rfl rfl (Pv.eql rfl rfl) ?_
  refine Rg.pure rfl rfl rfl (Pv.pickT rfl rfl) ?_
  refine Rg.pure rfl rfl rfl (Pv.move rfl) ?_
  refine Rg.split (t := 86) rfl (fun h86 => ?_) (fun h86 => absurd h86 (by decide))
  refine Rg.pure rfl rfl rfl (Pv.move rfl) ?_
  refine Rg.pure rfl rfl rfl (Pv.eql rfl rfl) ?_
  refine Rg.pure rfl rfl rfl (Pv.pickT rfl rfl) ?_
  refine Rg.pure rfl rfl rfl (Pv.move rfl) ?_
  refine Rg.split (t := 90) rfl (fun h90 => ?_) (fun h90 => absurd h90 (by decide))
  refine Rg.pure rfl rfl rfl (Pv.move rfl) ?_
  refine Rg.callP rfl rfl rfl (run_callF rfl) (dirty_spec hP51 frz_sb (by rw [hl38]; have := hI32.cap; omega)) ?_
  rintro _ rfl
  refine Rg.pure rfl rfl rfl (Pv.eql rfl rfl) ?_
  refine Rg.pure rfl rfl rfl (Pv.pickT rfl rfl) ?_
  refine Rg.pure rfl rfl rfl (Pv.assign rfl) ?_
  refine Rg.nil ?_
  refine Vc.ret (Vc.rets rfl (.cons (.tmp rfl) (.nil)) ?_)
  exact congrArg Value.bool (by simp [dirtyN_zero hcl])
end Go.Proofs.Ytjhegjcjplpmjaa
