/- Records: their bytes; Writer: NewWriter, out, Put, Close. Records: Write. Records: a reader: NewReader, in, Next. Records: Next, Read. Records: what is read of bytes, in plain words; Read. Records: what was written is read, in plain words. Records: the document's answers: blocks, files of records, Same; few. Records: the document's files of records. -/
import Derived.Test.YtbhaahohaccecaaOcC
import Derived.Test.YtbhaahohaccecaaDk0
import Derived.Laws.StructEq
namespace Go.Proofs.Ytbhaahohaccecaa
set_option linter.unusedVariables false

structure Rk where
  key : Nat
  val : Nat
  deriving DecidableEq, Inhabited
abbrev recV (r : Rk) : Value := .agg #[.int .u64 (r.key : Int), .int .u64 (r.val : Int)]
abbrev recC (r : Rk) : List Value := [.int .u64 (r.key : Int), .int .u64 (r.val : Int)]
def recE : Enc Rk where
  k := 2
  tid := 39
  cells := recC
  val := recV
  pos := by decide
  len := fun _ => rfl
  one := fun x v hv => by simp [recC] at hv; rcases hv with rfl | rfl <;> rfl
  vc := fun _ => rfl
instance : RowTy Try.prog recE 39 := ⟨Try.sizeOf39, .inl ⟨Try.isAgg39, fun _ => rfl⟩⟩
instance : TySl Try.prog 29 recE 16 := ⟨Try.underlying29, Try.t39, .agg #[.int .u64 0, .int .u64 0], by kernel_rfl, by kernel_rfl, rfl, rfl, rfl⟩
def recB (r : Rk) : List UInt8 := leBytes 8 r.key ++ leBytes 8 r.val
def recsB (l : List Rk) : List UInt8 := l.flatMap recB
theorem recB_length (r : Rk) : (recB r).length = 16 := by simp [recB]
theorem recsB_length (l : List Rk) : (recsB l).length = 16 * l.length := by
  induction l with
  | nil => rfl
  | cons r l ih => simp only [recsB, List.flatMap_cons, List.length_append, List.length_cons, recB_length] at ih ⊢; omega
theorem recsB_append (a b : List Rk) : recsB (a ++ b) = recsB a ++ recsB b := by simp [recsB]
theorem recsB_snoc (l : List Rk) (r : Rk) : recsB (l ++ [r]) = recsB l ++ recB r := by rw [recsB_append]; simp [recsB]

/-! ### What a writer does -/
def outW (D : Dk) (nm text : List UInt8) : Int × Dk := if text.length = 0 then (0, D) else writeD D nm none (encG text)
def putW (D : Dk) (nm text : List UInt8) (r : Rk) : Int × Dk × List UInt8 × Bool :=
  if (text ++ recB r).length < 800 then (0, D, text ++ recB r, false) else ((writeD D nm none (encG (text ++ recB r))).1, (writeD D nm none (encG (text ++ recB r))).2, [], ((writeD D nm none (encG (text ++ recB r))).1 != 0))
def closeW (D : Dk) (nm text : List UInt8) : Int × Dk := if (outW D nm text).1 = 0 then syncD (outW D nm text).2 nm else outW D nm text
def WrAt (wb db : Nat) (nm text : List UInt8) (done : Bool) (hl : Hl) : Prop := ∃ tv s, Own byteE tv text s ∧ hl.Perm ((wb, cellsO [.pointer (some ⟨db, 0, none⟩), kS nm, tv, .bool done] 88) :: s)

theorem newWriter_spec {F : Fm} {db n B : Nat} {D : Dk} {s : Hl} (hD : DiskAt db D s) (hw : Dw n B D) (hn : n < 1000) (hB : B ≤ 1000000) (nm : List UInt8) :
    Spec Try.prog 19 #[.pointer (some ⟨db, 0, none⟩), kS nm] F s fun v s' => ∃ p h1 h2, v = .tuple #[.pointer p, .int .i64 (createD D nm).1] ∧ s' = h1 ++ h2 ∧ DiskAt db (createD D nm).2 h2 ∧ ((createD D nm).1 = 0 → ∃ wb, p = some ⟨wb, 0, none⟩ ∧ WrAt wb db nm [] false h1) := by
  refine Spec.of (n := 17) (vs := [.pointer (some ⟨db, 0, none⟩), kS nm]) Try.func19 rfl Try.ntmps19 rfl ?_
  refine Vc.seq ?_
  refine Vc.text (List.range 2) (sd [(0, .pure), (1, .pure)]) rfl ?_
  refine Rg.pure rfl rfl rfl (Pv.assign rfl) ?_
  refine Rg.pure rfl rfl rfl (Pv.assign rfl) ?_
  refine Rg.nil ?_
  refine Vc.seq ?_
  refine Vc.seq ?_
  refine Vc.text (List.range 4) (sd [(0, .pure), (1, .pure), (2, .eff), (3, .pure)]) rfl ?_
  refine Rg.pure rfl rfl rfl (Pv.move rfl) ?_
  refine Rg.pure rfl rfl rfl (Pv.move rfl) ?_
  refine Rg.callH rfl rfl rfl (run_callF rfl) (fun F' hF' => create_w (F := F') hD hw hn hB nm (e := (createD D nm).1) (D' := (createD D nm).2) rfl) rfl ?_
  rintro _ s9 ⟨rfl, hD9, hw9⟩
  rw [List.append_nil]
  refine Rg.pure rfl rfl rfl (Pv.assign rfl) ?_
  refine Rg.nil ?_
  refine Vc.seq ?_
  refine Vc.text (List.range 2) (sd [(0, .pure), (1, .pure)]) rfl ?_
  refine Rg.pure rfl rfl rfl (Pv.move rfl) ?_
  refine Rg.pure rfl rfl rfl (Pv.neq rfl rfl) ?_
  refine Rg.nil ?_
  refine Vc.cond rfl (fun h11 => ?_) (fun h11 => ?_)
  ·
    simp only [bne_iff_ne, ne_eq] at h11
    refine Vc.seq ?_
    refine Vc.text (List.range 3) (sd [(0, .pure), (1, .pure), (2, .pure)]) rfl ?_
    refine Rg.pure rfl rfl rfl (Pv.move rfl) ?_
    refine Rg.pure rfl rfl rfl (Pv.assign rfl) ?_
    refine Rg.pure rfl rfl rfl (Pv.assign rfl) ?_
    refine Rg.nil ?_
    exact Vc.ret (Vc.retsH rfl (.cons (.tmp rfl) (.cons (.tmp rfl) (.nil))) (⟨none, [], s9, rfl, rfl, hD9, fun h => absurd h h11⟩) pulled)
  ·
    simp only [bne_eq_false_iff_eq] at h11
    refine Vc.skip ?_
    refine Vc.seq ?_
    refine Vc.text (List.range 6) (sd [(0, .pure), (1, .pure), (2, .pure), (3, .eff), (4, .pure), (5, .pure)]) rfl ?_
    refine Rg.pure rfl rfl rfl (Pv.move rfl) ?_
    refine Rg.pure rfl rfl rfl (Pv.move rfl) ?_
    refine Rg.pure rfl rfl rfl (Pv.build (c := #[.pointer (some ⟨db, 0, none⟩), kS nm, .slice none 0 0, .bool false]) rfl rfl) ?_
    refine Rg.box rfl rfl rfl rfl rfl (fun b16 => ?_)
    refine Rg.pure rfl rfl rfl (Pv.assign rfl) ?_
    refine Rg.pure rfl rfl rfl (Pv.assign rfl) ?_
    refine Rg.nil ?_
    exact Vc.ret (Vc.retsH rfl (.cons (.tmp rfl) (.cons (.tmp rfl) (.nil))) (⟨some ⟨b16, 0, none⟩, [(b16, cellsO [.pointer (some ⟨db, 0, none⟩), kS nm, .slice none 0 0, .bool false] 88)], s9, by rw [h11]; rfl, rfl, hD9, fun _ => ⟨b16, rfl, .slice none 0 0, [], .nil, .refl _⟩⟩) pulled)
set_option maxHeartbeats 1000000 in
theorem out_spec {F : Fm} {wb db n B : Nat} {D : Dk} {nm text : List UInt8} {done : Bool} {s1 s2 : Hl} (hW : WrAt wb db nm text done s1) (hD : DiskAt db D s2) (hw : Dw n B D) (hn : n < 1000) (hB : B ≤ 1000000) (ht : text.length ≤ 1000) :
    Spec Try.prog 39 #[.pointer (some ⟨wb, 0, none⟩)] F (s1 ++ s2) fun v s' => ∃ h1 h2, v = .int .i64 (outW D nm text).1 ∧ s' = h1 ++ h2 ∧ DiskAt db (outW D nm text).2 h2 ∧ WrAt wb db nm [] (if text.length = 0 then done else ((outW D nm text).1 != 0)) h1 := by
  obtain ⟨tv, s, own, hp⟩ := hW
  refine Spec.perm ?_ (hp.append_right s2)
  rw [List.cons_append]
  obtain ⟨pt, ct, rfl⟩ := own.shape
  refine Spec.of (n := 40) (vs := [.pointer (some ⟨wb, 0, none⟩)]) Try.func39 rfl Try.ntmps39 rfl ?_
  refine Vc.seq ?_
  refine Vc.text (List.range 1) (sd [(0, .pure)]) rfl ?_
  refine Rg.pure rfl rfl rfl (Pv.assign rfl) ?_
  refine Rg.nil ?_
  refine Vc.seq ?_
  refine Vc.seq ?_
  refine Vc.text (List.range 6) (sd [(0, .pure), (1, .pure), (2, .pure), (3, .read), (4, .pure), (5, .pure)]) rfl ?_
  refine Rg.pure rfl rfl rfl (Pv.move rfl) ?_
  refine Rg.pure rfl rfl rfl (Pv.nilp rfl) ?_
  refine Rg.pure rfl rfl rfl (Pv.fa rfl) ?_
  refine Rg.read rfl rfl rfl (Ev.ld rfl rfl) ?_
  refine Rg.pure rfl rfl rfl (Pv.lenS rfl) ?_
  refine Rg.pure rfl rfl rfl (Pv.eql rfl rfl) ?_
  refine Rg.nil ?_
  refine Vc.cond rfl (fun h10 => ?_) (fun h10 => ?_)
  ·
    simp only [beq_iff_eq] at h10
    have h0 : text.length = 0 := by omega
    have he : text = [] := List.length_eq_zero_iff.1 h0
    have ho : outW D nm text = (0, D) := by rw [outW, if_pos h0]
    refine Vc.seq ?_
    refine Vc.text (List.range 1) (sd [(0, .pure)]) rfl ?_
    refine Rg.pure rfl rfl rfl (Pv.assign rfl) ?_
    refine Rg.nil ?_
    exact Vc.ret (Vc.retsH rfl (.cons (.tmp rfl) (.nil)) (⟨(wb, cellsO [.pointer (some ⟨db, 0, none⟩), kS nm, .slice pt text.length ct, .bool done] 88) :: s, s2, by rw [ho]; rfl, rfl, by rw [ho]; exact hD, by rw [if_pos h0]; exact ⟨_, s, by rw [← he]; exact own, .refl _⟩⟩) pulled)
  ·
    simp only [beq_eq_false_iff_ne, ne_eq] at h10
    have h0 : ¬ text.length = 0 := by omega
    have ho : outW D nm text = writeD D nm none (encG text) := by rw [outW, if_neg h0]
    refine Vc.skip ?_
    refine Vc.seq ?_
    refine Vc.text (List.range 10) (sd [(0, .pure), (1, .pure), (2, .pure), (3, .read), (4, .eff), (5, .pure), (6, .pure), (7, .pure), (8, .pure), (9, .pure)]) rfl ?_
    refine Rg.pure rfl rfl rfl (Pv.move rfl) ?_
    refine Rg.pure rfl rfl rfl (Pv.nilp rfl) ?_
    refine Rg.pure rfl rfl rfl (Pv.fa rfl) ?_
    refine Rg.read rfl rfl rfl (Ev.ld rfl rfl) ?_
    refine Rg.callA rfl rfl rfl (run_callF rfl) (encode_spec (Arg.own own frz_sb) ht) ?_
    rintro _ s16 ⟨u16, rfl, own16⟩
    refine Rg.pure rfl rfl rfl (Pv.move rfl) ?_
    refine Rg.pure rfl rfl rfl (Pv.extract rfl rfl) ?_
    refine Rg.pure rfl rfl rfl (Pv.extract rfl rfl) ?_
    refine Rg.pure rfl rfl rfl (Pv.assign rfl) ?_
    refine Rg.pure rfl rfl rfl (Pv.assign rfl) ?_
    refine Rg.nil ?_
    refine Vc.seq ?_
    refine Vc.seq ?_
    refine Vc.text (List.range 2) (sd [(0, .pure), (1, .pure)]) rfl ?_
    refine Rg.pure rfl rfl rfl (Pv.move rfl) ?_
    refine Rg.pure rfl rfl rfl (Pv.eql rfl rfl) ?_
    refine Rg.nil ?_
    refine Vc.cond rfl (fun h20 => ?_) (fun h20 => absurd h20 (by decide))
    refine Vc.draw [9] (sd [(0, .pure), (1, .pure), (2, .pure), (3, .read), (4, .pure), (5, .pure), (6, .pure), (7, .read), (8, .pure), (9, .eff), (10, .pure)]) mixed (by kernel_rfl) ?_
    refine Rg.pure rfl rfl rfl (Pv.move rfl) ?_
    refine Rg.pure rfl rfl rfl (Pv.nilp rfl) ?_
    refine Rg.pure rfl rfl rfl (Pv.fa rfl) ?_
    refine Rg.read rfl rfl rfl (Ev.ld rfl rfl) ?_
    refine Rg.pure rfl rfl rfl (Pv.move rfl) ?_
    refine Rg.pure rfl rfl rfl (Pv.nilp rfl) ?_
    refine Rg.pure rfl rfl rfl (Pv.fa rfl) ?_
    refine Rg.read rfl rfl rfl (Ev.ld rfl rfl) ?_
    refine Rg.pure rfl rfl rfl (Pv.move rfl) ?_
    refine Rg.callH rfl rfl rfl (run_callF rfl) (fun F' hF' => append_w (F := F') hD hw hn hB nm (Arg.own own16 fun b o hb => hF' b o (.inl (by simp [hb]))) (by rw [encG_length]; omega) (e := (outW D nm text).1) (D' := (outW D nm text).2) (by rw [ho])) rfl ?_
    rintro _ s30 ⟨rfl, hD30, hw30⟩
    refine Rg.pure rfl rfl rfl (Pv.assign rfl) ?_
    refine Rg.nil ?_
    refine Vc.seq ?_
    refine Vc.text (List.range 10) (sd [(0, .pure), (1, .pure), (2, .pure), (3, .pure), (4, .pure), (5, .pure), (6, .eff), (7, .pure), (8, .pure), (9, .eff)]) rfl ?_
    refine Rg.pure rfl rfl rfl (Pv.move rfl) ?_
    refine Rg.pure rfl rfl rfl (Pv.move rfl) ?_
    refine Rg.pure rfl rfl rfl (Pv.move rfl) ?_
    refine Rg.pure rfl rfl rfl (Pv.neq rfl rfl) ?_
    refine Rg.pure rfl rfl rfl (Pv.nilp rfl) ?_
    refine Rg.pure rfl rfl rfl (Pv.fa rfl) ?_
    refine Rg.store rfl rfl rfl rfl rfl rfl rfl rfl ?_
    refine Rg.pure rfl rfl rfl (Pv.nilp rfl) ?_
    refine Rg.pure rfl rfl rfl (Pv.fa rfl) ?_
    refine Rg.store rfl rfl rfl rfl rfl rfl rfl rfl ?_
    refine Rg.nil ?_
    refine Vc.seq ?_
    refine Vc.text (List.range 2) (sd [(0, .pure), (1, .pure)]) rfl ?_
    refine Rg.pure rfl rfl rfl (Pv.move rfl) ?_
    refine Rg.pure rfl rfl rfl (Pv.assign rfl) ?_
    refine Rg.nil ?_
    exact Vc.ret (Vc.retsH rfl (.cons (.tmp rfl) (.nil)) ((show ∃ h1 h2, Value.int .i64 (outW D nm text).1 = .int .i64 (outW D nm text).1 ∧ (wb, cellsO [.pointer (some ⟨db, 0, none⟩), kS nm, .slice none 0 0, .bool ((outW D nm text).1 != 0)] 88) :: s30 = h1 ++ h2 ∧ DiskAt db (outW D nm text).2 h2 ∧ WrAt wb db nm [] (if text.length = 0 then done else ((outW D nm text).1 != 0)) h1 from
      ⟨[_], s30, rfl, rfl, hD30, by rw [if_neg h0]; exact ⟨.slice none 0 0, [], .nil, .refl _⟩⟩)) pulled)
theorem put_w {F : Fm} {wb db n B : Nat} {D : Dk} {nm text : List UInt8} {s1 s2 : Hl} (hW : WrAt wb db nm text false s1) (hD : DiskAt db D s2) (hw : Dw n B D) (hn : n < 1000) (hB : B ≤ 1000000) (ht : text.length < 800) (r : Rk) :
    Spec Try.prog 20 #[.pointer (some ⟨wb, 0, none⟩), recV r] F (s1 ++ s2) fun v s' => ∃ h1 h2, v = .int .i64 (putW D nm text r).1 ∧ s' = h1 ++ h2 ∧ DiskAt db (putW D nm text r).2.1 h2 ∧ WrAt wb db nm (putW D nm text r).2.2.1 (putW D nm text r).2.2.2 h1 := by
  obtain ⟨tv, s, own, hp⟩ := hW
  refine Spec.perm ?_ (hp.append_right s2)
  rw [List.cons_append]
  obtain ⟨pt, ct, rfl⟩ := own.shape
  have hl : (text ++ recB r).length = text.length + 16 := by rw [List.length_append, recB_length]
  obtain ⟨t, htt⟩ : ∃ t, t = text ++ recB r := ⟨_, rfl⟩
  have hpw : putW D nm text r = if t.length < 800 then (0, D, t, false) else ((writeD D nm none (encG t)).1, (writeD D nm none (encG t)).2, [], ((writeD D nm none (encG t)).1 != 0)) := by rw [putW, ← htt]
  rw [← htt] at hl
  refine Spec.of (n := 30) (vs := [.pointer (some ⟨wb, 0, none⟩), recV r]) Try.func20 rfl Try.ntmps20 rfl ?_
  refine Vc.seq ?_
  refine Vc.text (List.range 2) (sd [(0, .eff), (1, .pure)]) rfl ?_
  refine Rg.box rfl rfl rfl rfl rfl (fun b3 => ?_)
  refine Rg.pure rfl rfl rfl (Pv.assign rfl) ?_
  refine Rg.nil ?_
  refine Vc.seq ?_
  refine Vc.seq ?_
  refine Vc.text (List.range 4) (sd [(0, .pure), (1, .pure), (2, .pure), (3, .read)]) rfl ?_
  refine Rg.pure rfl rfl rfl (Pv.move rfl) ?_
  refine Rg.pure rfl rfl rfl (Pv.nilp rfl) ?_
  refine Rg.pure rfl rfl rfl (Pv.fa rfl) ?_
  refine Rg.read rfl rfl rfl (Ev.ld rfl rfl) ?_
  refine Rg.nil ?_
  refine Vc.cond rfl (fun h8 => absurd h8 (by decide)) (fun h8 => ?_)
  refine Vc.skip ?_
  refine Vc.seq ?_
  refine Vc.draw [13] (sd [(0, .pure), (1, .pure), (2, .pure), (3, .pure), (4, .read), (5, .pure), (6, .read), (8, .pure), (9, .read), (7, .eff), (10, .eff), (11, .pure), (12, .pure), (13, .eff)]) mixed (by kernel_rfl) ?_
  refine Rg.pure rfl rfl rfl (Pv.move rfl) ?_
  refine Rg.pure rfl rfl rfl (Pv.move rfl) ?_
  refine Rg.pure rfl rfl rfl (Pv.nilp rfl) ?_
  refine Rg.pure rfl rfl rfl (Pv.fa rfl) ?_
  refine Rg.read rfl rfl rfl (Ev.ld rfl rfl) ?_
  refine Rg.pure rfl rfl rfl (Pv.fa rfl) ?_
  refine Rg.read rfl rfl rfl (Ev.ld rfl rfl) ?_
  refine Rg.pure rfl rfl rfl (Pv.fa rfl) ?_
  refine Rg.read rfl rfl rfl (Ev.ld rfl rfl) ?_
  refine Rg.callA rfl rfl rfl (run_callF rfl) (put_spec (Arg.own own frz_sb) (by omega) 8 r.key (by omega)) ?_
  rintro v16 s16 own16
  refine Rg.callA rfl rfl rfl (run_callF rfl) (put_spec (Arg.own own16 frz_sb) (by simp; omega) 8 r.val (by omega)) ?_
  rintro v19 s19 own19
  rw [List.append_assoc] at own19
  replace own19 : Own byteE v19 (text ++ recB r) s19 := own19
  rw [← htt] at own19
  obtain ⟨p19, c19, rfl⟩ := own19.shape
  refine Rg.pure rfl rfl rfl (Pv.nilp rfl) ?_
  refine Rg.pure rfl rfl rfl (Pv.fa rfl) ?_
  refine Rg.store rfl rfl rfl rfl rfl rfl rfl rfl ?_
  refine Rg.nil ?_
  refine Vc.seq ?_
  refine Vc.seq ?_
  refine Vc.text (List.range 6) (sd [(0, .pure), (1, .pure), (2, .pure), (3, .read), (4, .pure), (5, .pure)]) rfl ?_
  refine Rg.pure rfl rfl rfl (Pv.move rfl) ?_
  refine Rg.pure rfl rfl rfl (Pv.nilp rfl) ?_
  refine Rg.pure rfl rfl rfl (Pv.fa rfl) ?_
  refine Rg.read rfl rfl rfl (Ev.ld rfl rfl) ?_
  refine Rg.pure rfl rfl rfl (Pv.lenS rfl) ?_
  refine Rg.pure rfl rfl rfl (Pv.lss rfl rfl) ?_
  refine Rg.nil ?_
  refine Vc.cond rfl (fun h27 => ?_) (fun h27 => ?_)
  ·
    simp only [decide_eq_true_eq] at h27
    rw [if_pos (by omega)] at hpw
    refine Vc.seq ?_
    refine Vc.text (List.range 1) (sd [(0, .pure)]) rfl ?_
    refine Rg.pure rfl rfl rfl (Pv.assign rfl) ?_
    refine Rg.nil ?_
    exact Vc.ret (Vc.retsH rfl (.cons (.tmp rfl) (.nil)) ((show ∃ h1 h2, Value.int .i64 0 = .int .i64 (putW D nm text r).1 ∧ (wb, cellsO [.pointer (some ⟨db, 0, none⟩), kS nm, .slice p19 t.length c19, .bool false] 88) :: (s19 ++ s2) = h1 ++ h2 ∧ DiskAt db (putW D nm text r).2.1 h2 ∧ WrAt wb db nm (putW D nm text r).2.2.1 (putW D nm text r).2.2.2 h1 from
      ⟨(wb, cellsO [.pointer (some ⟨db, 0, none⟩), kS nm, .slice p19 t.length c19, .bool false] 88) :: s19, s2, by rw [hpw], rfl, by rw [hpw]; exact hD, by rw [hpw]; exact ⟨_, s19, own19, .refl _⟩⟩)) pulled)
  ·
    simp only [decide_eq_false_iff_not] at h27
    rw [if_neg (by omega)] at hpw
    refine Vc.skip ?_
    refine Vc.seq ?_
    refine Vc.text (List.range 3) (sd [(0, .pure), (1, .eff), (2, .pure)]) rfl ?_
    refine Rg.pure rfl rfl rfl (Pv.move rfl) ?_
    refine Rg.callH rfl rfl rfl (run_callF rfl) (fun F' hF' => out_spec (F := F') (s1 := (wb, cellsO [.pointer (some ⟨db, 0, none⟩), kS nm, .slice p19 t.length c19, .bool false] 88) :: s19) ⟨_, s19, own19, .refl _⟩ hD hw hn hB (by omega)) rfl ?_
    rintro _ _ ⟨h1, h2, rfl, rfl, hD29, hW29⟩
    have ho : outW D nm t = writeD D nm none (encG t) := by rw [outW, if_neg (by omega)]
    rw [if_neg (by omega)] at hW29
    refine Rg.pure rfl rfl rfl (Pv.assign rfl) ?_
    refine Rg.nil ?_
    exact Vc.ret (Vc.retsH rfl (.cons (.tmp rfl) (.nil)) (⟨h1, h2, by rw [hpw, ho]; rfl, rfl, by rw [hpw, ← ho]; exact hD29, by rw [hpw, ← ho]; exact hW29⟩) pulled)
theorem put_done {F : Fm} {wb db : Nat} {nm text : List UInt8} {s1 s2 : Hl} (hW : WrAt wb db nm text true s1) (r : Rk) :
    Spec Try.prog 20 #[.pointer (some ⟨wb, 0, none⟩), recV r] F s1 fun v s' => v = .int .i64 9 ∧ WrAt wb db nm text true s' := by
  obtain ⟨tv, s, own, hp⟩ := hW
  refine Spec.perm ?_ hp
  refine Spec.of (n := 30) (vs := [.pointer (some ⟨wb, 0, none⟩), recV r]) Try.func20 rfl Try.ntmps20 rfl ?_
  refine Vc.seq ?_
  refine Vc.text (List.range 2) (sd [(0, .eff), (1, .pure)]) rfl ?_
  refine Rg.box rfl rfl rfl rfl rfl (fun b3 => ?_)
  refine Rg.pure rfl rfl rfl (Pv.assign rfl) ?_
  refine Rg.nil ?_
  refine Vc.seq ?_
  refine Vc.seq ?_
  refine Vc.text (List.range 4) (sd [(0, .pure), (1, .pure), (2, .pure), (3, .read)]) rfl ?_
  refine Rg.pure rfl rfl rfl (Pv.move rfl) ?_
  refine Rg.pure rfl rfl rfl (Pv.nilp rfl) ?_
  refine Rg.pure rfl rfl rfl (Pv.fa rfl) ?_
  refine Rg.read rfl rfl rfl (Ev.ld rfl rfl) ?_
  refine Rg.nil ?_
  refine Vc.cond rfl (fun h8 => ?_) (fun h8 => absurd h8 (by decide))
  refine Vc.seq ?_
  refine Vc.text (List.range 1) (sd [(0, .pure)]) rfl ?_
  refine Rg.pure rfl rfl rfl (Pv.assign rfl) ?_
  refine Rg.nil ?_
  exact Vc.ret (Vc.retsH rfl (.cons (.tmp rfl) (.nil)) ((show _ ∧ WrAt wb db nm text true ((wb, cellsO [.pointer (some ⟨db, 0, none⟩), kS nm, tv, .bool true] 88) :: s) from ⟨rfl, tv, s, own, .refl _⟩)) pulled)
theorem close_done {F : Fm} {wb db : Nat} {nm text : List UInt8} {s1 s2 : Hl} (hW : WrAt wb db nm text true s1) :
    Spec Try.prog 21 #[.pointer (some ⟨wb, 0, none⟩)] F s1 fun v s' => v = .int .i64 9 ∧ WrAt wb db nm text true s' := by
  obtain ⟨tv, s, own, hp⟩ := hW
  refine Spec.perm ?_ hp
  refine Spec.of (n := 25) (vs := [.pointer (some ⟨wb, 0, none⟩)]) Try.func21 rfl Try.ntmps21 rfl ?_
  refine Vc.seq ?_
  refine Vc.text (List.range 1) (sd [(0, .pure)]) rfl ?_
  refine Rg.pure rfl rfl rfl (Pv.assign rfl) ?_
  refine Rg.nil ?_
  refine Vc.seq ?_
  refine Vc.seq ?_
  refine Vc.text (List.range 4) (sd [(0, .pure), (1, .pure), (2, .pure), (3, .read)]) rfl ?_
  refine Rg.pure rfl rfl rfl (Pv.move rfl) ?_
  refine Rg.pure rfl rfl rfl (Pv.nilp rfl) ?_
  refine Rg.pure rfl rfl rfl (Pv.fa rfl) ?_
  refine Rg.read rfl rfl rfl (Ev.ld rfl rfl) ?_
  refine Rg.nil ?_
  refine Vc.cond rfl (fun h7 => ?_) (fun h7 => absurd h7 (by decide))
  refine Vc.seq ?_
  refine Vc.text (List.range 1) (sd [(0, .pure)]) rfl ?_
  refine Rg.pure rfl rfl rfl (Pv.assign rfl) ?_
  refine Rg.nil ?_
  exact Vc.ret (Vc.retsH rfl (.cons (.tmp rfl) (.nil)) ((show _ ∧ WrAt wb db nm text true ((wb, cellsO [.pointer (some ⟨db, 0, none⟩), kS nm, tv, .bool true] 88) :: s) from ⟨rfl, tv, s, own, .refl _⟩)) pulled)
theorem close_w {F : Fm} {wb db n B : Nat} {D : Dk} {nm text : List UInt8} {s1 s2 : Hl} (hW : WrAt wb db nm text false s1) (hD : DiskAt db D s2) (hw : Dw n B D) (hn : n < 990) (hB : B ≤ 900000) (ht : text.length ≤ 1000) :
    Spec Try.prog 21 #[.pointer (some ⟨wb, 0, none⟩)] F (s1 ++ s2) fun v s' => ∃ h1 h2, v = .int .i64 (closeW D nm text).1 ∧ s' = h1 ++ h2 ∧ DiskAt db (closeW D nm text).2 h2 ∧ WrAt wb db nm [] true h1 := by
  have hwo : Dw (n + 1) (B + 1006) (outW D nm text).2 := by
    unfold outW
    split
    · exact hw.mono (by omega) (by omega)
    · exact (hw.write nm none (encG text)).mono (Nat.le_refl _) (by rw [encG_length]; omega)
  obtain ⟨tv, s, own, hp⟩ := hW
  refine Spec.perm ?_ (hp.append_right s2)
  rw [List.cons_append]
  obtain ⟨pt, ct, rfl⟩ := own.shape
  refine Spec.of (n := 25) (vs := [.pointer (some ⟨wb, 0, none⟩)]) Try.func21 rfl Try.ntmps21 rfl ?_
  refine Vc.seq ?_
  refine Vc.text (List.range 1) (sd [(0, .pure)]) rfl ?_
  refine Rg.pure rfl rfl rfl (Pv.assign rfl) ?_
  refine Rg.nil ?_
  refine Vc.seq ?_
  refine Vc.seq ?_
  refine Vc.text (List.range 4) (sd [(0, .pure), (1, .pure), (2, .pure), (3, .read)]) rfl ?_
  refine Rg.pure rfl rfl rfl (Pv.move rfl) ?_
  refine Rg.pure rfl rfl rfl (Pv.nilp rfl) ?_
  refine Rg.pure rfl rfl rfl (Pv.fa rfl) ?_
  refine Rg.read rfl rfl rfl (Ev.ld rfl rfl) ?_
  refine Rg.nil ?_
  refine Vc.cond rfl (fun h7 => absurd h7 (by decide)) (fun h7 => ?_)
  refine Vc.skip ?_
  refine Vc.seq ?_
  refine Vc.text (List.range 3) (sd [(0, .pure), (1, .eff), (2, .pure)]) rfl ?_
  refine Rg.pure rfl rfl rfl (Pv.move rfl) ?_
  refine Rg.callH rfl rfl rfl (run_callF rfl) (fun F' hF' => out_spec (F := F') (s1 := (wb, cellsO [.pointer (some ⟨db, 0, none⟩), kS nm, .slice pt text.length ct, .bool false] 88) :: s) ⟨_, s, own, .refl _⟩ hD hw (by omega) (by omega) ht) rfl ?_
  rintro _ _ ⟨h1, h2, rfl, rfl, hD9, tv9, s9, own9, hp9⟩
  generalize (if text.length = 0 then false else ((outW D nm text).1 != 0)) = dn at hp9
  refine Rg.pure rfl rfl rfl (Pv.assign rfl) ?_
  refine Rg.nil ?_
  refine Vc.seq ?_
  refine Vc.seq ?_
  refine Vc.perm ((List.Perm.of_eq (List.append_nil _)).trans (hp9.append_right h2)) ?_
  rw [List.cons_append]
  refine Vc.text (List.range 2) (sd [(0, .pure), (1, .pure)]) rfl ?_
  refine Rg.pure rfl rfl rfl (Pv.move rfl) ?_
  refine Rg.pure rfl rfl rfl (Pv.eql rfl rfl) ?_
  refine Rg.nil ?_
  refine Vc.cond rfl (fun h11 => ?_) (fun h11 => ?_)
  ·
    simp only [beq_iff_eq] at h11
    have hc : closeW D nm text = syncD (outW D nm text).2 nm := by rw [closeW, if_pos h11]
    refine Vc.draw [8] (sd [(0, .pure), (1, .pure), (2, .pure), (3, .read), (4, .pure), (5, .pure), (6, .pure), (7, .read), (8, .eff), (9, .pure)]) mixed (by kernel_rfl) ?_
    refine Rg.pure rfl rfl rfl (Pv.move rfl) ?_
    refine Rg.pure rfl rfl rfl (Pv.nilp rfl) ?_
    refine Rg.pure rfl rfl rfl (Pv.fa rfl) ?_
    refine Rg.read rfl rfl rfl (Ev.ld rfl rfl) ?_
    refine Rg.pure rfl rfl rfl (Pv.move rfl) ?_
    refine Rg.pure rfl rfl rfl (Pv.nilp rfl) ?_
    refine Rg.pure rfl rfl rfl (Pv.fa rfl) ?_
    refine Rg.read rfl rfl rfl (Ev.ld rfl rfl) ?_
    refine Rg.callH rfl rfl rfl (run_callF rfl) (fun F' hF' => sync_w (F := F') hD9 hwo (by omega) (by omega) nm (e := (closeW D nm text).1) (D' := (closeW D nm text).2) (by rw [hc])) rfl ?_
    rintro _ s20 ⟨rfl, hD20, hw20⟩
    refine Rg.pure rfl rfl rfl (Pv.assign rfl) ?_
    refine Rg.nil ?_
    refine Vc.seq ?_
    refine Vc.text (List.range 4) (sd [(0, .pure), (1, .pure), (2, .pure), (3, .eff)]) rfl ?_
    refine Rg.pure rfl rfl rfl (Pv.move rfl) ?_
    refine Rg.pure rfl rfl rfl (Pv.nilp rfl) ?_
    refine Rg.pure rfl rfl rfl (Pv.fa rfl) ?_
    refine Rg.store rfl rfl rfl rfl rfl rfl rfl rfl ?_
    refine Rg.nil ?_
    refine Vc.seq ?_
    refine Vc.text (List.range 2) (sd [(0, .pure), (1, .pure)]) rfl ?_
    refine Rg.pure rfl rfl rfl (Pv.move rfl) ?_
    refine Rg.pure rfl rfl rfl (Pv.assign rfl) ?_
    refine Rg.nil ?_
    exact Vc.ret (Vc.retsH rfl (.cons (.tmp rfl) (.nil)) ((show ∃ h1 h2, Value.int .i64 (closeW D nm text).1 = .int .i64 (closeW D nm text).1 ∧ ((wb, cellsO [.pointer (some ⟨db, 0, none⟩), kS nm, tv9, .bool true] 88) :: s9) ++ s20 = h1 ++ h2 ∧ DiskAt db (closeW D nm text).2 h2 ∧ WrAt wb db nm [] true h1 from
      ⟨_, s20, rfl, rfl, hD20, tv9, s9, own9, .refl _⟩)) pulled)
  ·
    simp only [beq_eq_false_iff_ne, ne_eq] at h11
    have hc : closeW D nm text = outW D nm text := by rw [closeW, if_neg h11]
    refine Vc.skip ?_
    refine Vc.seq ?_
    refine Vc.text (List.range 4) (sd [(0, .pure), (1, .pure), (2, .pure), (3, .eff)]) rfl ?_
    refine Rg.pure rfl rfl rfl (Pv.move rfl) ?_
    refine Rg.pure rfl rfl rfl (Pv.nilp rfl) ?_
    refine Rg.pure rfl rfl rfl (Pv.fa rfl) ?_
    refine Rg.store rfl rfl rfl rfl rfl rfl rfl rfl ?_
    refine Rg.nil ?_
    refine Vc.seq ?_
    refine Vc.text (List.range 2) (sd [(0, .pure), (1, .pure)]) rfl ?_
    refine Rg.pure rfl rfl rfl (Pv.move rfl) ?_
    refine Rg.pure rfl rfl rfl (Pv.assign rfl) ?_
    refine Rg.nil ?_
    exact Vc.ret (Vc.retsH rfl (.cons (.tmp rfl) (.nil)) (⟨(wb, cellsO [.pointer (some ⟨db, 0, none⟩), kS nm, tv9, .bool true] 88) :: s9, h2, by rw [hc]; rfl, rfl, by rw [hc]; exact hD9, tv9, s9, own9, .refl _⟩) pulled)
end Go.Proofs.Ytbhaahohaccecaa

namespace Go.Proofs.Ytbhaahohaccecaa
set_option linter.unusedVariables false

/-! ### In plain words -/
def chunk (l : List Rk) (q : Nat) : List Rk := (l.drop (50 * q)).take 50
/-- so many blocks of records are appended; the first error stays -/
def wBlk (D : Dk) (nm : List UInt8) (l : List Rk) : Nat → Int × Dk
  | 0 => (0, D)
  | q + 1 => if (wBlk D nm l q).1 ≠ 0 then wBlk D nm l q else writeD (wBlk D nm l q).2 nm none (encG (recsB (chunk l q)))
/-- what a writer holds behind so many records -/
def txt (l : List Rk) (i : Nat) : List UInt8 := recsB ((l.take i).drop (50 * (i / 50)))
theorem txt_length {l : List Rk} {i : Nat} (h : i ≤ l.length) : (txt l i).length = 16 * (i % 50) := by
  rw [txt, recsB_length]
  simp
  omega
theorem wBlk_ok {D : Dk} {nm : List UInt8} {l : List Rk} {q : Nat} (h : (wBlk D nm l q).1 = 0) : wBlk D nm l (q + 1) = writeD (wBlk D nm l q).2 nm none (encG (recsB (chunk l q))) := by
  rw [wBlk, if_neg (by rw [h]; decide)]
theorem chunk_length (l : List Rk) (q : Nat) : (chunk l q).length ≤ 50 := by simp [chunk]; omega
theorem Dw.blk {n B : Nat} {D : Dk} (h : Dw n B D) (nm : List UInt8) (l : List Rk) : ∀ q, Dw (n + q) (B + 1006 * q) (wBlk D nm l q).2
  | 0 => h
  | q + 1 => by
    have ih := Dw.blk h nm l q
    rw [wBlk]
    split
    · exact ih.mono (by omega) (by omega)
    · refine (ih.write nm none _).mono (by omega) ?_
      rw [encG_length, recsB_length]
      have := chunk_length l q
      omega
theorem take_step {l : List Rk} {i : Nat} (h : i < l.length) : l.take (i + 1) = l.take i ++ [l[i]!] := by
  rw [List.take_succ_eq_append_getElem h, getElem!_pos l i h]
/-- one record more -/
theorem put_step {D : Dk} {nm : List UInt8} {l : List Rk} {i : Nat} (hi : i < l.length) (h0 : (wBlk D nm l (i / 50)).1 = 0) :
    putW (wBlk D nm l (i / 50)).2 nm (txt l i) l[i]! = ((wBlk D nm l ((i + 1) / 50)).1, (wBlk D nm l ((i + 1) / 50)).2, txt l (i + 1), ((wBlk D nm l ((i + 1) / 50)).1 != 0)) := by
  have ht := txt_length (l := l) (i := i) (by omega)
  have hs : txt l i ++ recB l[i]! = recsB ((l.take (i + 1)).drop (50 * (i / 50))) := by
    rw [take_step hi, List.drop_append_of_le_length (by simp; omega), recsB_snoc]
    rfl
  have hl : (txt l i ++ recB l[i]!).length = 16 * (i % 50) + 16 := by rw [List.length_append, recB_length, ht]
  unfold putW
  by_cases h : i % 50 = 49
  · have e : (i + 1) / 50 = i / 50 + 1 := by omega
    have hc : (l.take (i + 1)).drop (50 * (i / 50)) = chunk l (i / 50) := by
      unfold chunk
      rw [List.drop_take]
      congr 1
      omega
    have hn : txt l (i + 1) = [] := by
      apply List.length_eq_zero_iff.1
      rw [txt_length (by omega)]
      omega
    rw [if_neg (by omega), hs, hc, e, wBlk_ok h0, hn]
  · have e : (i + 1) / 50 = i / 50 := by omega
    have hn : txt l (i + 1) = recsB ((l.take (i + 1)).drop (50 * (i / 50))) := by rw [txt, e]
    rw [if_pos (by omega), hs, e, h0, hn]
    rfl
def nblk (l : List Rk) : Nat := (l.length + 49) / 50
theorem out_end {D : Dk} {nm : List UInt8} {l : List Rk} (h0 : (wBlk D nm l (l.length / 50)).1 = 0) : outW (wBlk D nm l (l.length / 50)).2 nm (txt l l.length) = wBlk D nm l (nblk l) := by
  have ht := txt_length (l := l) (i := l.length) (Nat.le_refl _)
  unfold outW nblk
  by_cases h : l.length % 50 = 0
  · rw [if_pos (by omega), show (l.length + 49) / 50 = l.length / 50 by omega]
    exact Prod.ext h0.symm rfl
  · rw [if_neg (by omega), show (l.length + 49) / 50 = l.length / 50 + 1 by omega, wBlk_ok h0]
    have : (l.take l.length).drop (50 * (l.length / 50)) = chunk l (l.length / 50) := by
      unfold chunk
      rw [List.take_length, List.take_of_length_le (by simp; omega)]
    rw [txt, this]
theorem close_end {D : Dk} {nm : List UInt8} {l : List Rk} (h0 : (wBlk D nm l (l.length / 50)).1 = 0) :
    closeW (wBlk D nm l (l.length / 50)).2 nm (txt l l.length) = if (wBlk D nm l (nblk l)).1 = 0 then syncD (wBlk D nm l (nblk l)).2 nm else wBlk D nm l (nblk l) := by
  rw [closeW, out_end h0]
theorem wBlk_stuck {D : Dk} {nm : List UInt8} {l : List Rk} {a : Nat} (h : (wBlk D nm l a).1 ≠ 0) : ∀ b, a ≤ b → wBlk D nm l b = wBlk D nm l a := by
  intro b hb
  induction b with
  | zero => obtain rfl : a = 0 := by omega
            rfl
  | succ b ih =>
    by_cases e : a = b + 1
    · rw [e]
    · have := ih (by omega)
      rw [wBlk, this, if_pos h]
/-- what Write does -/
def writeG (D : Dk) (nm : List UInt8) (l : List Rk) : Int × Dk :=
  if (createD D nm).1 ≠ 0 then createD D nm
  else if (wBlk (createD D nm).2 nm l (nblk l)).1 = 0 then syncD (wBlk (createD D nm).2 nm l (nblk l)).2 nm else wBlk (createD D nm).2 nm l (nblk l)
theorem Dw.writeG {n B : Nat} {D : Dk} (h : Dw n B D) (nm : List UInt8) (l : List Rk) : Dw (n + nblk l + 2) (B + 1006 * nblk l) (Go.Proofs.Ytbhaahohaccecaa.writeG D nm l).2 := by
  have h1 := h.create' nm
  have h2 := h1.blk nm l (nblk l)
  unfold Go.Proofs.Ytbhaahohaccecaa.writeG
  split
  · exact h1.mono (by omega) (by omega)
  · split
    · exact (h2.sync nm).mono (by omega) (by omega)
    · exact h2.mono (by omega) (by omega)

set_option maxHeartbeats 1000000 in
theorem write_spec {F : Fm} {db n B : Nat} {D : Dk} {s : Hl} (hD : DiskAt db D s) (hw : Dw n B D) (hn : n < 900) (hB : B ≤ 800000) (nm : List UInt8) {vl : Value} {l : List Rk} (ha : Arg recE F vl l) (hl : l.length ≤ 200) :
    Spec Try.prog 22 #[.pointer (some ⟨db, 0, none⟩), kS nm, vl] F s fun v s' => v = .int .i64 (writeG D nm l).1 ∧ DiskAt db (writeG D nm l).2 s' := by
  obtain ⟨p, c, rfl⟩ := ha.shape
  have hwc := hw.create' nm
  refine Spec.of (n := 36) (vs := [.pointer (some ⟨db, 0, none⟩), kS nm, .slice p l.length c]) Try.func22 rfl Try.ntmps22 rfl ?_
  refine Vc.seq ?_
  refine Vc.text (List.range 1) (sd [(0, .pure)]) rfl ?_
  refine Rg.pure rfl rfl rfl (Pv.assign rfl) ?_
  refine Rg.nil ?_
  refine Vc.seq ?_
  refine Vc.text (List.range 8) (sd [(0, .pure), (1, .pure), (2, .eff), (3, .pure), (4, .pure), (5, .pure), (6, .pure), (7, .pure)]) rfl ?_
  refine Rg.pure rfl rfl rfl (Pv.move rfl) ?_
  refine Rg.pure rfl rfl rfl (Pv.move rfl) ?_
  refine Rg.callH rfl rfl rfl (run_callF rfl) (fun F' hF' => newWriter_spec (F := F') hD hw (by omega) (by omega) nm) rfl ?_
  rintro _ _ ⟨pw, h1, h2, rfl, rfl, hD15, hW15⟩
  refine Rg.pure rfl rfl rfl (Pv.move rfl) ?_
  refine Rg.pure rfl rfl rfl (Pv.extract rfl rfl) ?_
  refine Rg.pure rfl rfl rfl (Pv.extract rfl rfl) ?_
  refine Rg.pure rfl rfl rfl (Pv.assign rfl) ?_
  refine Rg.pure rfl rfl rfl (Pv.assign rfl) ?_
  refine Rg.nil ?_
  refine Vc.seq ?_
  refine Vc.seq ?_
  refine Vc.text (List.range 2) (sd [(0, .pure), (1, .pure)]) rfl ?_
  refine Rg.pure rfl rfl rfl (Pv.move rfl) ?_
  refine Rg.pure rfl rfl rfl (Pv.neq rfl rfl) ?_
  refine Rg.nil ?_
  refine Vc.cond rfl (fun h19 => ?_) (fun h19 => ?_)
  ·
    simp only [bne_iff_ne, ne_eq] at h19
    have hg : writeG D nm l = createD D nm := by rw [writeG, if_pos h19]
    refine Vc.seq ?_
    refine Vc.text (List.range 2) (sd [(0, .pure), (1, .pure)]) rfl ?_
    refine Rg.pure rfl rfl rfl (Pv.move rfl) ?_
    refine Rg.pure rfl rfl rfl (Pv.assign rfl) ?_
    refine Rg.nil ?_
    exact Vc.ret (Vc.retsH (hl' := h2) (rest := h1) rfl (.cons (.tmp rfl) .nil) ⟨by rw [hg]; rfl, by rw [hg]; exact hD15⟩ ((List.Perm.of_eq (List.append_nil _)).trans List.perm_append_comm))
  ·
    simp only [bne_eq_false_iff_eq] at h19
    obtain ⟨wb, rfl, hW⟩ := hW15 h19
    rw [List.append_nil]
    have hg : writeG D nm l = if (wBlk (createD D nm).2 nm l (nblk l)).1 = 0 then syncD (wBlk (createD D nm).2 nm l (nblk l)).2 nm else wBlk (createD D nm).2 nm l (nblk l) := by rw [writeG, if_neg (by rw [h19]; decide)]
    generalize (createD D nm).2 = D1 at hD15 hwc hg
    refine Vc.skip ?_
    refine Vc.seq ?_
    refine Vc.seq ?_
    refine Vc.text (List.range 3) (sd [(0, .pure), (1, .pure), (2, .pure)]) rfl ?_
    refine Rg.pure rfl rfl rfl (Pv.move rfl) ?_
    refine Rg.pure rfl rfl rfl (Pv.lenS rfl) ?_
    refine Rg.pure rfl rfl rfl (Pv.move rfl) ?_
    refine Rg.nil ?_
    refine Vc.block ?_
    refine Vc.loop3 (fun (i : Nat) (s1 s2 : Hl) => i ≤ l.length ∧ (wBlk D1 nm l (i / 50)).1 = 0 ∧ WrAt wb db nm (txt l i) false s1 ∧ DiskAt db (wBlk D1 nm l (i / 50)).2 s2) (fun i s1 s2 => [(7, .pointer (some ⟨wb, 0, none⟩)), (21, .slice p l.length c), (22, .int .i64 (l.length : Int)), (23, .int .i64 (i : Int))]) (fun i s1 s2 => s1 ++ s2) (fun i s1 s2 => l.length - i) 0 h1 h2 ⟨Nat.zero_le _, rfl, hW, hD15⟩ (.cons rfl (.cons rfl (.cons rfl (.cons rfl .nil)))) pulled ?_
    rintro i s1 s2 ⟨hi, h0, hWi, hDi⟩
    have hwi := hwc.blk nm l (i / 50)
    have hti := txt_length (l := l) (i := i) hi
    refine Vc.seq ?_
    refine Vc.text (List.range 1) (sd [(0, .pure)]) rfl ?_
    refine Rg.pure rfl rfl rfl (Pv.lss rfl rfl) ?_
    refine Rg.nil ?_
    refine Vc.seq ?_
    refine Vc.cond rfl (fun h24 => ?_) (fun h24 => ?_)
    ·
      simp only [decide_eq_true_eq] at h24
      obtain ⟨b, off, c1, e, _⟩ := ha.block (by omega)
      cases e
      have hst := put_step (D := D1) (nm := nm) (l := l) (i := i) (by omega) h0
      refine Vc.skip ?_
      refine Vc.seq ?_
      refine Vc.block ?_
      refine Vc.seq ?_
      refine Vc.text (List.range 4) (sd [(0, .pure), (1, .read), (2, .eff), (3, .eff)]) rfl ?_
      refine Rg.pure rfl rfl rfl (Pv.ixA (i) rfl rfl (by omega) (by omega)) ?_
      refine Rg.read rfl rfl rfl (Ev.as (recV l[i]!) (Ev.ldS (E := recE) i ha.src rfl rfl rfl (by omega)) rfl) ?_
      refine Rg.alloc rfl rfl rfl rfl (fun b10 => ?_)
      refine Rg.storeA rfl rfl rfl rfl rfl rfl rfl rfl ?_
      refine Rg.nil ?_
      refine Vc.seq ?_
      refine Vc.text (List.range 4) (sd [(0, .pure), (1, .read), (2, .eff), (3, .pure)]) rfl ?_
      refine Rg.pure rfl rfl rfl (Pv.move rfl) ?_
      refine Rg.read rfl rfl rfl (Ev.ldA rfl rfl) ?_
      refine Rg.callH rfl rfl rfl (run_callF rfl) (fun F' hF' => put_w (F := F') hWi hDi hwi (by omega) (by omega) (by omega) l[i]!) rfl ?_
      rintro _ _ ⟨g1, g2, rfl, rfl, hD29, hW29⟩
      rw [hst] at hD29 hW29 ⊢
      refine Rg.pure rfl rfl rfl (Pv.assign rfl) ?_
      refine Rg.nil ?_
      refine Vc.seq ?_
      refine Vc.text (List.range 2) (sd [(0, .pure), (1, .pure)]) rfl ?_
      refine Rg.pure rfl rfl rfl (Pv.move rfl) ?_
      refine Rg.pure rfl rfl rfl (Pv.neq rfl rfl) ?_
      refine Rg.nil ?_
      refine Vc.cond rfl (fun h31 => ?_) (fun h31 => ?_)
      ·
        simp only [bne_iff_ne, ne_eq] at h31
        have h31' : (wBlk D1 nm l ((i + 1) / 50)).1 ≠ 0 := h31
        have hstk := wBlk_stuck h31' (nblk l) (by unfold nblk; omega)
        have hg2 : writeG D nm l = wBlk D1 nm l ((i + 1) / 50) := by rw [hg, hstk, if_neg h31']
        refine Vc.seq ?_
        refine Vc.text (List.range 2) (sd [(0, .pure), (1, .pure)]) rfl ?_
        refine Rg.pure rfl rfl rfl (Pv.move rfl) ?_
        refine Rg.pure rfl rfl rfl (Pv.assign rfl) ?_
        refine Rg.nil ?_
        exact Vc.ret (Vc.retsH (hl' := g2) (rest := g1 ++ [(b10, cellsO (recC l[i]!) 39)]) rfl (.cons (.tmp rfl) .nil) ⟨by rw [hg2]; rfl, by rw [hg2]; exact hD29⟩ (by rw [List.append_assoc]; exact List.perm_append_comm_assoc _ _ _))
      ·
        simp only [bne_eq_false_iff_eq] at h31
        have h31' : (wBlk D1 nm l ((i + 1) / 50)).1 = 0 := h31
        have hW29' : WrAt wb db nm (txt l (i + 1)) ((wBlk D1 nm l ((i + 1) / 50)).1 != 0) g1 := hW29
        rw [h31'] at hW29'
        refine Vc.skip ?_
        refine Vc.blk ?_
        refine Vc.text (List.range 2) (sd [(0, .pure), (1, .pure)]) rfl ?_
        refine Rg.pure rfl rfl rfl (Pv.asI (i + 1) (Pv.add rfl rfl (by omega)) (by omega)) ?_
        refine Rg.pure rfl rfl rfl (Pv.move rfl) ?_
        refine Rg.nil ?_
        exact Vc.inv3 (i + 1) g1 g2 ⟨⟨by omega, h31', hW29', hD29⟩, by omega⟩ (.cons rfl (.cons rfl (.cons rfl (.cons rfl .nil)))) pulled
    ·
      simp only [decide_eq_false_iff_not] at h24
      obtain rfl : i = l.length := by omega
      have hce := close_end h0
      refine Vc.exit rfl ?_
      refine Vc.seq ?_
      refine Vc.text (List.range 3) (sd [(0, .pure), (1, .eff), (2, .pure)]) rfl ?_
      refine Rg.pure rfl rfl rfl (Pv.move rfl) ?_
      refine Rg.callH rfl rfl rfl (run_callF rfl) (fun F' hF' => close_w (F := F') hWi hDi hwi (by omega) (by omega) (by omega)) rfl ?_
      rintro _ _ ⟨g1, g2, rfl, rfl, hD35, hW35⟩
      rw [hce, ← hg] at hD35 ⊢
      refine Rg.pure rfl rfl rfl (Pv.assign rfl) ?_
      refine Rg.nil ?_
      exact Vc.ret (Vc.retsH (hl' := g2) (rest := g1) rfl (.cons (.tmp rfl) .nil) ⟨rfl, hD35⟩ ((List.Perm.of_eq (List.append_nil _)).trans List.perm_append_comm))
end Go.Proofs.Ytbhaahohaccecaa

namespace Go.Proofs.Ytbhaahohaccecaa
set_option linter.unusedVariables false

theorem Tl.from {α : Type} {E : Enc α} {p : Option Addr} {m c : Nat} {xs : List α} {seg : Hl} (h : Tl E (.slice p m c) xs seg) {k : Nat} (hk : k ≤ xs.length) (h0 : 0 < xs.length) : Tl E (.slice (if c = k then p else p.map (·.add (k * E.k))) (m - k) (c - k)) (xs.drop k) seg := by
  generalize hv : Value.slice p m c = v at h
  cases h with
  | nil => simp at h0
  | blk b off cc _ zs sp h hc =>
    cases hv
    have := Tl.blk (E := E) b (if c = k then off else off + k * E.k) (c - k) (xs.drop k) zs sp (by
      by_cases h1 : c = k
      · left; exact List.drop_eq_nil_of_le (by omega)
      · rcases h with rfl | ⟨j, rfl, e⟩
        · simp at h0
        · right; exact ⟨j + k, by rw [if_neg h1, Nat.add_mul], by rw [e, List.drop_drop]⟩) (by simp; omega)
    rw [List.length_drop] at this
    by_cases h1 : c = k
    · rw [if_pos h1] at this ⊢; exact this
    · rw [if_neg h1] at this ⊢
      simpa [addr_add] using this
theorem Tl.cap {α : Type} {E : Enc α} {p : Option Addr} {m c : Nat} {xs : List α} {seg : Hl} (h : Tl E (.slice p m c) xs seg) : xs.length ≤ c := by
  generalize hv : Value.slice p m c = v at h
  cases h with
  | nil => cases hv; exact Nat.zero_le _
  | blk b off cc _ zs sp h hc => cases hv; exact hc
theorem Tl.one {α : Type} {E : Enc α} {v : Value} {xs : List α} {seg : Hl} (h : Tl E v xs seg) : v.oneCell' = true := by
  cases h <;> rfl

/-- a disk that is up, not armed -/
structure Up (D : Dk) : Prop where
  armed : D.armed = 0
  down : D.down = false
def bump (D : Dk) (k : Int) : Dk := { D with ops := D.ops + k }
theorem Up.begins {D : Dk} (h : Up D) : beginsD D = (0, bump D 1) := begins_up h.armed h.down
theorem Up.bump {D : Dk} (h : Up D) (k : Int) : Up (bump D k) := ⟨h.armed, h.down⟩
theorem bump_bump (D : Dk) (j k : Int) : bump (bump D j) k = bump D (j + k) := by
  unfold bump
  simp only [Int.add_assoc]
theorem bump_zero (D : Dk) : bump D 0 = D := by
  unfold bump
  rw [Int.add_zero]
theorem Up.read {D : Dk} (h : Up D) {nm : List UInt8} {f : Fl} (hf : findF D.files nm = some f) {a m : Nat} (ham : a + m ≤ f.now.length) : readD D nm a m = ((f.now.drop a).take m, 0) := by
  have hf' : findF (Go.Proofs.Ytbhaahohaccecaa.bump D 1).files nm = some f := hf
  simp only [readD, h.begins, hf']
  rw [if_neg (by decide), if_neg (by omega), Int.toNat_natCast, Int.toNat_natCast]
theorem Up.size {D : Dk} (h : Up D) {nm : List UInt8} {f : Fl} (hf : findF D.files nm = some f) : sizeD D nm = (((f.now.length : Nat) : Int), 0) := by
  have hf' : findF (Go.Proofs.Ytbhaahohaccecaa.bump D 1).files nm = some f := hf
  simp only [sizeD, h.begins, hf']
  rfl
theorem Up.sizeN {D : Dk} (h : Up D) {nm : List UInt8} (hf : findF D.files nm = none) : sizeD D nm = (0, 4) := by
  have hf' : findF (Go.Proofs.Ytbhaahohaccecaa.bump D 1).files nm = none := hf
  simp only [sizeD, h.begins, hf']
  rfl
theorem Dw.bump {n B : Nat} {D : Dk} (h : Dw n B D) (k : Nat) : Dw (n + k) B (Go.Proofs.Ytbhaahohaccecaa.bump D k) :=
  ⟨h.nodup, Nat.le_trans h.cnt (by omega), h.few, h.used, ⟨by show 0 ≤ D.ops + k; have := h.ops; omega, by show D.ops + k ≤ _; have := h.ops; omega⟩, h.armed⟩

structure Rs where
  at_ : Nat
  size : Nat
  text : List UInt8
  short : Bool
  err : Nat
def RdAt (rb db : Nat) (nm : List UInt8) (R : Rs) (hl : Hl) : Prop := ∃ tv s, Tl byteE tv R.text s ∧ hl.Perm ((rb, cellsO [.pointer (some ⟨db, 0, none⟩), kS nm, .int .i64 (R.at_ : Int), .int .i64 (R.size : Int), tv, .bool R.short, .int .i64 (R.err : Int)] 86) :: s)
/-- what holds of a reader of bytes c -/
structure Rok (c : List UInt8) (R : Rs) : Prop where
  m16 : R.text.length % 16 = 0
  few : R.text.length ≤ 800
  at_ : R.at_ ≤ R.size
  size : R.size ≤ c.length
  err : R.err ≠ 0 → R.text = []
def inG (c : List UInt8) (R : Rs) : Nat × Rs :=
  let d := decG ((c.drop R.at_).take (min 1006 (R.size - R.at_)))
  if d.2.2 ≠ 0 then (d.2.2, R) else if d.1.length = 0 ∨ d.1.length % 16 ≠ 0 ∨ 800 < d.1.length ∨ R.short = true then (2, R) else (0, { R with at_ := R.at_ + d.2.1, text := d.1, short := decide (d.1.length < 800) })
def wants (R : Rs) : Bool := decide (R.err = 0) && (decide (R.text.length = 0) && decide (R.at_ < R.size))
def fillR (c : List UInt8) (R : Rs) : Rs := if wants R = true then { (inG c R).2 with err := (inG c R).1 } else R
def opsR (R : Rs) : Nat := if wants R = true then 1 else 0
def nextG (c : List UInt8) (R : Rs) : Rk × Bool × Nat × Rs :=
  let R1 := fillR c R
  if R1.err ≠ 0 ∨ R1.text.length = 0 then (⟨0, 0⟩, false, R1.err, R1) else (⟨getB R1.text 0 8, getB R1.text 8 8⟩, true, 0, { R1 with text := R1.text.drop 16 })
theorem decG_le {b : List UInt8} (h : (decG b).2.2 = 0) : (decG b).2.1 ≤ b.length := by
  unfold decG at h ⊢
  split
  · exact Nat.zero_le _
  · rename_i h2
    rw [if_neg h2] at h
    split
    · exact Nat.zero_le _
    · rename_i h3
      rw [if_neg h3] at h
      split
      · exact Nat.zero_le _
      · simp only
        omega
theorem inG_ok {c : List UInt8} {R : Rs} (h : Rok c R) : (inG c R).2.size = R.size ∧ (inG c R).2.at_ ≤ R.size ∧ (inG c R).2.text.length % 16 = 0 ∧ (inG c R).2.text.length ≤ 800 ∧ ((inG c R).1 ≠ 0 → (inG c R).2 = R) := by
  simp only [inG]
  split
  · exact ⟨rfl, h.at_, h.m16, h.few, fun _ => rfl⟩
  · rename_i h1
    split
    · exact ⟨rfl, h.at_, h.m16, h.few, fun _ => rfl⟩
    · rename_i h2
      have := decG_le (Classical.not_not.1 h1)
      simp only [List.length_take, List.length_drop] at this
      refine ⟨rfl, ?_, ?_, ?_, fun h => absurd rfl h⟩
      · show R.at_ + _ ≤ _
        have := h.at_
        omega
      · show (decG _).1.length % 16 = 0
        omega
      · show (decG _).1.length ≤ 800
        omega
theorem fill_ok {c : List UInt8} {R : Rs} (h : Rok c R) : Rok c (fillR c R) := by
  unfold fillR
  split
  · rename_i hw
    obtain ⟨h1, h2, h3, h4, h5⟩ := inG_ok h
    have ht : R.text.length = 0 := by
      simp only [wants, Bool.and_eq_true, decide_eq_true_eq] at hw
      exact hw.2.1
    refine ⟨h3, h4, by show (inG c R).2.at_ ≤ (inG c R).2.size; omega, by show (inG c R).2.size ≤ _; rw [h1]; exact h.size, fun he => ?_⟩
    show (inG c R).2.text = []
    rw [h5 he]
    exact List.length_eq_zero_iff.1 ht
  · exact h
theorem next_ok {c : List UInt8} {R : Rs} (h : Rok c R) : Rok c (nextG c R).2.2.2 := by
  have h1 := fill_ok h
  simp only [nextG]
  split
  · exact h1
  · rename_i h2
    have hm := h1.m16
    have hf := h1.few
    refine ⟨?_, ?_, h1.at_, h1.size, fun he => absurd (Or.inl he) h2⟩
    · show ((fillR c R).text.drop 16).length % 16 = 0
      rw [List.length_drop]; omega
    · show ((fillR c R).text.drop 16).length ≤ 800
      rw [List.length_drop]; omega

theorem newReader_spec {F : Fm} {db n B : Nat} {D : Dk} {s : Hl} (hD : DiskAt db D s) (hw : Dw n B D) (hn : n < 1000) (hB : B ≤ 1000000) (nm : List UInt8) {m e : Int} (hE : sizeD D nm = (m, e)) :
    Spec Try.prog 16 #[.pointer (some ⟨db, 0, none⟩), kS nm] F s fun v s' => ∃ p h1 h2, v = .tuple #[.pointer p, .int .i64 e] ∧ s' = h1 ++ h2 ∧ DiskAt db (beginsD D).2 h2 ∧ Dw (n + 1) B (beginsD D).2 ∧ (e = 0 → ∃ rb, p = some ⟨rb, 0, none⟩ ∧ ∀ k : Nat, m = k → RdAt rb db nm ⟨0, k, [], false, 0⟩ h1) := by
  refine Spec.of (n := 22) (vs := [.pointer (some ⟨db, 0, none⟩), kS nm]) Try.func16 rfl Try.ntmps16 rfl ?_
  refine Vc.seq ?_
  refine Vc.text (List.range 2) (sd [(0, .pure), (1, .pure)]) rfl ?_
  refine Rg.pure rfl rfl rfl (Pv.assign rfl) ?_
  refine Rg.pure rfl rfl rfl (Pv.assign rfl) ?_
  refine Rg.nil ?_
  refine Vc.seq ?_
  refine Vc.text (List.range 8) (sd [(0, .pure), (1, .pure), (2, .eff), (3, .pure), (4, .pure), (5, .pure), (6, .pure), (7, .pure)]) rfl ?_
  refine Rg.pure rfl rfl rfl (Pv.move rfl) ?_
  refine Rg.pure rfl rfl rfl (Pv.move rfl) ?_
  refine Rg.callH rfl rfl rfl (run_callF rfl) (fun F' hF' => size_w (F := F') hD hw hn hB nm hE rfl) rfl ?_
  rintro _ s11 ⟨rfl, hD11, hw11⟩
  rw [List.append_nil]
  refine Rg.pure rfl rfl rfl (Pv.move rfl) ?_
  refine Rg.pure rfl rfl rfl (Pv.extract rfl rfl) ?_
  refine Rg.pure rfl rfl rfl (Pv.extract rfl rfl) ?_
  refine Rg.pure rfl rfl rfl (Pv.assign rfl) ?_
  refine Rg.pure rfl rfl rfl (Pv.assign rfl) ?_
  refine Rg.nil ?_
  refine Vc.seq ?_
  refine Vc.seq ?_
  refine Vc.text (List.range 2) (sd [(0, .pure), (1, .pure)]) rfl ?_
  refine Rg.pure rfl rfl rfl (Pv.move rfl) ?_
  refine Rg.pure rfl rfl rfl (Pv.neq rfl rfl) ?_
  refine Rg.nil ?_
  refine Vc.cond rfl (fun h15 => ?_) (fun h15 => ?_)
  ·
    simp only [bne_iff_ne, ne_eq] at h15
    refine Vc.seq ?_
    refine Vc.text (List.range 3) (sd [(0, .pure), (1, .pure), (2, .pure)]) rfl ?_
    refine Rg.pure rfl rfl rfl (Pv.move rfl) ?_
    refine Rg.pure rfl rfl rfl (Pv.assign rfl) ?_
    refine Rg.pure rfl rfl rfl (Pv.assign rfl) ?_
    refine Rg.nil ?_
    exact Vc.ret (Vc.retsH rfl (.cons (.tmp rfl) (.cons (.tmp rfl) (.nil))) (⟨none, [], s11, rfl, rfl, hD11, hw11, fun h => absurd h h15⟩) pulled)
  ·
    simp only [bne_eq_false_iff_eq] at h15
    refine Vc.skip ?_
    refine Vc.seq ?_
    refine Vc.text (List.range 7) (sd [(0, .pure), (1, .pure), (2, .pure), (3, .pure), (4, .eff), (5, .pure), (6, .pure)]) rfl ?_
    refine Rg.pure rfl rfl rfl (Pv.move rfl) ?_
    refine Rg.pure rfl rfl rfl (Pv.move rfl) ?_
    refine Rg.pure rfl rfl rfl (Pv.move rfl) ?_
    refine Rg.pure rfl rfl rfl (Pv.build (c := #[.pointer (some ⟨db, 0, none⟩), kS nm, .int .i64 0, .int .i64 m, .slice none 0 0, .bool false, .int .i64 0]) rfl rfl) ?_
    refine Rg.box rfl rfl rfl rfl rfl (fun b21 => ?_)
    refine Rg.pure rfl rfl rfl (Pv.assign rfl) ?_
    refine Rg.pure rfl rfl rfl (Pv.assign rfl) ?_
    refine Rg.nil ?_
    exact Vc.ret (Vc.retsH rfl (.cons (.tmp rfl) (.cons (.tmp rfl) (.nil))) (⟨some ⟨b21, 0, none⟩, [(b21, cellsO [.pointer (some ⟨db, 0, none⟩), kS nm, .int .i64 0, .int .i64 m, .slice none 0 0, .bool false, .int .i64 0] 86)], s11, by rw [h15]; rfl, rfl, hD11, hw11, fun _ => ⟨b21, rfl, fun k hk => ⟨.slice none 0 0, [], .nil, by rw [hk]; exact .refl _⟩⟩⟩) pulled)
set_option maxHeartbeats 2000000 in
theorem in_spec {F : Fm} {rb db n B : Nat} {D : Dk} {nm : List UInt8} {R : Rs} {f : Fl} {s1 s2 : Hl} (hR : RdAt rb db nm R s1) (hD : DiskAt db D s2) (hw : Dw n B D) (hn : n < 1000) (hB : B ≤ 1000000) (hup : Up D) (hf : findF D.files nm = some f) (hok : Rok f.now R) :
    Spec Try.prog 36 #[.pointer (some ⟨rb, 0, none⟩)] F (s1 ++ s2) fun v s' => ∃ h1 h2, v = .int .i64 ((inG f.now R).1 : Int) ∧ s' = h1 ++ h2 ∧ DiskAt db (bump D 1) h2 ∧ RdAt rb db nm (inG f.now R).2 h1 := by
  obtain ⟨tv, s, own, hp⟩ := hR
  have hat := hok.at_
  have hsz := hok.size
  have hfl := (hw.find hf).1
  refine Spec.perm ?_ (hp.append_right s2)
  rw [List.cons_append]
  obtain ⟨m, hm⟩ : ∃ m, m = min 1006 (R.size - R.at_) := ⟨_, rfl⟩
  obtain ⟨b, hb⟩ : ∃ b, b = (f.now.drop R.at_).take m := ⟨_, rfl⟩
  have hbl : b.length = m := by rw [hb]; simp; omega
  have hin : inG f.now R = if (decG b).2.2 ≠ 0 then ((decG b).2.2, R) else if (decG b).1.length = 0 ∨ (decG b).1.length % 16 ≠ 0 ∨ 800 < (decG b).1.length ∨ R.short = true then (2, R) else (0, { R with at_ := R.at_ + (decG b).2.1, text := (decG b).1, short := decide ((decG b).1.length < 800) }) := by rw [hb, hm]; rfl
  have hdl : (decG b).2.2 = 0 → (decG b).2.1 ≤ b.length := decG_le
  refine Spec.of (n := 84) (vs := [.pointer (some ⟨rb, 0, none⟩)]) Try.func36 rfl Try.ntmps36 rfl ?_
  refine Vc.seq ?_
  refine Vc.text (List.range 1) (sd [(0, .pure)]) rfl ?_
  refine Rg.pure rfl rfl rfl (Pv.assign rfl) ?_
  refine Rg.nil ?_
  refine Vc.seq ?_
  refine Vc.draw [22] (sd [(0, .pure), (1, .pure), (2, .pure), (3, .read), (4, .pure), (5, .pure), (6, .pure), (7, .read), (8, .pure), (9, .pure), (10, .pure), (11, .read), (12, .pure), (13, .pure), (14, .pure), (15, .read), (16, .pure), (17, .pure), (18, .pure), (19, .read), (20, .pure), (21, .pure), (22, .eff), (23, .pure), (24, .pure), (25, .pure), (26, .pure), (27, .pure)]) mixed (by kernel_rfl) ?_
  refine Rg.pure rfl rfl rfl (Pv.move rfl) ?_
  refine Rg.pure rfl rfl rfl (Pv.nilp rfl) ?_
  refine Rg.pure rfl rfl rfl (Pv.fa rfl) ?_
  refine Rg.read rfl rfl rfl (Ev.ld rfl rfl) ?_
  refine Rg.pure rfl rfl rfl (Pv.move rfl) ?_
  refine Rg.pure rfl rfl rfl (Pv.nilp rfl) ?_
  refine Rg.pure rfl rfl rfl (Pv.fa rfl) ?_
  refine Rg.read rfl rfl rfl (Ev.ld rfl rfl) ?_
  refine Rg.pure rfl rfl rfl (Pv.move rfl) ?_
  refine Rg.pure rfl rfl rfl (Pv.nilp rfl) ?_
  refine Rg.pure rfl rfl rfl (Pv.fa rfl) ?_
  refine Rg.read rfl rfl rfl (Ev.ld rfl rfl) ?_
  refine Rg.pure rfl rfl rfl (Pv.move rfl) ?_
  refine Rg.pure rfl rfl rfl (Pv.nilp rfl) ?_
  refine Rg.pure rfl rfl rfl (Pv.fa rfl) ?_
  refine Rg.read rfl rfl rfl (Ev.ld rfl rfl) ?_
  refine Rg.pure rfl rfl rfl (Pv.move rfl) ?_
  refine Rg.pure rfl rfl rfl (Pv.nilp rfl) ?_
  refine Rg.pure rfl rfl rfl (Pv.fa rfl) ?_
  refine Rg.read rfl rfl rfl (Ev.ld rfl rfl) ?_
  refine Rg.pure rfl rfl rfl (Pv.asI (R.size - R.at_) (Pv.sub rfl rfl (by omega)) (by omega)) ?_
  refine Rg.pure rfl rfl rfl (Pv.asI (m) (Pv.min rfl rfl) (by omega)) ?_
  refine Rg.callH rfl rfl rfl (run_callF rfl) (fun F' hF' => readAt_w (F := F') hD hw hn hB nm (R.at_ : Int) (m : Int) (bs := b) (e := 0) (by rw [hb]; exact hup.read hf (by omega)) (congrArg Prod.snd hup.begins)) rfl ?_
  rintro _ _ ⟨u30, q30, s30, rfl, own30, hD30, hw30, rfl⟩
  rw [List.append_assoc]
  refine Rg.pure rfl rfl rfl (Pv.move rfl) ?_
  refine Rg.pure rfl rfl rfl (Pv.extract rfl rfl) ?_
  refine Rg.pure rfl rfl rfl (Pv.extract rfl rfl) ?_
  refine Rg.pure rfl rfl rfl (Pv.assign rfl) ?_
  refine Rg.pure rfl rfl rfl (Pv.assign rfl) ?_
  refine Rg.nil ?_
  refine Vc.seq ?_
  refine Vc.seq ?_
  refine Vc.text (List.range 2) (sd [(0, .pure), (1, .pure)]) rfl ?_
  refine Rg.pure rfl rfl rfl (Pv.move rfl) ?_
  refine Rg.pure rfl rfl rfl (Pv.neq rfl rfl) ?_
  refine Rg.nil ?_
  refine Vc.cond rfl (fun h34 => absurd h34 (by decide)) (fun h34 => ?_)
  refine Vc.skip ?_
  refine Vc.seq ?_
  refine Vc.text (List.range 9) (sd [(0, .pure), (1, .eff), (2, .pure), (3, .pure), (4, .pure), (5, .pure), (6, .pure), (7, .pure), (8, .pure)]) rfl ?_
  refine Rg.pure rfl rfl rfl (Pv.move rfl) ?_
  refine Rg.callA rfl rfl rfl (run_callF rfl) (decode_spec (Arg.own own30 frz_sb) (by omega)) ?_
  rintro _ s38 ⟨u38, rfl, own38⟩
  generalize decG b = d at hin hdl own38 ⊢
  obtain ⟨t, k, e⟩ := d
  simp only at hin hdl own38 ⊢
  obtain ⟨pt, ct, rfl⟩ := own38.shape
  refine Rg.pure rfl rfl rfl (Pv.move rfl) ?_
  refine Rg.pure rfl rfl rfl (Pv.extract rfl rfl) ?_
  refine Rg.pure rfl rfl rfl (Pv.extract rfl rfl) ?_
  refine Rg.pure rfl rfl rfl (Pv.extract rfl rfl) ?_
  refine Rg.pure rfl rfl rfl (Pv.assign rfl) ?_
  refine Rg.pure rfl rfl rfl (Pv.assign rfl) ?_
  refine Rg.pure rfl rfl rfl (Pv.assign rfl) ?_
  refine Rg.nil ?_
  refine Vc.seq ?_
  refine Vc.seq ?_
  refine Vc.text (List.range 2) (sd [(0, .pure), (1, .pure)]) rfl ?_
  refine Rg.pure rfl rfl rfl (Pv.move rfl) ?_
  refine Rg.pure rfl rfl rfl (Pv.neq rfl rfl) ?_
  refine Rg.nil ?_
  refine Vc.cond rfl (fun h43 => ?_) (fun h43 => ?_)
  ·
    simp only [bne_iff_ne, ne_eq] at h43
    rw [if_pos (by omega)] at hin
    refine Vc.seq ?_
    refine Vc.text (List.range 2) (sd [(0, .pure), (1, .pure)]) rfl ?_
    refine Rg.pure rfl rfl rfl (Pv.move rfl) ?_
    refine Rg.pure rfl rfl rfl (Pv.assign rfl) ?_
    refine Rg.nil ?_
    exact Vc.ret (Vc.retsH rfl (.cons (.tmp rfl) (.nil)) (⟨(rb, _) :: s, s30, by rw [hin]; rfl, rfl, hD30, by rw [hin]; exact ⟨tv, s, own, .refl _⟩⟩) pulled)
  ·
    simp only [bne_eq_false_iff_eq] at h43
    have he0 : e = 0 := by omega
    rw [if_neg (by omega)] at hin
    have hk := hdl he0
    refine Vc.skip ?_
    refine Vc.seq ?_
    refine Vc.seq ?_
    refine Vc.cut1 (fun (bb : Bool) => (bb = true → t.length = 0 ∨ t.length % 16 ≠ 0 ∨ 800 < t.length ∨ R.short = true) ∧ (bb = false → ¬ (t.length = 0 ∨ t.length % 16 ≠ 0 ∨ 800 < t.length ∨ R.short = true))) (fun bb => [(64, .bool bb), (0, .pointer (some ⟨rb, 0, none⟩)), (5, .slice pt t.length ct), (6, .int .i64 (k : Int))]) (fun bb => (rb, cellsO [.pointer (some ⟨db, 0, none⟩), kS nm, .int .i64 (R.at_ : Int), .int .i64 (R.size : Int), tv, .bool R.short, .int .i64 (R.err : Int)] 86) :: (s38 ++ (s30 ++ s))) ?_ ?_
    ·
      refine Vc.text (List.range 20) (sd [(0, .pure), (1, .pure), (2, .pure), (3, .pure), (4, .pure), (5, .pure), (6, .pure), (7, .pure), (8, .pure), (9, .pure), (10, .pure), (11, .pure), (12, .pure), (13, .pure), (14, .pure), (15, .pure), (16, .pure), (17, .pure), (18, .read), (19, .pure)]) rfl ?_
      refine Rg.pure rfl rfl rfl (Pv.move rfl) ?_
      refine Rg.pure rfl rfl rfl (Pv.lenS rfl) ?_
      refine Rg.pure rfl rfl rfl (Pv.eql rfl rfl) ?_
      refine Rg.pure rfl rfl rfl (Pv.move rfl) ?_
      refine Rg.split (t := 48) rfl (fun h48 => ?_) (fun h48 => ?_)
      ·
        simp only [beq_iff_eq] at h48
        iterate 4 (first | refine Rg.skipP rfl rfl rfl ?_ | refine Rg.skipR rfl rfl rfl ?_ | refine Rg.skipE rfl rfl rfl ?_)
        refine Rg.pure rfl rfl rfl (Pv.pickT rfl rfl) ?_
        refine Rg.pure rfl rfl rfl (Pv.move rfl) ?_
        iterate 3 (first | refine Rg.skipP rfl rfl rfl ?_ | refine Rg.skipR rfl rfl rfl ?_ | refine Rg.skipE rfl rfl rfl ?_)
        refine Rg.pure rfl rfl rfl (Pv.pickT rfl rfl) ?_
        refine Rg.pure rfl rfl rfl (Pv.move rfl) ?_
        iterate 4 (first | refine Rg.skipP rfl rfl rfl ?_ | refine Rg.skipR rfl rfl rfl ?_ | refine Rg.skipE rfl rfl rfl ?_)
        refine Rg.pure rfl rfl rfl (Pv.pickT rfl rfl) ?_
        refine Rg.nil ?_
        exact Vc.inv1 true ⟨fun _ => .inl (by omega), fun h => by cases h⟩ (.cons rfl (.cons rfl (.cons rfl (.cons rfl .nil)))) pulled
      ·
        simp only [beq_eq_false_iff_ne, ne_eq] at h48
        refine Rg.pure rfl rfl rfl (Pv.move rfl) ?_
        refine Rg.pure rfl rfl rfl (Pv.lenS rfl) ?_
        refine Rg.pure rfl rfl rfl (Pv.asI (t.length % 16) (Pv.rem rfl rfl (by omega)) (by omega)) ?_
        refine Rg.pure rfl rfl rfl (Pv.neq rfl rfl) ?_
        refine Rg.pure rfl rfl rfl (Pv.pickF rfl rfl) ?_
        refine Rg.pure rfl rfl rfl (Pv.move rfl) ?_
        refine Rg.split (t := 54) rfl (fun h54 => ?_) (fun h54 => ?_)
        ·
          try simp only [bne_iff_ne, ne_eq] at h54
          iterate 3 (first | refine Rg.skipP rfl rfl rfl ?_ | refine Rg.skipR rfl rfl rfl ?_ | refine Rg.skipE rfl rfl rfl ?_)
          refine Rg.pure rfl rfl rfl (Pv.pickT rfl rfl) ?_
          refine Rg.pure rfl rfl rfl (Pv.move rfl) ?_
          iterate 4 (first | refine Rg.skipP rfl rfl rfl ?_ | refine Rg.skipR rfl rfl rfl ?_ | refine Rg.skipE rfl rfl rfl ?_)
          refine Rg.pure rfl rfl rfl (Pv.pickT rfl rfl) ?_
          refine Rg.nil ?_
          exact Vc.inv1 true ⟨fun _ => .inr (.inl (by omega)), fun h => by cases h⟩ (.cons rfl (.cons rfl (.cons rfl (.cons rfl .nil)))) pulled
        ·
          simp only [bne_eq_false_iff_eq] at h54
          refine Rg.pure rfl rfl rfl (Pv.move rfl) ?_
          refine Rg.pure rfl rfl rfl (Pv.lenS rfl) ?_
          refine Rg.pure rfl rfl rfl (Pv.gtr rfl rfl) ?_
          refine Rg.pure rfl rfl rfl (Pv.pickF rfl rfl) ?_
          refine Rg.pure rfl rfl rfl (Pv.move rfl) ?_
          refine Rg.split (t := 59) rfl (fun h59 => ?_) (fun h59 => ?_)
          ·
            try simp only [decide_eq_true_eq] at h59
            iterate 4 (first | refine Rg.skipP rfl rfl rfl ?_ | refine Rg.skipR rfl rfl rfl ?_ | refine Rg.skipE rfl rfl rfl ?_)
            refine Rg.pure rfl rfl rfl (Pv.pickT rfl rfl) ?_
            refine Rg.nil ?_
            exact Vc.inv1 true ⟨fun _ => .inr (.inr (.inl (by omega))), fun h => by cases h⟩ (.cons rfl (.cons rfl (.cons rfl (.cons rfl .nil)))) pulled
          ·
            simp only [decide_eq_false_iff_not] at h59
            refine Rg.pure rfl rfl rfl (Pv.move rfl) ?_
            refine Rg.pure rfl rfl rfl (Pv.nilp rfl) ?_
            refine Rg.pure rfl rfl rfl (Pv.fa rfl) ?_
            refine Rg.read rfl rfl rfl (Ev.ld rfl rfl) ?_
            refine Rg.pure rfl rfl rfl (Pv.pickF rfl rfl) ?_
            refine Rg.nil ?_
            exact Vc.inv1 R.short ⟨fun h => .inr (.inr (.inr h)), fun h hh => by rcases hh with h1 | h1 | h1 | h1; omega; omega; omega; rw [h] at h1; cases h1⟩ (.cons rfl (.cons rfl (.cons rfl (.cons rfl .nil)))) pulled
    ·
      rintro bb ⟨hb1, hb2⟩
      refine Vc.cond rfl (fun h64 => ?_) (fun h64 => ?_)
      ·
        rw [if_pos (hb1 h64)] at hin
        refine Vc.seq ?_
        refine Vc.text (List.range 1) (sd [(0, .pure)]) rfl ?_
        refine Rg.pure rfl rfl rfl (Pv.assign rfl) ?_
        refine Rg.nil ?_
        exact Vc.ret (Vc.retsH rfl (.cons (.tmp rfl) (.nil)) (⟨(rb, _) :: s, s30, by rw [hin]; rfl, rfl, hD30, by rw [hin]; exact ⟨tv, s, own, .refl _⟩⟩) pulled)
      ·
        have hno := hb2 h64
        rw [if_neg hno] at hin
        refine Vc.skip ?_
        refine Vc.seq ?_
        refine Vc.text (List.range 22) (sd [(0, .pure), (1, .pure), (2, .pure), (3, .pure), (4, .pure), (5, .pure), (6, .read), (7, .pure), (8, .pure), (9, .pure), (10, .pure), (11, .pure), (12, .pure), (13, .pure), (14, .pure), (15, .eff), (16, .pure), (17, .pure), (18, .eff), (19, .pure), (20, .pure), (21, .eff)]) rfl ?_
        refine Rg.pure rfl rfl rfl (Pv.move rfl) ?_
        refine Rg.pure rfl rfl rfl (Pv.move rfl) ?_
        refine Rg.pure rfl rfl rfl (Pv.move rfl) ?_
        refine Rg.pure rfl rfl rfl (Pv.move rfl) ?_
        refine Rg.pure rfl rfl rfl (Pv.nilp rfl) ?_
        refine Rg.pure rfl rfl rfl (Pv.fa rfl) ?_
        refine Rg.read rfl rfl rfl (Ev.ld rfl rfl) ?_
        refine Rg.pure rfl rfl rfl (Pv.move rfl) ?_
        refine Rg.pure rfl rfl rfl (Pv.asI (R.at_ + k) (Pv.add rfl rfl (by omega)) (by omega)) ?_
        refine Rg.pure rfl rfl rfl (Pv.move rfl) ?_
        refine Rg.pure rfl rfl rfl (Pv.move rfl) ?_
        refine Rg.pure rfl rfl rfl (Pv.lenS rfl) ?_
        refine Rg.pure rfl rfl rfl (Pv.lss rfl rfl) ?_
        refine Rg.pure rfl rfl rfl (Pv.nilp rfl) ?_
        refine Rg.pure rfl rfl rfl (Pv.fa rfl) ?_
        refine Rg.store rfl rfl rfl rfl rfl rfl rfl rfl ?_
        refine Rg.pure rfl rfl rfl (Pv.nilp rfl) ?_
        refine Rg.pure rfl rfl rfl (Pv.fa rfl) ?_
        refine Rg.store rfl rfl rfl rfl rfl rfl rfl rfl ?_
        refine Rg.pure rfl rfl rfl (Pv.nilp rfl) ?_
        refine Rg.pure rfl rfl rfl (Pv.fa rfl) ?_
        refine Rg.store rfl rfl rfl rfl rfl rfl rfl rfl ?_
        refine Rg.nil ?_
        refine Vc.seq ?_
        refine Vc.text (List.range 1) (sd [(0, .pure)]) rfl ?_
        refine Rg.pure rfl rfl rfl (Pv.assign rfl) ?_
        refine Rg.nil ?_
        exact Vc.ret (Vc.retsH rfl (.cons (.tmp rfl) (.nil)) (⟨(rb, cellsO [.pointer (some ⟨db, 0, none⟩), kS nm, .int .i64 ((R.at_ + k : Nat) : Int), .int .i64 (R.size : Int), .slice pt t.length ct, .bool (decide ((t.length : Int) < 800)), .int .i64 (R.err : Int)] 86) :: s38, s30, by rw [hin]; rfl, rfl, hD30, by rw [hin]; exact ⟨.slice pt t.length ct, s38, own38.tl, by rw [show decide ((t.length : Int) < 800) = decide (t.length < 800) by rw [Bool.eq_iff_iff, decide_eq_true_eq, decide_eq_true_eq]; omega]⟩⟩) pulled)
end Go.Proofs.Ytbhaahohaccecaa

namespace Go.Proofs.Ytbhaahohaccecaa
set_option linter.unusedVariables false

theorem St.perm {F : Fm} {h1 h2 : Hl} (hp : h1.Perm h2) : St F h1 = St F h2 := funext fun w => propext ⟨fun ⟨hn, h⟩ => ⟨hn, h.perm (hp.append_left hn)⟩, fun ⟨hn, h⟩ => ⟨hn, h.perm (hp.symm.append_left hn)⟩⟩
/-- A region goes on where its blocks stand in another order. -/
theorem Rg.perm2 {P : Program} {Qf : Exit → Act → World → Prop} {n : Nf} {F : Fm} {ks : List KItem} {ops : List Oper} {clr : List Nat} {r : Sd} {l : Env} {h1 h2 : Hl} (hp : h1.Perm h2) (h : Rg P Qf n F ks ops clr h2 r l h2) : Rg P Qf n F ks ops clr h1 r l h1 := fun a w hf hh => by
  rw [St.perm hp]
  exact h a w hf (hh.perm hp)

section
variable {P : Program} {n : Nf} {F : Fm} {l : Env} {hl : Hl} {ty : TypeId} {pos : String} {af : Array Edge} {g : Option (Nat × Bool)}
variable {Qf : Exit → Act → World → Prop} {ks : List KItem} {ops : List Oper} {clr : List Nat} {hs : Hl} {r : Sd} {i : Nat}
/-- A load that keeps its place. -/
theorem Rg.loadAE {t0 t b off k : Nat} {e : TypeId} {x : Operand} {vs us : List Value} {q : Hl} [ht : TyAgg P t k] (ho : nth ops i = some ⟨some t0, .load t x, ty, pos, af, g⟩) (hg : wantB ops l g = some true) (h0 : Nat.blt t0 n.n = true)
    (hx : ev l x = some (.pointer (some ⟨b, off, none⟩))) [hb : Has F hl b (cellsO vs e)] (hv : grab vs off k = some us) [hq : PullL hl hs q] (h : Rg P Qf n F ks ops clr hs r ((t0, .agg us.toArray) :: l) hl) : Rg P Qf n F ks ops clr hs (.st i .eff r) l hl :=
  Rg.run ho hg fun a w hf hh => by
    have h1 := run_loadVarA (P := P) (t := t) (hb.hp hh) hv
    exact ⟨w, _, hl, hs, .inl ⟨_, by simp [execOp, hf.ev hx, Instr.loadAt, Instr.sureAddr, h1], hf.put h0 _⟩, hh, ⟨q, hh.perm (hq.perm.trans List.perm_append_comm)⟩, .same, h⟩
/-- A store beside what floats. -/
theorem Rg.storeAN {t b off k : Nat} {e : TypeId} {x y : Operand} {d : Option Tmp} {us vs q : List Value} {rest q2 : Hl} [hs0 : TyAgg P t k] (ho : nth ops i = some ⟨d, .store t x y, ty, pos, af, g⟩) (hg : wantB ops l g = some true) (hd : d = none)
    (hx : ev l x = some (.pointer (some ⟨b, off, none⟩))) (hy : ev l y = some (.agg us.toArray)) [hb : Pull1 hl b (cellsO vs e) rest] (hk : (us.length == k && us.all (·.oneCell')) = true) (hq : setsL vs off us = some q) [hr : PullL rest hs q2]
    (h : Rg P Qf n F ks ops clr hs r l ((b, cellsO q e) :: rest)) : Rg P Qf n F ks ops clr hs (.st i .eff r) l hl :=
  Rg.run ho hg fun a w hf hh => by
    subst hd
    simp only [Bool.and_eq_true, beq_iff_eq, List.all_eq_true] at hk
    have hh' := hh.perm hb.perm
    have hrun := run_storeAt (P := P) (t := t) (v := .agg us.toArray) hs0.size rfl hk.1 hk.2 (hh'.own b _ List.mem_cons_self) hq
    have hh2 := Lens.putB (put := fun o' => (b, o') :: rest) ⟨[], rest, rfl, fun _ => rfl⟩ hh' (cellsO q e)
    exact ⟨_, l, _, hs, .inr ⟨by simp [execOp, hf.ev hx, hf.ev hy, hrun], hf⟩, hh2, ⟨(b, cellsO q e) :: q2, hh2.perm ((hr.perm.trans List.perm_append_comm).cons _)⟩, .same, h⟩
end
set_option maxHeartbeats 2000000 in
theorem next_w {F : Fm} {rb db n B : Nat} {D : Dk} {nm : List UInt8} {R : Rs} {f : Fl} {s1 s2 : Hl} (hR : RdAt rb db nm R s1) (hD : DiskAt db D s2) (hw : Dw n B D) (hn : n < 1000) (hB : B ≤ 1000000) (hup : Up D) (hf : findF D.files nm = some f) (hok : Rok f.now R) :
    Spec Try.prog 17 #[.pointer (some ⟨rb, 0, none⟩)] F (s1 ++ s2) fun v s' => ∃ h1 h2, v = .tuple #[recV (nextG f.now R).1, .bool (nextG f.now R).2.1, .int .i64 ((nextG f.now R).2.2.1 : Int)] ∧ s' = h1 ++ h2 ∧ DiskAt db (bump D (opsR R : Nat)) h2 ∧ RdAt rb db nm (nextG f.now R).2.2.2 h1 := by
  have hR0 := hR
  obtain ⟨tv, s, own, hp⟩ := hR
  refine Spec.perm ?_ (hp.append_right s2)
  rw [List.cons_append]
  obtain ⟨pt, ct, rfl⟩ := own.shape
  have hat := hok.at_
  have hsz := hok.size
  have hfl := (hw.find hf).1
  have hfk := fill_ok hok
  have hng : nextG f.now R = if (fillR f.now R).err ≠ 0 ∨ (fillR f.now R).text.length = 0 then (⟨0, 0⟩, false, (fillR f.now R).err, fillR f.now R) else (⟨getB (fillR f.now R).text 0 8, getB (fillR f.now R).text 8 8⟩, true, 0, { fillR f.now R with text := (fillR f.now R).text.drop 16 }) := rfl
  refine Spec.of (n := 79) (vs := [.pointer (some ⟨rb, 0, none⟩)]) Try.func17 rfl Try.ntmps17 rfl ?_
  refine Vc.seq ?_
  refine Vc.text (List.range 3) (sd [(0, .eff), (1, .pure), (2, .pure)]) rfl ?_
  refine Rg.alloc rfl rfl rfl rfl (fun b2 => ?_)
  refine Rg.pure rfl rfl rfl (Pv.assign rfl) ?_
  refine Rg.pure rfl rfl rfl (Pv.assign rfl) ?_
  refine Rg.nil ?_
  refine Vc.seq ?_
  refine Vc.seq ?_
  refine Vc.cut1 (fun (bb : Bool) => bb = wants R) (fun bb => [(28, .bool bb), (0, .pointer (some ⟨rb, 0, none⟩)), (2, .pointer (some ⟨b2, 0, none⟩))]) (fun bb => (b2, cellsO [.int .u64 0, .int .u64 0] 39) :: (rb, cellsO [.pointer (some ⟨db, 0, none⟩), kS nm, .int .i64 (R.at_ : Int), .int .i64 (R.size : Int), .slice pt R.text.length ct, .bool R.short, .int .i64 (R.err : Int)] 86) :: (s ++ s2)) ?_ ?_
  ·
    refine Vc.draw [] (sd [(0, .pure), (1, .pure), (2, .pure), (3, .read), (4, .pure), (5, .pure), (6, .pure), (7, .pure), (8, .pure), (9, .read), (10, .pure), (11, .pure), (12, .pure), (13, .pure), (14, .pure), (15, .pure), (16, .pure), (17, .read), (18, .pure), (19, .pure), (20, .pure), (21, .read), (22, .pure), (23, .pure)]) mixed (by kernel_rfl) ?_
    refine Rg.pure rfl rfl rfl (Pv.move rfl) ?_
    refine Rg.pure rfl rfl rfl (Pv.nilp rfl) ?_
    refine Rg.pure rfl rfl rfl (Pv.fa rfl) ?_
    refine Rg.read rfl rfl rfl (Ev.ld rfl rfl) ?_
    refine Rg.pure rfl rfl rfl (Pv.eql rfl rfl) ?_
    refine Rg.pure rfl rfl rfl (Pv.move rfl) ?_
    refine Rg.split (t := 10) rfl (fun h10 => ?_) (fun h10 => ?_)
    ·
      simp only [beq_iff_eq] at h10
      refine Rg.pure rfl rfl rfl (Pv.move rfl) ?_
      refine Rg.pure rfl rfl rfl (Pv.nilp rfl) ?_
      refine Rg.pure rfl rfl rfl (Pv.fa rfl) ?_
      refine Rg.read rfl rfl rfl (Ev.ld rfl rfl) ?_
      refine Rg.pure rfl rfl rfl (Pv.lenS rfl) ?_
      refine Rg.pure rfl rfl rfl (Pv.eql rfl rfl) ?_
      refine Rg.pure rfl rfl rfl (Pv.pickT rfl rfl) ?_
      refine Rg.pure rfl rfl rfl (Pv.move rfl) ?_
      refine Rg.split (t := 18) rfl (fun h18 => ?_) (fun h18 => ?_)
      ·
        try simp only [beq_iff_eq] at h18
        refine Rg.pure rfl rfl rfl (Pv.move rfl) ?_
        refine Rg.pure rfl rfl rfl (Pv.nilp rfl) ?_
        refine Rg.pure rfl rfl rfl (Pv.fa rfl) ?_
        refine Rg.read rfl rfl rfl (Ev.ld rfl rfl) ?_
        refine Rg.pure rfl rfl rfl (Pv.move rfl) ?_
        refine Rg.pure rfl rfl rfl (Pv.nilp rfl) ?_
        refine Rg.pure rfl rfl rfl (Pv.fa rfl) ?_
        refine Rg.read rfl rfl rfl (Ev.ld rfl rfl) ?_
        refine Rg.pure rfl rfl rfl (Pv.lss rfl rfl) ?_
        refine Rg.pure rfl rfl rfl (Pv.pickT rfl rfl) ?_
        refine Rg.nil ?_
        exact Vc.inv1 _ (by unfold wants; rw [decide_eq_true (show R.err = 0 by omega), decide_eq_true (show R.text.length = 0 by omega)]; rw [Bool.eq_iff_iff]; simp) (.cons rfl (.cons rfl (.cons rfl .nil))) pulled
      ·
        simp only [beq_eq_false_iff_ne, ne_eq] at h18
        iterate 9 (first | refine Rg.skipP rfl rfl rfl ?_ | refine Rg.skipR rfl rfl rfl ?_ | refine Rg.skipE rfl rfl rfl ?_)
        refine Rg.pure rfl rfl rfl (Pv.pickF rfl rfl) ?_
        refine Rg.nil ?_
        exact Vc.inv1 false (by unfold wants; rw [decide_eq_false (show ¬ R.text.length = 0 by omega)]; simp) (.cons rfl (.cons rfl (.cons rfl .nil))) pulled
    ·
      simp only [beq_eq_false_iff_ne, ne_eq] at h10
      iterate 6 (first | refine Rg.skipP rfl rfl rfl ?_ | refine Rg.skipR rfl rfl rfl ?_ | refine Rg.skipE rfl rfl rfl ?_)
      refine Rg.pure rfl rfl rfl (Pv.pickF rfl rfl) ?_
      refine Rg.pure rfl rfl rfl (Pv.move rfl) ?_
      iterate 9 (first | refine Rg.skipP rfl rfl rfl ?_ | refine Rg.skipR rfl rfl rfl ?_ | refine Rg.skipE rfl rfl rfl ?_)
      refine Rg.pure rfl rfl rfl (Pv.pickF rfl rfl) ?_
      refine Rg.nil ?_
      exact Vc.inv1 false (by unfold wants; rw [decide_eq_false (show ¬ R.err = 0 by omega)]; rfl) (.cons rfl (.cons rfl (.cons rfl .nil))) pulled
  ·
    rintro bb hbb
    refine Vc.cut3 (fun (pv : Option Addr) (cv : Nat) (q : Hl × Hl) => Tl byteE (.slice pv (fillR f.now R).text.length cv) (fillR f.now R).text q.1 ∧ DiskAt db (bump D (opsR R : Nat)) q.2) (fun pv cv q => [(0, .pointer (some ⟨rb, 0, none⟩)), (2, .pointer (some ⟨b2, 0, none⟩))]) (fun pv cv q => (b2, cellsO [.int .u64 0, .int .u64 0] 39) :: (rb, cellsO [.pointer (some ⟨db, 0, none⟩), kS nm, .int .i64 ((fillR f.now R).at_ : Int), .int .i64 ((fillR f.now R).size : Int), .slice pv (fillR f.now R).text.length cv, .bool (fillR f.now R).short, .int .i64 ((fillR f.now R).err : Int)] 86) :: (q.1 ++ q.2)) ?_ ?_
    ·
      refine Vc.cond rfl (fun h28 => ?_) (fun h28 => ?_)
      ·
        rw [hbb] at h28
        have hfr : fillR f.now R = { (inG f.now R).2 with err := (inG f.now R).1 } := by rw [fillR, if_pos h28]
        have hop : opsR R = 1 := by rw [opsR, if_pos h28]
        refine Vc.text (List.range 6) (sd [(0, .pure), (1, .pure), (2, .eff), (3, .pure), (4, .pure), (5, .eff)]) rfl ?_
        refine Rg.pure rfl rfl rfl (Pv.move rfl) ?_
        refine Rg.pure rfl rfl rfl (Pv.move rfl) ?_
        refine Rg.callH rfl rfl rfl (run_callF rfl) (fun F' hF' => in_spec (F := F') (s1 := (rb, cellsO [.pointer (some ⟨db, 0, none⟩), kS nm, .int .i64 (R.at_ : Int), .int .i64 (R.size : Int), .slice pt R.text.length ct, .bool R.short, .int .i64 (R.err : Int)] 86) :: s) ⟨_, s, own, .refl _⟩ hD hw hn hB hup hf hok) rfl ?_
        rintro _ _ ⟨g1, g2, rfl, rfl, hD31, tv31, s31, own31, hp31⟩
        refine Rg.perm2 ((hp31.append_right g2).append_right _) ?_
        rw [List.cons_append, List.cons_append, List.append_assoc]
        obtain ⟨p31, c31, rfl⟩ := own31.shape
        refine Rg.pure rfl rfl rfl (Pv.nilp rfl) ?_
        refine Rg.pure rfl rfl rfl (Pv.fa rfl) ?_
        refine Rg.store rfl rfl rfl rfl rfl rfl rfl rfl ?_
        refine Rg.nil ?_
        rw [hfr, hop]
        exact Vc.inv3 p31 c31 (s31, g2) ⟨own31, hD31⟩ (.cons rfl (.cons rfl .nil)) pulled
      ·
        rw [hbb] at h28
        have hfr : fillR f.now R = R := by rw [fillR, if_neg (by rw [h28]; decide)]
        have hop : opsR R = 0 := by rw [opsR, if_neg (by rw [h28]; decide)]
        refine Vc.skip ?_
        rw [hfr, hop]
        exact Vc.inv3 pt ct (s, s2) ⟨own, by rw [show ((0 : Nat) : Int) = 0 from rfl, bump_zero]; exact hD⟩ (.cons rfl (.cons rfl .nil)) pulled
    ·
      rintro pv cv ⟨q1, q2⟩ ⟨ownR, hDR⟩
      simp only at ownR hDR ⊢
      generalize fillR f.now R = R1 at hfk hng ownR ⊢
      have hm16 := hfk.m16
      have hfew := hfk.few
      have hcap := ownR.cap
      refine Vc.seq ?_
      refine Vc.seq ?_
      refine Vc.text (List.range 13) (sd [(0, .pure), (1, .pure), (2, .pure), (3, .read), (4, .pure), (5, .pure), (6, .pure), (7, .pure), (8, .pure), (9, .read), (10, .pure), (11, .pure), (12, .pure)]) rfl ?_
      refine Rg.pure rfl rfl rfl (Pv.move rfl) ?_
      refine Rg.pure rfl rfl rfl (Pv.nilp rfl) ?_
      refine Rg.pure rfl rfl rfl (Pv.fa rfl) ?_
      refine Rg.read rfl rfl rfl (Ev.ld rfl rfl) ?_
      refine Rg.pure rfl rfl rfl (Pv.neq rfl rfl) ?_
      refine Rg.pure rfl rfl rfl (Pv.move rfl) ?_
      refine Rg.split (t := 39) rfl (fun h39 => ?_) (fun h39 => ?_)
      ·
        simp only [bne_iff_ne, ne_eq] at h39
        rw [if_pos (.inl (by omega))] at hng
        iterate 6 (first | refine Rg.skipP rfl rfl rfl ?_ | refine Rg.skipR rfl rfl rfl ?_ | refine Rg.skipE rfl rfl rfl ?_)
        refine Rg.pure rfl rfl rfl (Pv.pickT rfl rfl) ?_
        refine Rg.nil ?_
        refine Vc.condT rfl ?_
        refine Vc.seq ?_
        refine Vc.drawS [] (sd [(1, .pure), (2, .pure), (3, .pure), (4, .read), (0, .eff), (5, .eff), (6, .pure), (7, .pure)]) [(rb, cellsO [.pointer (some ⟨db, 0, none⟩), kS nm, .int .i64 (R1.at_ : Int), .int .i64 (R1.size : Int), .slice pv R1.text.length cv, .bool R1.short, .int .i64 (R1.err : Int)] 86)] pulled mixed (by kernel_rfl) ?_
        refine Rg.pure rfl rfl rfl (Pv.move rfl) ?_
        refine Rg.pure rfl rfl rfl (Pv.nilp rfl) ?_
        refine Rg.pure rfl rfl rfl (Pv.fa rfl) ?_
        refine Rg.read rfl rfl rfl (Ev.ld rfl rfl) ?_
        refine Rg.loadAE rfl rfl rfl rfl rfl ?_
        refine Rg.storeAN rfl rfl rfl rfl rfl rfl rfl ?_
        refine Rg.pure rfl rfl rfl (Pv.assign rfl) ?_
        refine Rg.pure rfl rfl rfl (Pv.assign rfl) ?_
        refine Rg.nil ?_
        exact Vc.ret (Vc.retsH rfl (.cons (.cellA rfl rfl) (.cons (.tmp rfl) (.cons (.tmp rfl) (.nil)))) (⟨(rb, _) :: q1, q2, by rw [hng]; rfl, rfl, hDR, by rw [hng]; exact ⟨_, q1, ownR, .refl _⟩⟩) pulled)
      ·
        simp only [bne_eq_false_iff_eq] at h39
        refine Rg.pure rfl rfl rfl (Pv.move rfl) ?_
        refine Rg.pure rfl rfl rfl (Pv.nilp rfl) ?_
        refine Rg.pure rfl rfl rfl (Pv.fa rfl) ?_
        refine Rg.read rfl rfl rfl (Ev.ld rfl rfl) ?_
        refine Rg.pure rfl rfl rfl (Pv.lenS rfl) ?_
        refine Rg.pure rfl rfl rfl (Pv.eql rfl rfl) ?_
        refine Rg.pure rfl rfl rfl (Pv.pickF rfl rfl) ?_
        refine Rg.nil ?_
        refine Vc.cond rfl (fun h46 => ?_) (fun h46 => ?_)
        ·
          try simp only [beq_iff_eq] at h46
          try rw [if_pos (.inr (by omega))] at hng
          refine Vc.seq ?_
          refine Vc.drawS [] (sd [(1, .pure), (2, .pure), (3, .pure), (4, .read), (0, .eff), (5, .eff), (6, .pure), (7, .pure)]) [(rb, cellsO [.pointer (some ⟨db, 0, none⟩), kS nm, .int .i64 (R1.at_ : Int), .int .i64 (R1.size : Int), .slice pv R1.text.length cv, .bool R1.short, .int .i64 (R1.err : Int)] 86)] pulled mixed (by kernel_rfl) ?_
          refine Rg.pure rfl rfl rfl (Pv.move rfl) ?_
          refine Rg.pure rfl rfl rfl (Pv.nilp rfl) ?_
          refine Rg.pure rfl rfl rfl (Pv.fa rfl) ?_
          refine Rg.read rfl rfl rfl (Ev.ld rfl rfl) ?_
          refine Rg.loadAE rfl rfl rfl rfl rfl ?_
          refine Rg.storeAN rfl rfl rfl rfl rfl rfl rfl ?_
          refine Rg.pure rfl rfl rfl (Pv.assign rfl) ?_
          refine Rg.pure rfl rfl rfl (Pv.assign rfl) ?_
          refine Rg.nil ?_
          exact Vc.ret (Vc.retsH rfl (.cons (.cellA rfl rfl) (.cons (.tmp rfl) (.cons (.tmp rfl) (.nil)))) (⟨(rb, _) :: q1, q2, by rw [hng]; rfl, rfl, hDR, by rw [hng]; exact ⟨_, q1, ownR, .refl _⟩⟩) pulled)
        ·
          simp only [beq_eq_false_iff_ne, ne_eq] at h46
          rw [if_neg (by omega)] at hng
          have hfrom : Tl byteE (.slice (if cv = 16 then pv else Option.map (fun x => x.add (16 * 1)) pv) (R1.text.length - 16) (cv - 16)) (R1.text.drop 16) q1 := ownR.from (k := 16) (by omega) (by omega)
          refine Vc.skip ?_
          refine Vc.seq ?_
          refine Vc.text (List.range 10) (sd [(0, .pure), (1, .pure), (2, .pure), (3, .read), (4, .eff), (5, .pure), (6, .pure), (7, .pure), (8, .pure), (9, .eff)]) rfl ?_
          refine Rg.pure rfl rfl rfl (Pv.move rfl) ?_
          refine Rg.pure rfl rfl rfl (Pv.nilp rfl) ?_
          refine Rg.pure rfl rfl rfl (Pv.fa rfl) ?_
          refine Rg.read rfl rfl rfl (Ev.ld rfl rfl) ?_
          refine Rg.callP rfl rfl rfl (run_callF rfl) (get_spec (Arg.tl ownR frz_sb) (by omega) 0 8 (by omega) (by omega) (by omega)) ?_
          rintro _ rfl
          refine Rg.pure rfl rfl rfl (Pv.move rfl) ?_
          refine Rg.pure rfl rfl rfl (Pv.extract rfl rfl) ?_
          refine Rg.pure rfl rfl rfl (Pv.extract rfl rfl) ?_
          refine Rg.pure rfl rfl rfl (Pv.fa rfl) ?_
          refine Rg.store rfl rfl rfl rfl rfl rfl rfl rfl ?_
          refine Rg.nil ?_
          refine Vc.seq ?_
          refine Vc.text (List.range 10) (sd [(0, .pure), (1, .pure), (2, .pure), (3, .read), (4, .eff), (5, .pure), (6, .pure), (7, .pure), (8, .pure), (9, .eff)]) rfl ?_
          refine Rg.pure rfl rfl rfl (Pv.move rfl) ?_
          refine Rg.pure rfl rfl rfl (Pv.nilp rfl) ?_
          refine Rg.pure rfl rfl rfl (Pv.fa rfl) ?_
          refine Rg.read rfl rfl rfl (Ev.ld rfl rfl) ?_
          refine Rg.callP rfl rfl rfl (run_callF rfl) (get_spec (Arg.tl ownR frz_sb) (by omega) 8 8 (by omega) (by omega) (by omega)) ?_
          rintro _ rfl
          refine Rg.pure rfl rfl rfl (Pv.move rfl) ?_
          refine Rg.pure rfl rfl rfl (Pv.extract rfl rfl) ?_
          refine Rg.pure rfl rfl rfl (Pv.extract rfl rfl) ?_
          refine Rg.pure rfl rfl rfl (Pv.fa rfl) ?_
          refine Rg.store rfl rfl rfl rfl rfl rfl rfl rfl ?_
          refine Rg.nil ?_
          refine Vc.seq ?_
          refine Vc.text (List.range 9) (sd [(0, .pure), (1, .pure), (2, .pure), (3, .pure), (4, .read), (5, .pure), (6, .pure), (7, .pure), (8, .eff)]) rfl ?_
          refine Rg.pure rfl rfl rfl (Pv.move rfl) ?_
          refine Rg.pure rfl rfl rfl (Pv.move rfl) ?_
          refine Rg.pure rfl rfl rfl (Pv.nilp rfl) ?_
          refine Rg.pure rfl rfl rfl (Pv.fa rfl) ?_
          refine Rg.read rfl rfl rfl (Ev.ld rfl rfl) ?_
          refine Rg.pure rfl rfl rfl (Pv.sl (lv := some (.int .i64 ((16 : Nat) : Int))) (hv := none) 16 R1.text.length rfl rfl rfl (by omega) hcap (fun _ => hcap)) ?_
          refine Rg.pure rfl rfl rfl (Pv.nilp rfl) ?_
          refine Rg.pure rfl rfl rfl (Pv.fa rfl) ?_
          refine Rg.store rfl rfl rfl rfl rfl (by rfl) rfl rfl ?_
          refine Rg.nil ?_
          refine Vc.seq ?_
          refine Vc.text (List.range 4) (sd [(0, .read), (1, .eff), (2, .pure), (3, .pure)]) rfl ?_
          refine Rg.read rfl rfl rfl (Ev.ldA rfl rfl) ?_
          refine Rg.storeA rfl rfl rfl rfl rfl rfl rfl rfl ?_
          refine Rg.pure rfl rfl rfl (Pv.assign rfl) ?_
          refine Rg.pure rfl rfl rfl (Pv.assign rfl) ?_
          refine Rg.nil ?_
          exact Vc.ret (Vc.retsH rfl (.cons (.cellA rfl rfl) (.cons (.tmp rfl) (.cons (.tmp rfl) (.nil)))) (⟨(rb, cellsO [.pointer (some ⟨db, 0, none⟩), kS nm, .int .i64 (R1.at_ : Int), .int .i64 (R1.size : Int), .slice (if cv = 16 then pv else Option.map (fun x => x.add (16 * 1)) pv) (R1.text.length - 16) (cv - 16), .bool R1.short, .int .i64 (R1.err : Int)] 86) :: q1, q2, by rw [hng]; rfl, rfl, hDR, by rw [hng]; exact ⟨_, q1, hfrom, .refl _⟩⟩) pulled)
end Go.Proofs.Ytbhaahohaccecaa

namespace Go.Proofs.Ytbhaahohaccecaa
set_option linter.unusedVariables false

/-! ### Records of a text -/
def recsOf (t : List UInt8) : List Rk := (List.range (t.length / 16)).map fun i => ⟨getB t (16 * i) 8, getB t (16 * i + 8) 8⟩
theorem getB_drop (t : List UInt8) (k a s : Nat) : getB (t.drop k) a s = getB t (k + a) s := by rw [getB, getB, List.drop_drop]
theorem recsOf_nil : recsOf [] = [] := rfl
theorem recsOf_cons {t : List UInt8} (h : 16 ≤ t.length) : recsOf t = ⟨getB t 0 8, getB t 8 8⟩ :: recsOf (t.drop 16) := by
  unfold recsOf
  rw [List.length_drop, show t.length / 16 = (t.length - 16) / 16 + 1 by omega, List.range_succ_eq_map, List.map_cons, List.map_map]
  congr 1
  refine List.map_congr_left fun i _ => ?_
  simp only [Function.comp, getB_drop]
  rw [show 16 * i.succ = 16 + 16 * i by omega, show 16 + (16 * i + 8) = 16 + 16 * i + 8 by omega]

/-! ### Blocks, one behind the other -/
def badT (t : List UInt8) (short : Bool) : Prop := t.length = 0 ∨ t.length % 16 ≠ 0 ∨ 800 < t.length ∨ short = true
instance (t : List UInt8) (short : Bool) : Decidable (badT t short) := by unfold badT; infer_instance
def blkG (c : List UInt8) (size : Nat) : Nat → Nat → Bool → List Rk × Nat
  | 0, _, _ => ([], 0)
  | fuel + 1, at_, short =>
    if at_ < size then
      let d := decG ((c.drop at_).take (min 1006 (size - at_)))
      if d.2.2 ≠ 0 then ([], d.2.2) else if badT d.1 short then ([], 2) else (recsOf d.1 ++ (blkG c size fuel (at_ + d.2.1) (decide (d.1.length < 800))).1, (blkG c size fuel (at_ + d.2.1) (decide (d.1.length < 800))).2)
    else ([], 0)
theorem decG_size {b : List UInt8} (h : (decG b).2.2 = 0) : (decG b).2.1 = (decG b).1.length + 6 ∧ (decG b).2.1 ≤ b.length := by
  unfold decG at h ⊢
  split
  · rename_i h2
    rw [if_pos h2] at h
    cases h
  · rename_i h2
    rw [if_neg h2] at h
    split
    · rename_i h3
      rw [if_pos h3] at h
      cases h
    · rename_i h3
      rw [if_neg h3] at h
      split
      · rename_i h4
        rw [if_pos h4] at h
        cases h
      · simp only [List.length_take, List.length_drop]
        omega
theorem blkG_fuel {c : List UInt8} {size : Nat} : ∀ (a b at_ : Nat) (short : Bool), size - at_ < a → size - at_ < b → blkG c size a at_ short = blkG c size b at_ short
  | 0, _, _, _, h, _ => by omega
  | _, 0, _, _, _, h => by omega
  | a + 1, b + 1, at_, short, h1, h2 => by
    rw [blkG, blkG]
    split
    · rename_i hlt
      simp only
      split
      · rfl
      · rename_i he
        split
        · rfl
        · have := (decG_size (Classical.not_not.1 he)).1
          rw [blkG_fuel a b _ _ (by omega) (by omega)]
    · rfl
/-- what a reader has still to tell, and how it ends -/
def restR (c : List UInt8) (R : Rs) : List Rk × Nat := if R.err ≠ 0 then ([], R.err) else (recsOf R.text ++ (blkG c R.size (R.size - R.at_ + 1) R.at_ R.short).1, (blkG c R.size (R.size - R.at_ + 1) R.at_ R.short).2)
theorem rest_fill {c : List UInt8} {R : Rs} (h : Rok c R) : restR c (fillR c R) = restR c R ∧ ((fillR c R).err ≠ 0 ∨ (fillR c R).text.length = 0 → (fillR c R).at_ < (fillR c R).size → (fillR c R).err ≠ 0) := by
  unfold fillR
  by_cases hw : wants R = true
  · rw [if_pos hw]
    simp only [wants, Bool.and_eq_true, decide_eq_true_eq] at hw
    obtain ⟨h1, h2, h3⟩ := hw
    have ht : R.text = [] := List.length_eq_zero_iff.1 h2
    have hr : restR c R = blkG c R.size (R.size - R.at_ + 1) R.at_ R.short := by
      unfold restR
      rw [if_neg (by omega), ht, recsOf_nil, List.nil_append]
    rw [hr, blkG, if_pos h3]
    simp only [inG]
    obtain ⟨d, hd⟩ : ∃ d, d = decG ((c.drop R.at_).take (min 1006 (R.size - R.at_))) := ⟨_, rfl⟩
    rw [← hd]
    by_cases he : d.2.2 ≠ 0
    · rw [if_pos he, if_pos he]
      exact ⟨by unfold restR; rw [if_pos he], fun _ _ => he⟩
    · rw [if_neg he, if_neg he]
      have hds := decG_size (b := (c.drop R.at_).take (min 1006 (R.size - R.at_))) (by rw [← hd]; exact Classical.not_not.1 he)
      rw [← hd] at hds
      by_cases hb : badT d.1 R.short
      · rw [if_pos hb, if_pos (show d.1.length = 0 ∨ d.1.length % 16 ≠ 0 ∨ 800 < d.1.length ∨ R.short = true from hb)]
        exact ⟨rfl, fun _ _ => (show (2 : Nat) ≠ 0 by decide)⟩
      · rw [if_neg hb, if_neg (show ¬ (d.1.length = 0 ∨ d.1.length % 16 ≠ 0 ∨ 800 < d.1.length ∨ R.short = true) from hb)]
        refine ⟨?_, fun h _ => ?_⟩
        · unfold restR
          rw [if_neg (by simp)]
          simp only
          rw [blkG_fuel (R.size - R.at_) (R.size - (R.at_ + d.2.1) + 1) _ _ (by omega) (by omega)]
        · rcases h with h | h
          · exact h
          · exact absurd (Or.inl h) hb
  · rw [if_neg hw]
    refine ⟨rfl, fun h1 h2 => ?_⟩
    simp only [wants, Bool.and_eq_true, decide_eq_true_eq, not_and] at hw
    rcases h1 with h1 | h1
    · exact h1
    · intro he
      exact hw he h1 h2
theorem rest_next {c : List UInt8} {R : Rs} (h : Rok c R) :
    (∃ e, restR c R = ([], e) ∧ nextG c R = (⟨0, 0⟩, false, e, (nextG c R).2.2.2) ∧ restR c (nextG c R).2.2.2 = ([], e)) ∨
    (∃ x l e, restR c R = (x :: l, e) ∧ nextG c R = (x, true, 0, (nextG c R).2.2.2) ∧ restR c (nextG c R).2.2.2 = (l, e)) := by
  obtain ⟨h1, h2⟩ := rest_fill h
  have hk := fill_ok h
  rw [← h1]
  simp only [nextG]
  generalize fillR c R = R1 at h2 hk
  by_cases hc : R1.err ≠ 0 ∨ R1.text.length = 0
  · rw [if_pos hc]
    left
    by_cases he : R1.err = 0
    · have ht : R1.text = [] := List.length_eq_zero_iff.1 (hc.resolve_left (fun h => h he))
      have hend : ¬ R1.at_ < R1.size := fun hl => h2 hc hl he
      have : restR c R1 = ([], 0) := by
        unfold restR
        rw [if_neg (by omega), ht, recsOf_nil, blkG, if_neg hend]
        rfl
      exact ⟨0, this, by rw [he], this⟩
    · have : restR c R1 = ([], R1.err) := by unfold restR; rw [if_pos he]
      exact ⟨R1.err, this, rfl, this⟩
  · rw [if_neg hc]
    right
    have he : R1.err = 0 := by omega
    have hm := hk.m16
    refine ⟨⟨getB R1.text 0 8, getB R1.text 8 8⟩, recsOf (R1.text.drop 16) ++ (blkG c R1.size (R1.size - R1.at_ + 1) R1.at_ R1.short).1, (blkG c R1.size (R1.size - R1.at_ + 1) R1.at_ R1.short).2, ?_, rfl, ?_⟩
    · unfold restR
      rw [if_neg (by omega), recsOf_cons (by omega)]
      rfl
    · unfold restR
      rw [if_neg (by simpa using he)]
/-- how often the disk was asked -/
def pen (R : Rs) : Nat := R.at_ + if R.err = 0 then 0 else 22
theorem pen_next {c : List UInt8} {R : Rs} (h : Rok c R) : 22 * opsR R + pen R ≤ pen (nextG c R).2.2.2 := by
  have h0 : pen (nextG c R).2.2.2 = pen (fillR c R) := by
    simp only [nextG]
    split
    · rfl
    · rfl
  rw [h0]
  unfold opsR fillR
  by_cases hw : wants R = true
  · rw [if_pos hw, if_pos hw]
    have hw2 := hw
    simp only [wants, Bool.and_eq_true, decide_eq_true_eq] at hw2
    simp only [inG]
    obtain ⟨d, hd⟩ : ∃ d, d = decG ((c.drop R.at_).take (min 1006 (R.size - R.at_))) := ⟨_, rfl⟩
    rw [← hd]
    unfold pen
    rw [if_pos hw2.1]
    split
    · rename_i he
      simp only
      try rw [if_neg he]
      show 22 * 1 + (R.at_ + 0) ≤ R.at_ + 22
      omega
    · rename_i he
      have hds := decG_size (b := (c.drop R.at_).take (min 1006 (R.size - R.at_))) (by rw [← hd]; exact Classical.not_not.1 he)
      rw [← hd] at hds
      split
      · simp
        omega
      · rename_i hb
        simp only [if_true]
        omega
  · rw [if_neg hw, if_neg hw]
    omega
theorem pen_le {c : List UInt8} {R : Rs} (h : Rok c R) : pen R ≤ c.length + 22 := by
  unfold pen
  have := h.at_
  have := h.size
  split <;> omega
/-- the records of a file, and an error -/
def readG (c : List UInt8) : List Rk × Nat := blkG c c.length (c.length + 1) 0 false
theorem rest_start (c : List UInt8) : restR c ⟨0, c.length, [], false, 0⟩ = readG c := by
  unfold restR readG
  simp [recsOf_nil]
theorem blkG_few {c : List UInt8} {size : Nat} : ∀ (fuel at_ : Nat) (short : Bool), (blkG c size fuel at_ short).1.length * 16 ≤ size - at_
  | 0, _, _ => by simp [blkG]
  | fuel + 1, at_, short => by
    rw [blkG]
    split
    · simp only
      split
      · simp
      · rename_i he
        split
        · simp
        · have h1 := decG_size (Classical.not_not.1 he)
          have h2 := blkG_few (c := c) (size := size) fuel (at_ + (decG ((c.drop at_).take (min 1006 (size - at_)))).2.1) (decide ((decG ((c.drop at_).take (min 1006 (size - at_)))).1.length < 800))
          simp only [List.length_append, recsOf, List.length_map, List.length_range, List.length_take, List.length_drop] at h1 h2 ⊢
          omega
    · simp
theorem readG_few (c : List UInt8) : (readG c).1.length * 16 ≤ c.length := by
  have := blkG_few (c := c) (size := c.length) (c.length + 1) 0 false
  unfold readG
  omega

set_option maxHeartbeats 1000000 in
theorem read_none {F : Fm} {db n B : Nat} {D : Dk} {s : Hl} (hD : DiskAt db D s) (hw : Dw n B D) (hn : n < 800) (hB : B ≤ 1000000) (nm : List UInt8) {m e : Int} (hE : sizeD D nm = (m, e)) (he : e ≠ 0) :
    Spec Try.prog 13 #[.pointer (some ⟨db, 0, none⟩), kS nm] F s fun v s' => v = .tuple #[.slice none 0 0, .int .i64 e] ∧ DiskAt db (beginsD D).2 s' := by
  refine Spec.of (n := 37) (vs := [.pointer (some ⟨db, 0, none⟩), kS nm]) Try.func13 rfl Try.ntmps13 rfl ?_
  refine Vc.seq ?_
  refine Vc.text (List.range 2) (sd [(0, .pure), (1, .pure)]) rfl ?_
  refine Rg.pure rfl rfl rfl (Pv.assign rfl) ?_
  refine Rg.pure rfl rfl rfl (Pv.assign rfl) ?_
  refine Rg.nil ?_
  refine Vc.seq ?_
  refine Vc.text (List.range 8) (sd [(0, .pure), (1, .pure), (2, .eff), (3, .pure), (4, .pure), (5, .pure), (6, .pure), (7, .pure)]) rfl ?_
  refine Rg.pure rfl rfl rfl (Pv.move rfl) ?_
  refine Rg.pure rfl rfl rfl (Pv.move rfl) ?_
  refine Rg.callH rfl rfl rfl (run_callF rfl) (fun F' hF' => newReader_spec (F := F') hD hw (by omega) hB nm hE) rfl ?_
  rintro _ _ ⟨p, h1, h2, rfl, rfl, hD13, hw13, hr⟩
  refine Rg.pure rfl rfl rfl (Pv.move rfl) ?_
  refine Rg.pure rfl rfl rfl (Pv.extract rfl rfl) ?_
  refine Rg.pure rfl rfl rfl (Pv.extract rfl rfl) ?_
  refine Rg.pure rfl rfl rfl (Pv.assign rfl) ?_
  refine Rg.pure rfl rfl rfl (Pv.assign rfl) ?_
  refine Rg.nil ?_
  refine Vc.seq ?_
  refine Vc.seq ?_
  refine Vc.text (List.range 2) (sd [(0, .pure), (1, .pure)]) rfl ?_
  refine Rg.pure rfl rfl rfl (Pv.move rfl) ?_
  refine Rg.pure rfl rfl rfl (Pv.neq rfl rfl) ?_
  refine Rg.nil ?_
  refine Vc.cond rfl (fun h17 => ?_) (fun h17 => absurd h17 (by simpa using he))
  refine Vc.seq ?_
  refine Vc.text (List.range 3) (sd [(0, .pure), (1, .pure), (2, .pure)]) rfl ?_
  refine Rg.pure rfl rfl rfl (Pv.move rfl) ?_
  refine Rg.pure rfl rfl rfl (Pv.assign rfl) ?_
  refine Rg.pure rfl rfl rfl (Pv.assign rfl) ?_
  refine Rg.nil ?_
  exact Vc.ret (Vc.retsH (hl' := h2) (rest := h1) rfl (.cons (.tmp rfl) (.cons (.tmp rfl) .nil)) ⟨rfl, hD13⟩ ((List.Perm.of_eq (List.append_nil _)).trans List.perm_append_comm))
set_option maxHeartbeats 1000000 in
theorem read_spec {F : Fm} {db n B : Nat} {D : Dk} {s : Hl} (hD : DiskAt db D s) (hw : Dw n B D) (hn : n + B / 22 < 900) (hB : B ≤ 1000000) (nm : List UInt8) {f : Fl} (hup : Up D) (hf : findF D.files nm = some f) :
    Spec Try.prog 13 #[.pointer (some ⟨db, 0, none⟩), kS nm] F s fun v s' => ∃ u h1 h2, ∃ k : Nat, v = .tuple #[u, .int .i64 ((readG f.now).2 : Int)] ∧ s' = h1 ++ h2 ∧ Own recE u (if (readG f.now).2 = 0 then (readG f.now).1 else []) h1 ∧ 22 * k ≤ f.now.length + 22 ∧ DiskAt db (bump D ((1 + k : Nat) : Int)) h2 := by
  have hfl := (hw.find hf).1
  have hup1 := hup.bump 1
  have hw1 := hw.bump 1
  have hf1 : findF (bump D 1).files nm = some f := hf
  have hrf := readG_few f.now
  refine Spec.of (n := 37) (vs := [.pointer (some ⟨db, 0, none⟩), kS nm]) Try.func13 rfl Try.ntmps13 rfl ?_
  refine Vc.seq ?_
  refine Vc.text (List.range 2) (sd [(0, .pure), (1, .pure)]) rfl ?_
  refine Rg.pure rfl rfl rfl (Pv.assign rfl) ?_
  refine Rg.pure rfl rfl rfl (Pv.assign rfl) ?_
  refine Rg.nil ?_
  refine Vc.seq ?_
  refine Vc.text (List.range 8) (sd [(0, .pure), (1, .pure), (2, .eff), (3, .pure), (4, .pure), (5, .pure), (6, .pure), (7, .pure)]) rfl ?_
  refine Rg.pure rfl rfl rfl (Pv.move rfl) ?_
  refine Rg.pure rfl rfl rfl (Pv.move rfl) ?_
  refine Rg.callH rfl rfl rfl (run_callF rfl) (fun F' hF' => newReader_spec (F := F') hD hw (by omega) hB nm (hup.size hf)) rfl ?_
  rintro _ _ ⟨p, h1, h2, rfl, rfl, hD13, hw13, hr⟩
  obtain ⟨rb, rfl, hR⟩ := hr rfl
  replace hR := hR f.now.length rfl
  rw [List.append_nil]
  rw [congrArg Prod.snd hup.begins] at hD13
  refine Rg.pure rfl rfl rfl (Pv.move rfl) ?_
  refine Rg.pure rfl rfl rfl (Pv.extract rfl rfl) ?_
  refine Rg.pure rfl rfl rfl (Pv.extract rfl rfl) ?_
  refine Rg.pure rfl rfl rfl (Pv.assign rfl) ?_
  refine Rg.pure rfl rfl rfl (Pv.assign rfl) ?_
  refine Rg.nil ?_
  refine Vc.seq ?_
  refine Vc.seq ?_
  refine Vc.text (List.range 2) (sd [(0, .pure), (1, .pure)]) rfl ?_
  refine Rg.pure rfl rfl rfl (Pv.move rfl) ?_
  refine Rg.pure rfl rfl rfl (Pv.neq rfl rfl) ?_
  refine Rg.nil ?_
  refine Vc.cond rfl (fun h17 => absurd h17 (by decide)) (fun h17 => ?_)
  refine Vc.skip ?_
  refine Vc.block ?_
  refine Vc.loop7 (fun (k : Nat) (acc : List Rk) (R : Rs) (q1 q2 : Hl) (w1 : Value) (w2 : Hl) => Rok f.now R ∧ 22 * k ≤ pen R ∧ (acc ++ (restR f.now R).1, (restR f.now R).2) = readG f.now ∧ RdAt rb db nm R q1 ∧ DiskAt db (bump D ((1 + k : Nat) : Int)) q2 ∧ Own recE w1 acc w2) (fun k acc R q1 q2 w1 w2 => [(4, w1), (6, .pointer (some ⟨rb, 0, none⟩))]) (fun k acc R q1 q2 w1 w2 => q1 ++ (q2 ++ w2)) (fun k acc R q1 q2 w1 w2 => (restR f.now R).1.length) 0 [] ⟨0, f.now.length, [], false, 0⟩ h1 h2 _ [] ⟨⟨rfl, Nat.zero_le _, Nat.zero_le _, Nat.le_refl _, fun h => absurd rfl h⟩, Nat.zero_le _, by rw [rest_start]; rfl, hR, hD13, .nil⟩ (.cons rfl (.cons rfl .nil)) pulled ?_
  rintro k acc R q1 q2 w1 w2 ⟨hok, hk, htot, hR, hD, own⟩
  have hpl := pen_le hok
  have hok2 := next_ok hok
  have hp2 := pen_next hok
  have hacc := congrArg (fun x => x.1.length) htot
  simp only [List.length_append] at hacc
  have hwk : Dw (n + (1 + k)) B (bump D ((1 + k : Nat) : Int)) := hw.bump (1 + k)
  obtain ⟨pa, ca, rfl⟩ := own.shape
  rw [← List.append_assoc]
  refine Vc.block ?_
  refine Vc.seq ?_
  refine Vc.text (List.range 10) (sd [(0, .pure), (1, .eff), (2, .pure), (3, .pure), (4, .pure), (5, .pure), (6, .eff), (7, .eff), (8, .pure), (9, .pure)]) rfl ?_
  refine Rg.pure rfl rfl rfl (Pv.move rfl) ?_
  refine Rg.callH rfl rfl rfl (run_callF rfl) (fun F' hF' => next_w (F := F') hR hD hwk (by omega) hB (hup.bump _) (show findF (bump D ((1 + k : Nat) : Int)).files nm = some f from hf) hok) rfl ?_
  rintro _ _ ⟨g1, g2, rfl, rfl, hD21, hR21⟩
  rw [bump_bump, ← Int.natCast_add, Nat.add_assoc] at hD21
  rw [List.append_assoc]
  refine Rg.pure rfl rfl rfl (Pv.move rfl) ?_
  refine Rg.pure rfl rfl rfl (Pv.extract rfl rfl) ?_
  refine Rg.pure rfl rfl rfl (Pv.extract rfl rfl) ?_
  refine Rg.pure rfl rfl rfl (Pv.extract rfl rfl) ?_
  refine Rg.alloc rfl rfl rfl rfl (fun b7 => ?_)
  refine Rg.storeA rfl rfl rfl rfl rfl rfl rfl rfl ?_
  refine Rg.pure rfl rfl rfl (Pv.assign rfl) ?_
  refine Rg.pure rfl rfl rfl (Pv.assign rfl) ?_
  refine Rg.nil ?_
  refine Vc.block ?_
  refine Vc.seq ?_
  refine Vc.text (List.range 3) (sd [(0, .pure), (1, .pure), (2, .pure)]) rfl ?_
  refine Rg.pure rfl rfl rfl (Pv.move rfl) ?_
  refine Rg.pure rfl rfl rfl (Pv.neq rfl rfl) ?_
  refine Rg.pure rfl rfl rfl (Pv.assign rfl) ?_
  refine Rg.nil ?_
  refine Vc.cond rfl (fun h29 => ?_) (fun h29 => ?_)
  ·
    simp only [bne_iff_ne, ne_eq] at h29
    obtain ⟨e, hr1, hr2, hr3⟩ : ∃ e, restR f.now R = ([], e) ∧ (nextG f.now R).2.2.1 = e ∧ e ≠ 0 := by
      rcases rest_next hok with ⟨e, h1, h2, h3⟩ | ⟨x, l, e, h1, h2, h3⟩
      · exact ⟨e, h1, by rw [h2], by rw [h2] at h29; simp only at h29; omega⟩
      · rw [h2] at h29; exact absurd rfl h29
    have hrg : (readG f.now).2 = e := by rw [← htot, hr1]
    refine Vc.seq ?_
    refine Vc.text (List.range 3) (sd [(0, .pure), (1, .pure), (2, .pure)]) rfl ?_
    refine Rg.pure rfl rfl rfl (Pv.move rfl) ?_
    refine Rg.pure rfl rfl rfl (Pv.assign rfl) ?_
    refine Rg.pure rfl rfl rfl (Pv.assign rfl) ?_
    refine Rg.nil ?_
    exact Vc.ret (Vc.retsH (hl' := [] ++ g2) rfl (.cons (.tmp rfl) (.cons (.tmp rfl) .nil)) ⟨.slice none 0 0, [], g2, k + opsR R, by rw [hrg, hr2]; rfl, rfl, by rw [if_neg (by rw [hrg]; exact hr3)]; exact .nil, by have := pen_le hok2; omega, hD21⟩ pulled)
  ·
    simp only [bne_eq_false_iff_eq] at h29
    refine Vc.seq ?_
    refine Vc.text (List.range 3) (sd [(0, .pure), (1, .pure), (2, .pure)]) rfl ?_
    refine Rg.pure rfl rfl rfl (Pv.move rfl) ?_
    refine Rg.pure rfl rfl rfl (Pv.not rfl) ?_
    refine Rg.pure rfl rfl rfl (Pv.assign rfl) ?_
    refine Rg.nil ?_
    refine Vc.cond rfl (fun h33 => ?_) (fun h33 => ?_)
    ·
      simp only [Bool.not_eq_true'] at h33
      obtain ⟨hr1, hr2⟩ : restR f.now R = ([], 0) ∧ True := by
        rcases rest_next hok with ⟨e, h1, h2, h3⟩ | ⟨x, l, e, h1, h2, h3⟩
        · refine ⟨?_, trivial⟩
          rw [h2] at h29
          simp only at h29
          rw [h1, show e = 0 by omega]
        · rw [h2] at h33; cases h33
      have hrg : readG f.now = (acc, 0) := by rw [← htot, hr1, List.append_nil]
      refine Vc.seq ?_
      refine Vc.text (List.range 3) (sd [(0, .pure), (1, .pure), (2, .pure)]) rfl ?_
      refine Rg.pure rfl rfl rfl (Pv.move rfl) ?_
      refine Rg.pure rfl rfl rfl (Pv.assign rfl) ?_
      refine Rg.pure rfl rfl rfl (Pv.assign rfl) ?_
      refine Rg.nil ?_
      exact Vc.ret (Vc.retsH (hl' := w2 ++ g2) rfl (.cons (.tmp rfl) (.cons (.tmp rfl) .nil)) ⟨_, w2, g2, k + opsR R, by rw [hrg]; rfl, rfl, by rw [hrg, if_pos rfl]; exact own, by have := pen_le hok2; omega, hD21⟩ pulled)
    ·
      simp only [Bool.not_eq_false'] at h33
      obtain ⟨x, l, e, hr1, hr2, hr3⟩ : ∃ x l e, restR f.now R = (x :: l, e) ∧ (nextG f.now R).1 = x ∧ restR f.now (nextG f.now R).2.2.2 = (l, e) := by
        rcases rest_next hok with ⟨e, h1, h2, h3⟩ | ⟨x, l, e, h1, h2, h3⟩
        · rw [h2] at h33; cases h33
        · exact ⟨x, l, e, h1, by rw [h2], h3⟩
      refine Vc.text (List.range 5) (sd [(0, .pure), (1, .read), (2, .eff), (3, .eff), (4, .pure)]) rfl ?_
      refine Rg.pure rfl rfl rfl (Pv.move rfl) ?_
      refine Rg.read rfl rfl rfl (Ev.ldA rfl rfl) ?_
      refine Rg.bslice1 rfl rfl rfl rfl rfl rfl rfl (fun b27 => ?_)
      refine Rg.append rfl rfl rfl rfl rfl own (Src.one (y := (nextG f.now R).1) rfl) (by simp <;> omega) (by simp [maxLen] <;> omega) rfl (fun v28 s28 own28 => ?_)
      refine Rg.pure rfl rfl rfl (Pv.assign rfl) ?_
      refine Rg.nil ?_
      refine Vc.blk ?_
      refine Vc.blk ?_
      exact Vc.inv7 (k + opsR R) (acc ++ [x]) (nextG f.now R).2.2.2 g1 g2 v28 s28 ⟨⟨hok2, by omega, by rw [hr3, ← htot, hr1]; simp, hR21, hD21, by rw [← hr2]; exact own28⟩, by rw [hr3, hr1]; simp⟩ (.cons rfl (.cons rfl .nil)) pulled
end Go.Proofs.Ytbhaahohaccecaa

namespace Go.Proofs.Ytbhaahohaccecaa
set_option linter.unusedVariables false

def RIn (r : Rk) : Prop := r.key < 2 ^ 64 ∧ r.val < 2 ^ 64
theorem getB_at {a b c : List UInt8} {k s : Nat} (hk : a.length = k) (hs : b.length = s) : getB (a ++ (b ++ c)) k s = leNum b := by
  subst hk; subst hs
  rw [getB, List.drop_left' rfl, List.take_left' rfl]
theorem recsOf_recsB : ∀ (l : List Rk), (∀ r ∈ l, RIn r) → recsOf (recsB l) = l
  | [], _ => rfl
  | r :: l, h => by
    have ih := recsOf_recsB l fun x hx => h x (by simp [hx])
    have hr := h r (by simp)
    have hl : (recsB (r :: l)).length = 16 * (l.length + 1) := recsB_length _
    have e : recsB (r :: l) = leBytes 8 r.key ++ (leBytes 8 r.val ++ recsB l) := by simp [recsB, recB]
    rw [recsOf_cons (by omega), e]
    have h1 := getB_at (a := []) (b := leBytes 8 r.key) (c := leBytes 8 r.val ++ recsB l) (k := 0) (s := 8) rfl (by simp)
    have h2 := getB_at (a := leBytes 8 r.key) (b := leBytes 8 r.val) (c := recsB l) (k := 8) (s := 8) (by simp) (by simp)
    rw [List.nil_append] at h1
    have h3 : (leBytes 8 r.key ++ (leBytes 8 r.val ++ recsB l)).drop 16 = recsB l := by
      rw [← List.append_assoc, List.drop_left' (by simp)]
    rw [h1, h2, h3, ih, leNum_leBytes, leNum_leBytes, Nat.mod_eq_of_lt (by rw [show (256 : Nat) ^ 8 = 2 ^ 64 by decide]; exact hr.1), Nat.mod_eq_of_lt (by rw [show (256 : Nat) ^ 8 = 2 ^ 64 by decide]; exact hr.2)]
theorem encG_parts (t rest : List UInt8) : encG t ++ rest = leBytes 2 t.length ++ (t ++ (leBytes 4 (crcG (hdG t)) ++ rest)) := by simp [encG, hdG]
theorem decG_encG {t rest : List UInt8} (h : t.length ≤ 1000) : decG (encG t ++ rest) = (t, t.length + 6, 0) := by
  have hl := encG_length t
  have h2 : (encG t ++ rest).take 2 = leBytes 2 t.length := by rw [encG_parts, List.take_left' (by simp)]
  have hn : leNum ((encG t ++ rest).take 2) = t.length := by rw [h2, leNum_leBytes, Nat.mod_eq_of_lt (by show t.length < 256 ^ 2; omega)]
  have hh : (encG t ++ rest).take (2 + t.length) = hdG t := by
    rw [encG, List.append_assoc, List.take_left' (by rw [hdG_length]; omega)]
  have hc := crcG_lt (hdG t)
  have hg : getB (encG t ++ rest) (2 + t.length) 4 = crcG (hdG t) := by
    rw [encG, List.append_assoc, getB_at (by rw [hdG_length]; omega) (by simp), leNum_leBytes, Nat.mod_eq_of_lt (by show _ < 256 ^ 4; omega)]
  have ht : ((encG t ++ rest).drop 2).take t.length = t := by rw [encG_parts, List.drop_left' (by simp), List.take_left' rfl]
  have hll : (encG t ++ rest).length = t.length + 6 + rest.length := by rw [List.length_append, hl]
  unfold decG
  rw [if_neg (by omega), hn, if_neg (by omega), hh, hg, if_neg (by simp), ht]
/-- a front of a block is none -/
theorem decG_front {t : List UInt8} {m : Nat} (h : t.length ≤ 1000) (hm : m < t.length + 6) : (decG ((encG t).take m)).2.2 = 2 := by
  have hl := encG_length t
  have hml : ((encG t).take m).length = m := by simp; omega
  unfold decG
  by_cases h2 : m < 2
  · rw [if_pos (by omega)]
  · have e : (encG t).take 2 = leBytes 2 t.length := by
      have := encG_parts t []
      rw [List.append_nil] at this
      rw [this, List.take_left' (by simp)]
    have h3 : ((encG t).take m).take 2 = leBytes 2 t.length := by rw [List.take_take, Nat.min_eq_left (by omega), e]
    rw [if_neg (by omega), h3, leNum_leBytes, Nat.mod_eq_of_lt (by show t.length < 256 ^ 2; omega), if_pos (.inr (by omega))]
theorem drop_take_take (b : List UInt8) {m a s : Nat} (h : a + s ≤ m) : ((b.take m).drop a).take s = (b.drop a).take s := by
  rw [List.drop_take, List.take_take, Nat.min_eq_left (by omega)]
/-- no block has more bytes than that -/
theorem decG_most (b : List UInt8) : decG (b.take 1006) = decG b := by
  have hl : (b.take 1006).length = min 1006 b.length := List.length_take
  have h2 : (b.take 1006).take 2 = b.take 2 := by rw [List.take_take, Nat.min_eq_left (by omega)]
  unfold decG
  rw [h2]
  by_cases c1 : b.length < 2
  · rw [if_pos (by omega), if_pos c1]
  · rw [if_neg (by omega), if_neg c1]
    by_cases c2 : 1000 < leNum (b.take 2) ∨ b.length < leNum (b.take 2) + 6
    · rw [if_pos (by omega), if_pos c2]
    · rw [if_neg (by omega), if_neg c2]
      have hg : getB (b.take 1006) (2 + leNum (b.take 2)) 4 = getB b (2 + leNum (b.take 2)) 4 := by
        rw [getB, getB, drop_take_take b (by omega)]
      have hc : (b.take 1006).take (2 + leNum (b.take 2)) = b.take (2 + leNum (b.take 2)) := by rw [List.take_take, Nat.min_eq_left (by omega)]
      rw [hg, hc, drop_take_take b (by omega)]

/-! ### A file of records -/
def blkB (l : List Rk) (q : Nat) : List UInt8 := (List.range q).flatMap fun j => encG (recsB (chunk l j))
def bytesG (l : List Rk) : List UInt8 := blkB l (nblk l)
theorem blkB_succ (l : List Rk) (q : Nat) : blkB l (q + 1) = blkB l q ++ encG (recsB (chunk l q)) := by simp [blkB, List.range_succ]
theorem blkB_split (l : List Rk) {q Q : Nat} (h : q < Q) : ∃ rest, blkB l Q = blkB l q ++ (encG (recsB (chunk l q)) ++ rest) := by
  induction Q with
  | zero => omega
  | succ Q ih =>
    by_cases e : q = Q
    · subst e
      exact ⟨[], by rw [blkB_succ, List.append_nil]⟩
    · obtain ⟨rest, hr⟩ := ih (by omega)
      exact ⟨rest ++ encG (recsB (chunk l Q)), by rw [blkB_succ, hr]; simp⟩
theorem chunk_eq {l : List Rk} {q : Nat} (h : q < nblk l) : (chunk l q).length = min 50 (l.length - 50 * q) ∧ 0 < (chunk l q).length := by
  unfold nblk at h
  have h1 : (chunk l q).length = min 50 (l.length - 50 * q) := by simp [chunk]
  exact ⟨h1, by omega⟩
theorem drop_chunk (l : List Rk) (q : Nat) : l.drop (50 * q) = chunk l q ++ l.drop (50 * (q + 1)) := by
  unfold chunk
  conv => lhs; rw [← List.take_append_drop 50 (l.drop (50 * q))]
  rw [List.drop_drop]
  congr 2
theorem chunk_in {l : List Rk} (h : ∀ r ∈ l, RIn r) (q : Nat) : ∀ r ∈ chunk l q, RIn r := fun r hr => h r (List.mem_of_mem_drop (List.mem_of_mem_take hr))
/-- of a front of a file's bytes some of the records are read, from the first one on; of all bytes all -/
theorem blkG_front {l : List Rk} (hI : ∀ r ∈ l, RIn r) {Q m : Nat} (hQ : Q ≤ nblk l) {c : List UInt8} (hc : c = (blkB l Q).take m) : ∀ (k q fuel : Nat) (short : Bool), Q - q ≤ k → q ≤ Q → (blkB l q).length ≤ c.length → (q < Q → short = false) → c.length - (blkB l q).length < fuel →
    (∃ j, (blkG c c.length fuel (blkB l q).length short).1 = (l.drop (50 * q)).take j) ∧ ((blkG c c.length fuel (blkB l q).length short).2 = 0 ∨ (blkG c c.length fuel (blkB l q).length short).2 = 2) ∧
      ((blkB l Q).length ≤ m → Q = nblk l → blkG c c.length fuel (blkB l q).length short = (l.drop (50 * q), 0))
  | k, q, 0, short, hk, hq, hle, hs, hf => by omega
  | k, q, fuel + 1, short, hk, hq, hle, hs, hf => by
    rw [blkG]
    by_cases hlt : (blkB l q).length < c.length
    · rw [if_pos hlt]
      have hqQ : q < Q := by
        by_cases e : q = Q
        · subst e
          have : c.length ≤ (blkB l q).length := by rw [hc, List.length_take]; exact Nat.min_le_right _ _
          omega
        · omega
      have hqn : q < nblk l := by omega
      obtain ⟨hcl, hc0⟩ := chunk_eq hqn
      obtain ⟨rest, hr⟩ := blkB_split l hqQ
      obtain ⟨t, ht⟩ : ∃ t, t = recsB (chunk l q) := ⟨_, rfl⟩
      rw [← ht] at hr
      have htl : t.length = 16 * (chunk l q).length := by rw [ht, recsB_length]
      have hm : (blkB l q).length < m := by rw [hc, List.length_take] at hlt; omega
      have hd : c.drop (blkB l q).length = (encG t ++ rest).take (m - (blkB l q).length) := by
        rw [hc, hr, List.drop_take, List.drop_left' rfl]
      have hdl : c.length - (blkB l q).length = min (m - (blkB l q).length) (encG t ++ rest).length := by
        have := congrArg List.length hd
        rw [List.length_drop, List.length_take] at this
        exact this
      have hdec : decG ((c.drop (blkB l q).length).take (min 1006 (c.length - (blkB l q).length))) = decG (c.drop (blkB l q).length) := by
        rw [← decG_most (c.drop (blkB l q).length)]
        congr 1
        rw [List.take_eq_take_iff, List.length_drop]
        omega
      have hel := encG_length t
      have hs0 := hs hqQ
      simp only
      rw [hdec, hd]
      by_cases hfull : t.length + 6 ≤ m - (blkB l q).length
      · have e1 : (encG t ++ rest).take (m - (blkB l q).length) = encG t ++ rest.take (m - (blkB l q).length - (t.length + 6)) := by
          rw [List.take_append, List.take_of_length_le (by omega), hel]
        rw [e1, decG_encG (by omega)]
        have hbad : ¬ badT t short := by
          intro hb
          unfold badT at hb
          rw [hs0] at hb
          rcases hb with h | h | h | h
          · omega
          · omega
          · omega
          · cases h
        rw [if_neg (by simp), if_neg hbad]
        have hro : recsOf t = chunk l q := by rw [ht, recsOf_recsB _ (chunk_in hI q)]
        have hbl : (blkB l (q + 1)).length = (blkB l q).length + (t.length + 6) := by rw [blkB_succ, List.length_append, ← ht, hel]
        have hcl2 : (blkB l (q + 1)).length ≤ c.length := by
          rw [List.length_append, hel] at hdl
          omega
        obtain ⟨⟨j, h1⟩, h2, h3⟩ := blkG_front hI hQ hc (k - 1) (q + 1) fuel (decide (t.length < 800)) (by omega) (by omega) hcl2 (fun h => decide_eq_false (by unfold nblk at hqn hQ; omega)) (by omega)
        rw [hbl] at h1 h2 h3
        refine ⟨⟨(chunk l q).length + j, ?_⟩, h2, fun ha hb => ?_⟩
        · show recsOf t ++ _ = _
          rw [h1, hro, drop_chunk l q, List.take_length_add_append]
        · show (recsOf t ++ _, _) = _
          rw [h3 ha hb, hro, drop_chunk l q]
      · have e1 : (encG t ++ rest).take (m - (blkB l q).length) = (encG t).take (m - (blkB l q).length) := List.take_append_of_le_length (by omega)
        have e2 := decG_front (t := t) (m := m - (blkB l q).length) (by omega) (by omega)
        rw [e1, if_pos (by rw [e2]; decide), e2]
        refine ⟨⟨0, by simp⟩, .inr rfl, fun ha hb => ?_⟩
        rw [hr, List.length_append, List.length_append] at ha
        omega
    · rw [if_neg hlt]
      refine ⟨⟨0, by simp⟩, .inl rfl, fun ha hb => ?_⟩
      have hcq : c = blkB l Q := by rw [hc, List.take_of_length_le ha]
      have hqn : ¬ q < nblk l := fun h => by
        obtain ⟨rest, hr⟩ := blkB_split l (show q < Q by omega)
        have := congrArg List.length hr
        rw [List.length_append, List.length_append, encG_length, ← hcq] at this
        omega
      rw [List.drop_eq_nil_of_le (by unfold nblk at hqn; omega)]
theorem readG_bytes {l : List Rk} (hI : ∀ r ∈ l, RIn r) : readG (bytesG l) = (l, 0) := by
  have := (blkG_front hI (Nat.le_refl (nblk l)) (m := (bytesG l).length) (c := bytesG l) (by rw [bytesG, List.take_length]) (nblk l) 0 ((bytesG l).length + 1) false (by omega) (by omega) (Nat.zero_le _) (fun _ => rfl) (by simp [blkB])).2.2 (Nat.le_refl _) rfl
  simpa [readG, blkB] using this
theorem readG_front {l : List Rk} (hI : ∀ r ∈ l, RIn r) {Q : Nat} (hQ : Q ≤ nblk l) (m : Nat) : (∃ j, (readG ((blkB l Q).take m)).1 = l.take j) ∧ ((readG ((blkB l Q).take m)).2 = 0 ∨ (readG ((blkB l Q).take m)).2 = 2) := by
  have := blkG_front hI hQ (m := m) (c := (blkB l Q).take m) rfl Q 0 (((blkB l Q).take m).length + 1) false (by omega) (by omega) (Nat.zero_le _) (fun _ => rfl) (by simp [blkB])
  exact ⟨by simpa [readG, blkB] using this.1, by simpa [readG, blkB] using this.2.1⟩
end Go.Proofs.Ytbhaahohaccecaa

namespace Go.Proofs.Ytbhaahohaccecaa
set_option linter.unusedVariables false

theorem eq_rec (x y : Rk) (w : World) : (Op.equal 39 (recV x) (recV y)).run Try.prog w = .ok (decide (x = y)) w := by
  have h1 : ∀ d a b w, (Op.equalIn (d + 1) 37 (.int .u64 a) (.int .u64 b)).run Try.prog w = .ok (a == b) w := fun d a b w => by
    simp [Op.equalIn]
  have key : ∀ d, (Op.equalIn (d + 2) 39 (recV x) (recV y)).run Try.prog w = .ok (decide (x = y)) w := fun d => by
    rw [run_equalIn_struct w (d + 1) 39 _ _ (by kernel_rfl) Try.stoodInHeld39]
    have hf : (Try.prog.fieldsOf 39).toList = [⟨ "Key", 37, 0, false, "", "", 0⟩, ⟨ "Val", 37, 1, false, "", "", 8⟩] := by kernel_rfl
    rw [hf]
    simp [Op.eqFields, part, h1]
    cases x; cases y
    simp only [Rk.mk.injEq]
    split <;> simp_all
    split <;> simp_all
    all_goals omega
  exact key 9998
instance : TyEqE Try.prog 39 recE := ⟨fun x => ⟨_, rfl⟩, Try.eqGuardType39, eq_rec⟩

theorem same_spec {F : Fm} {va vb : Value} {xs ys : List Rk} (ha : Arg recE F va xs) (hb : Arg recE F vb ys) (hN : xs.length < 1000000) (hM : ys.length < 1000000) :
    Spec Try.prog 15 #[va, vb] F [] fun v _ => v = .bool (decide (xs = ys)) := by
  obtain ⟨p, c, rfl⟩ := ha.shape
  obtain ⟨q, d, rfl⟩ := hb.shape
  refine Spec.of (n := 26) (vs := [.slice p xs.length c, .slice q ys.length d]) Try.func15 rfl Try.ntmps15 rfl ?_
  refine Vc.seq ?_
  refine Vc.text (List.range 1) (sd [(0, .pure)]) rfl ?_
  refine Rg.pure rfl rfl rfl (Pv.assign rfl) ?_
  refine Rg.nil ?_
  refine Vc.seq ?_
  refine Vc.seq ?_
  refine Vc.text (List.range 5) (sd [(0, .pure), (1, .pure), (2, .pure), (3, .pure), (4, .pure)]) rfl ?_
  refine Rg.pure rfl rfl rfl (Pv.move rfl) ?_
  refine Rg.pure rfl rfl rfl (Pv.lenS rfl) ?_
  refine Rg.pure rfl rfl rfl (Pv.move rfl) ?_
  refine Rg.pure rfl rfl rfl (Pv.lenS rfl) ?_
  refine Rg.pure rfl rfl rfl (Pv.neq rfl rfl) ?_
  refine Rg.nil ?_
  refine Vc.cond rfl (fun h10 => ?_) (fun h10 => ?_)
  ·
    simp only [bne_iff_ne, ne_eq] at h10
    refine Vc.seq ?_
    refine Vc.text (List.range 1) (sd [(0, .pure)]) rfl ?_
    refine Rg.pure rfl rfl rfl (Pv.assign rfl) ?_
    refine Rg.nil ?_
    refine Vc.ret (Vc.rets rfl (.cons (.tmp rfl) (.nil)) ?_)
    exact congrArg Value.bool (decide_eq_false (fun e => h10 (by rw [e]))).symm
  ·
    simp only [bne_eq_false_iff_eq] at h10
    have hl : xs.length = ys.length := by omega
    refine Vc.skip ?_
    refine Vc.seq ?_
    refine Vc.seq ?_
    refine Vc.text (List.range 1) (sd [(0, .pure)]) rfl ?_
    refine Rg.pure rfl rfl rfl (Pv.assign rfl) ?_
    refine Rg.nil ?_
    refine Vc.block ?_
    refine Vc.loop1 (fun (i : Nat) => i ≤ xs.length ∧ xs.take i = ys.take i) (fun i => [(0, .slice p xs.length c), (1, .slice q ys.length d), (5, .int .i64 (i : Int))]) (fun i => []) (fun i => xs.length - i) 0 ⟨Nat.zero_le _, rfl⟩ (.cons rfl (.cons rfl (.cons rfl .nil))) pulled ?_
    rintro i ⟨hi, htk⟩
    refine Vc.seq ?_
    refine Vc.seq ?_
    refine Vc.text (List.range 4) (sd [(0, .pure), (1, .pure), (2, .pure), (3, .pure)]) rfl ?_
    refine Rg.pure rfl rfl rfl (Pv.move rfl) ?_
    refine Rg.pure rfl rfl rfl (Pv.move rfl) ?_
    refine Rg.pure rfl rfl rfl (Pv.lenS rfl) ?_
    refine Rg.pure rfl rfl rfl (Pv.lss rfl rfl) ?_
    refine Rg.nil ?_
    refine Vc.cond rfl (fun h14 => ?_) (fun h14 => ?_)
    ·
      simp only [decide_eq_true_eq] at h14
      obtain ⟨b1, o1, c1, e, _⟩ := ha.block (by omega)
      cases e
      obtain ⟨b2, o2, c2, e, _⟩ := hb.block (by omega)
      cases e
      have t1 : xs.take (i + 1) = xs.take i ++ [xs[i]!] := by rw [List.take_succ_eq_append_getElem (by omega), getElem!_pos xs i (by omega)]
      have t2 : ys.take (i + 1) = ys.take i ++ [ys[i]!] := by rw [List.take_succ_eq_append_getElem (by omega), getElem!_pos ys i (by omega)]
      refine Vc.skip ?_
      refine Vc.seq ?_
      refine Vc.block ?_
      refine Vc.seq ?_
      refine Vc.draw [] (sd [(0, .pure), (1, .pure), (2, .pure), (3, .read), (4, .pure), (5, .pure), (6, .pure), (7, .read), (8, .pure)]) mixed (by kernel_rfl) ?_
      refine Rg.pure rfl rfl rfl (Pv.move rfl) ?_
      refine Rg.pure rfl rfl rfl (Pv.move rfl) ?_
      refine Rg.pure rfl rfl rfl (Pv.ixA (i) rfl rfl (by omega) (by omega)) ?_
      refine Rg.read rfl rfl rfl (Ev.ldS (i) (ha.src) rfl rfl rfl (by omega)) ?_
      refine Rg.pure rfl rfl rfl (Pv.move rfl) ?_
      refine Rg.pure rfl rfl rfl (Pv.move rfl) ?_
      refine Rg.pure rfl rfl rfl (Pv.ixA (i) rfl rfl (by omega) (by omega)) ?_
      refine Rg.read rfl rfl rfl (Ev.ldS (i) (hb.src) rfl rfl rfl (by omega)) ?_
      refine Rg.pure rfl rfl rfl (Pv.neqE recE _ _ rfl rfl) ?_
      refine Rg.nil ?_
      refine Vc.cond rfl (fun h25 => ?_) (fun h25 => ?_)
      ·
        simp only [Bool.not_eq_true', decide_eq_false_iff_not] at h25
        refine Vc.seq ?_
        refine Vc.text (List.range 1) (sd [(0, .pure)]) rfl ?_
        refine Rg.pure rfl rfl rfl (Pv.assign rfl) ?_
        refine Rg.nil ?_
        refine Vc.ret (Vc.rets rfl (.cons (.tmp rfl) (.nil)) ?_)
        exact congrArg Value.bool (decide_eq_false (fun e => h25 (by rw [e]))).symm
      ·
        simp only [Bool.not_eq_false', decide_eq_true_eq] at h25
        refine Vc.skip ?_
        refine Vc.blk ?_
        refine Vc.text (List.range 3) (sd [(0, .pure), (1, .pure), (2, .pure)]) rfl ?_
        refine Rg.pure rfl rfl rfl (Pv.move rfl) ?_
        refine Rg.pure rfl rfl rfl (Pv.asI (i + 1) (Pv.add rfl rfl (by omega)) (by omega)) ?_
        refine Rg.pure rfl rfl rfl (Pv.assign rfl) ?_
        refine Rg.nil ?_
        exact Vc.inv1 (i + 1) ⟨⟨by omega, by rw [t1, t2, htk, h25]⟩, by omega⟩ (.cons rfl (.cons rfl (.cons rfl .nil))) pulled
    ·
      simp only [decide_eq_false_iff_not] at h14
      have hxy : xs = ys := by rwa [List.take_of_length_le (by omega), List.take_of_length_le (by omega)] at htk
      refine Vc.exit rfl ?_
      refine Vc.seq ?_
      refine Vc.text (List.range 1) (sd [(0, .pure)]) rfl ?_
      refine Rg.pure rfl rfl rfl (Pv.assign rfl) ?_
      refine Rg.nil ?_
      refine Vc.ret (Vc.rets rfl (.cons (.tmp rfl) (.nil)) ?_)
      exact congrArg Value.bool (decide_eq_true hxy).symm

theorem rencode_spec {F : Fm} {v : Value} {t : List UInt8} (ha : Arg byteE F v t) (hN : t.length ≤ 1000) :
    Spec Try.prog 43 #[v] F [] fun v s => Own byteE v (encG t) s := by
  obtain ⟨p, c, rfl⟩ := ha.shape
  refine Spec.of (n := 15) (vs := [.slice p t.length c]) Try.func43 rfl Try.ntmps43 rfl ?_
  have hlt := crcG_lt (hdG t)
  refine Vc.seq ?_
  refine Vc.text (List.range 1) (sd [(0, .pure)]) rfl ?_
  refine Rg.pure rfl rfl rfl (Pv.assign rfl) ?_
  refine Rg.nil ?_
  refine Vc.seq ?_
  refine Vc.text (List.range 7) (sd [(0, .pure), (1, .pure), (2, .pure), (3, .eff), (4, .pure), (5, .eff), (6, .pure)]) rfl ?_
  refine Rg.pure rfl rfl rfl (Pv.move rfl) ?_
  refine Rg.pure rfl rfl rfl (Pv.lenS rfl) ?_
  refine Rg.pure rfl rfl rfl (Pv.asI t.length (Pv.convI rfl) (wrap_ult rfl (by show _ < 2 ^ 64; omega))) ?_
  refine Rg.callA rfl rfl rfl (run_callF rfl) (rput_spec (Arg.nil (E := byteE)) (by simp) 2 t.length (by omega)) ?_
  rintro v7 s7 own7
  rw [List.nil_append] at own7
  refine Rg.pure rfl rfl rfl (Pv.move rfl) ?_
  refine Rg.append rfl rfl rfl rfl rfl own7 ha.src (by simp <;> omega) (by simp [maxLen] <;> omega) rfl (fun v9 s9 own9 => ?_)
  replace own9 : Own byteE v9 (hdG t) s9 := own9
  refine Rg.pure rfl rfl rfl (Pv.assign rfl) ?_
  refine Rg.nil ?_
  refine Vc.seq ?_
  refine Vc.text (List.range 6) (sd [(0, .pure), (1, .pure), (2, .eff), (3, .pure), (4, .eff), (5, .pure)]) rfl ?_
  refine Rg.pure rfl rfl rfl (Pv.move rfl) ?_
  refine Rg.pure rfl rfl rfl (Pv.move rfl) ?_
  refine Rg.callP rfl rfl rfl (run_callF rfl) (rcrc_spec (Arg.own own9 frz_sb) (by rw [hdG_length]; omega)) ?_
  rintro _ rfl
  refine Rg.pure rfl rfl rfl (Pv.asI (crcG (hdG t)) (Pv.convI rfl) (wrap_ult rfl (by show _ < 2 ^ 64; omega))) ?_
  refine Rg.callA rfl rfl rfl (run_callF rfl) (rput_spec (Arg.own own9 frz_sb) (by rw [hdG_length]; omega) 4 (crcG (hdG t)) (by omega)) ?_
  rintro v14 s14 own14
  refine Rg.pure rfl rfl rfl (Pv.assign rfl) ?_
  refine Rg.nil ?_
  exact Vc.ret (Vc.retsH rfl (.cons (.tmp rfl) (.nil)) (own14) pulled)
theorem enc_iff {b : List UInt8} {n : Nat} (hn : n = leNum (b.take 2)) (h4 : n + 6 ≤ b.length) : encG ((b.drop 2).take n) = b.take (n + 6) ↔ getB b (2 + n) 4 = crcG (b.take (2 + n)) := by
  have ht : ((b.drop 2).take n).length = n := by simp; omega
  have h2 : leBytes 2 n = b.take 2 := by
    have := leBytes_leNum (b.take 2)
    rwa [show (b.take 2).length = 2 by simp; omega, ← hn] at this
  have hh : hdG ((b.drop 2).take n) = b.take (2 + n) := by
    rw [hdG, ht, h2, List.take_add]
  have hw : ((b.drop (2 + n)).take 4).length = 4 := by simp; omega
  have hs : b.take (n + 6) = b.take (2 + n) ++ (b.drop (2 + n)).take 4 := by rw [show n + 6 = 2 + n + 4 by omega, List.take_add]
  have hc := crcG_lt (b.take (2 + n))
  rw [encG, hh, hs, List.append_cancel_left_eq, getB]
  constructor
  · intro h
    rw [← h, leNum_leBytes, Nat.mod_eq_of_lt (by show _ < 256 ^ 4; omega)]
  · intro h
    rw [← h]
    have := leBytes_leNum ((b.drop (2 + n)).take 4)
    rwa [hw] at this
theorem rdecode_spec {F : Fm} {v : Value} {b : List UInt8} (ha : Arg byteE F v b) (hN : b.length < 1000000) :
    Spec Try.prog 34 #[v] F [] fun v s => ∃ u, v = .tuple #[u, .int .i64 ((decG b).2.1 : Int), .int .i64 ((decG b).2.2 : Int)] ∧ Own byteE u (decG b).1 s := by
  obtain ⟨p, c, rfl⟩ := ha.shape
  by_cases h2 : b.length < 2
  · have hd : decG b = ([], 0, 2) := by rw [decG, if_pos h2]
    rw [hd]
    refine Spec.of (n := 48) (vs := [.slice p b.length c]) Try.func34 rfl Try.ntmps34 rfl ?_
    refine Vc.seq ?_
    refine Vc.text (List.range 3) (sd [(0, .pure), (1, .pure), (2, .pure)]) rfl ?_
    refine Rg.pure rfl rfl rfl (Pv.assign rfl) ?_
    refine Rg.pure rfl rfl rfl (Pv.assign rfl) ?_
    refine Rg.pure rfl rfl rfl (Pv.assign rfl) ?_
    refine Rg.nil ?_
    refine Vc.seq ?_
    refine Vc.text (List.range 7) (sd [(0, .pure), (1, .eff), (2, .pure), (3, .pure), (4, .pure), (5, .pure), (6, .pure)]) rfl ?_
    refine Rg.pure rfl rfl rfl (Pv.move rfl) ?_
    refine Rg.callP rfl rfl rfl (run_callF rfl) (rget_none (ha.mono fun b o h => Or.inr h) (by omega) 0 2 (by omega) (by omega) (by omega) (by omega)) ?_
    rintro _ rfl
    refine Rg.pure rfl rfl rfl (Pv.move rfl) ?_
    refine Rg.pure rfl rfl rfl (Pv.extract rfl rfl) ?_
    refine Rg.pure rfl rfl rfl (Pv.extract rfl rfl) ?_
    refine Rg.pure rfl rfl rfl (Pv.assign rfl) ?_
    refine Rg.pure rfl rfl rfl (Pv.assign rfl) ?_
    refine Rg.nil ?_
    refine Vc.seq ?_
    refine Vc.seq ?_
    refine Vc.text (List.range 14) (sd [(0, .pure), (1, .pure), (2, .pure), (3, .pure), (4, .pure), (5, .pure), (6, .pure), (7, .pure), (8, .pure), (9, .pure), (10, .pure), (11, .pure), (12, .pure), (13, .pure)]) rfl ?_
    refine Rg.pure rfl rfl rfl (Pv.move rfl) ?_
    refine Rg.pure rfl rfl rfl (Pv.not rfl) ?_
    refine Rg.pure rfl rfl rfl (Pv.move rfl) ?_
    refine Rg.split (t := 15) rfl (fun h15 => ?_) (fun h15 => absurd h15 (by decide))
    iterate 2 (first | refine Rg.skipP rfl rfl rfl ?_ | refine Rg.skipR rfl rfl rfl ?_ | refine Rg.skipE rfl rfl rfl ?_)
    refine Rg.pure rfl rfl rfl (Pv.pickT rfl rfl) ?_
    refine Rg.pure rfl rfl rfl (Pv.move rfl) ?_
    iterate 6 (first | refine Rg.skipP rfl rfl rfl ?_ | refine Rg.skipR rfl rfl rfl ?_ | refine Rg.skipE rfl rfl rfl ?_)
    refine Rg.pure rfl rfl rfl (Pv.pickT rfl rfl) ?_
    refine Rg.nil ?_
    refine Vc.cond rfl (fun h26 => ?_) (fun h26 => absurd h26 (by decide))
    refine Vc.seq ?_
    refine Vc.text (List.range 3) (sd [(0, .pure), (1, .pure), (2, .pure)]) rfl ?_
    refine Rg.pure rfl rfl rfl (Pv.assign rfl) ?_
    refine Rg.pure rfl rfl rfl (Pv.assign rfl) ?_
    refine Rg.pure rfl rfl rfl (Pv.assign rfl) ?_
    refine Rg.nil ?_
    exact Vc.ret (Vc.retsH rfl (.cons (.tmp rfl) (.cons (.tmp rfl) (.cons (.tmp rfl) (.nil)))) (⟨_, rfl, Own.nil⟩) pulled)
  · have hn := num2_lt (b := b) (by omega)
    obtain ⟨n, hnn⟩ : ∃ n, n = leNum (b.take 2) := ⟨_, rfl⟩
    have hd : decG b = if 1000 < n ∨ b.length < n + 6 then ([], 0, 2) else if getB b (2 + n) 4 ≠ crcG (b.take (2 + n)) then ([], 0, 3) else ((b.drop 2).take n, n + 6, 0) := by rw [decG, if_neg h2, hnn]
    have hcap : b.length ≤ c := ha.cap.2
    refine Spec.of (n := 48) (vs := [.slice p b.length c]) Try.func34 rfl Try.ntmps34 rfl ?_
    refine Vc.seq ?_
    refine Vc.text (List.range 3) (sd [(0, .pure), (1, .pure), (2, .pure)]) rfl ?_
    refine Rg.pure rfl rfl rfl (Pv.assign rfl) ?_
    refine Rg.pure rfl rfl rfl (Pv.assign rfl) ?_
    refine Rg.pure rfl rfl rfl (Pv.assign rfl) ?_
    refine Rg.nil ?_
    refine Vc.seq ?_
    refine Vc.text (List.range 7) (sd [(0, .pure), (1, .eff), (2, .pure), (3, .pure), (4, .pure), (5, .pure), (6, .pure)]) rfl ?_
    refine Rg.pure rfl rfl rfl (Pv.move rfl) ?_
    refine Rg.callP rfl rfl rfl (run_callF rfl) (rget_spec (ha.mono fun b o h => Or.inr h) (by omega) 0 2 (by omega) (by omega) (by omega)) ?_
    rintro _ rfl
    rw [getB_front, ← hnn]
    refine Rg.pure rfl rfl rfl (Pv.move rfl) ?_
    refine Rg.pure rfl rfl rfl (Pv.extract rfl rfl) ?_
    refine Rg.pure rfl rfl rfl (Pv.extract rfl rfl) ?_
    refine Rg.pure rfl rfl rfl (Pv.assign rfl) ?_
    refine Rg.pure rfl rfl rfl (Pv.assign rfl) ?_
    refine Rg.nil ?_
    refine Vc.seq ?_
    refine Vc.seq ?_
    refine Vc.text (List.range 14) (sd [(0, .pure), (1, .pure), (2, .pure), (3, .pure), (4, .pure), (5, .pure), (6, .pure), (7, .pure), (8, .pure), (9, .pure), (10, .pure), (11, .pure), (12, .pure), (13, .pure)]) rfl ?_
    refine Rg.pure rfl rfl rfl (Pv.move rfl) ?_
    refine Rg.pure rfl rfl rfl (Pv.not rfl) ?_
    refine Rg.pure rfl rfl rfl (Pv.move rfl) ?_
    refine Rg.split (t := 15) rfl (fun h15 => absurd h15 (by decide)) (fun h15 => ?_)
    refine Rg.pure rfl rfl rfl (Pv.move rfl) ?_
    refine Rg.pure rfl rfl rfl (Pv.gtr rfl rfl) ?_
    refine Rg.pure rfl rfl rfl (Pv.pickF rfl rfl) ?_
    refine Rg.pure rfl rfl rfl (Pv.move rfl) ?_
    refine Rg.split (t := 19) rfl (fun h19 => ?_) (fun h19 => ?_)
    ·
      simp only [decide_eq_true_eq] at h19
      iterate 6 (first | refine Rg.skipP rfl rfl rfl ?_ | refine Rg.skipR rfl rfl rfl ?_ | refine Rg.skipE rfl rfl rfl ?_)
      refine Rg.pure rfl rfl rfl (Pv.pickT rfl rfl) ?_
      refine Rg.nil ?_
      refine Vc.cond rfl (fun h26 => ?_) (fun h26 => absurd h26 (by decide))
      try simp only [decide_eq_true_eq] at h26
      have hd1 : decG b = ([], 0, 2) := by rw [hd, if_pos (by first | exact .inl (by omega) | exact .inr (by omega))]
      refine Vc.seq ?_
      refine Vc.text (List.range 3) (sd [(0, .pure), (1, .pure), (2, .pure)]) rfl ?_
      refine Rg.pure rfl rfl rfl (Pv.assign rfl) ?_
      refine Rg.pure rfl rfl rfl (Pv.assign rfl) ?_
      refine Rg.pure rfl rfl rfl (Pv.assign rfl) ?_
      refine Rg.nil ?_
      exact Vc.ret (Vc.retsH rfl (.cons (.tmp rfl) (.cons (.tmp rfl) (.cons (.tmp rfl) (.nil)))) (⟨_, by rw [hd1]; rfl, by rw [hd1]; exact Own.nil⟩) pulled)
    ·
      simp only [decide_eq_false_iff_not] at h19
      refine Rg.pure rfl rfl rfl (Pv.move rfl) ?_
      refine Rg.pure rfl rfl rfl (Pv.lenS rfl) ?_
      refine Rg.pure rfl rfl rfl (Pv.move rfl) ?_
      refine Rg.pure rfl rfl rfl (Pv.asI n (Pv.convI rfl) (i64_wrap (by omega))) ?_
      refine Rg.pure rfl rfl rfl (Pv.asI (n + 6) (Pv.add rfl rfl (by omega)) (by omega)) ?_
      refine Rg.pure rfl rfl rfl (Pv.lss rfl rfl) ?_
      refine Rg.pure rfl rfl rfl (Pv.pickF rfl rfl) ?_
      refine Rg.nil ?_
      refine Vc.cond rfl (fun h26 => ?_) (fun h26 => ?_)
      ·
        try simp only [decide_eq_true_eq] at h26
        have hd1 : decG b = ([], 0, 2) := by rw [hd, if_pos (by first | exact .inl (by omega) | exact .inr (by omega))]
        refine Vc.seq ?_
        refine Vc.text (List.range 3) (sd [(0, .pure), (1, .pure), (2, .pure)]) rfl ?_
        refine Rg.pure rfl rfl rfl (Pv.assign rfl) ?_
        refine Rg.pure rfl rfl rfl (Pv.assign rfl) ?_
        refine Rg.pure rfl rfl rfl (Pv.assign rfl) ?_
        refine Rg.nil ?_
        exact Vc.ret (Vc.retsH rfl (.cons (.tmp rfl) (.cons (.tmp rfl) (.cons (.tmp rfl) (.nil)))) (⟨_, by rw [hd1]; rfl, by rw [hd1]; exact Own.nil⟩) pulled)
      ·
        simp only [decide_eq_false_iff_not] at h26
        have hb4 : n + 6 ≤ b.length := by omega
        have hei := enc_iff hnn hb4
        have htl : ((b.drop 2).take n).length = n := by simp; omega
        rw [if_neg (by omega)] at hd
        refine Vc.skip ?_
        refine Vc.seq ?_
        refine Vc.text (List.range 8) (sd [(0, .eff), (1, .pure), (2, .pure), (3, .pure), (4, .pure), (5, .pure), (6, .eff), (7, .pure)]) rfl ?_
        refine Rg.bslice0 (E := byteE) rfl rfl rfl (fun b27 own27 => ?_)
        refine Rg.pure rfl rfl rfl (Pv.move rfl) ?_
        refine Rg.pure rfl rfl rfl (Pv.move rfl) ?_
        refine Rg.pure rfl rfl rfl (Pv.asI n (Pv.convI rfl) (i64_wrap (by omega))) ?_
        refine Rg.pure rfl rfl rfl (Pv.asI (2 + n) (Pv.add rfl rfl (by omega)) (by omega)) ?_
        refine Rg.pure rfl rfl rfl (Pv.sl (lv := some (.int .i64 ((2 : Nat) : Int))) (hv := some (.int .i64 ((2 + n : Nat) : Int))) 2 (2 + n) rfl rfl rfl (by omega) (by omega) (by simp)) ?_
        refine Rg.append rfl rfl rfl rfl rfl own27 (((ha.from (i := 2) (by omega)).take (k := 2 + n - 2) (by simp; omega)).src (ys := (b.drop 2).take (2 + n - 2))) (by simp; omega) (by rw [show maxLen = 9223372036854775807 from rfl]; simp; omega) rfl (fun v33 s33 own33 => ?_)
        rw [List.nil_append, show 2 + n - 2 = n by omega] at own33
        refine Rg.pure rfl rfl rfl (Pv.assign rfl) ?_
        refine Rg.nil ?_
        refine Vc.seq ?_
        refine Vc.seq ?_
        refine Vc.draw [] (sd [(0, .pure), (3, .pure), (4, .pure), (5, .pure), (6, .pure), (7, .pure), (8, .read), (1, .eff), (2, .read), (9, .pure)]) mixed (by kernel_rfl) ?_
        refine Rg.pure rfl rfl rfl (Pv.move rfl) ?_
        refine Rg.pure rfl rfl rfl (Pv.move rfl) ?_
        refine Rg.pure rfl rfl rfl (Pv.move rfl) ?_
        refine Rg.pure rfl rfl rfl (Pv.asI n (Pv.convI rfl) (i64_wrap (by omega))) ?_
        refine Rg.pure rfl rfl rfl (Pv.asI (n + 6) (Pv.add rfl rfl (by omega)) (by omega)) ?_
        refine Rg.pure rfl rfl rfl (Pv.slTo (n + 6) rfl rfl (by omega)) ?_
        refine Rg.read rfl rfl rfl (Ev.str ((ha.take (k := n + 6) (by omega)).src) rfl) ?_
        refine Rg.callA rfl rfl rfl (run_callF rfl) (rencode_spec (Arg.own own33 frz_sb) (by omega)) ?_
        rintro v35 s35 own35
        refine Rg.read rfl rfl rfl (Ev.str ((Arg.own (F := frz F s35) own35 fun b o hb => Or.inl hb).srcF) rfl) ?_
        refine Rg.pure rfl rfl rfl (Pv.neqS rfl rfl) ?_
        refine Rg.nil ?_
        refine Vc.cond rfl (fun h43 => ?_) (fun h43 => ?_)
        ·
          simp only [Bool.not_eq_true', decide_eq_false_iff_not] at h43
          rw [kS_ne, hei] at h43
          rw [if_pos h43] at hd
          refine Vc.seq ?_
          refine Vc.text (List.range 3) (sd [(0, .pure), (1, .pure), (2, .pure)]) rfl ?_
          refine Rg.pure rfl rfl rfl (Pv.assign rfl) ?_
          refine Rg.pure rfl rfl rfl (Pv.assign rfl) ?_
          refine Rg.pure rfl rfl rfl (Pv.assign rfl) ?_
          refine Rg.nil ?_
          exact Vc.ret (Vc.retsH rfl (.cons (.tmp rfl) (.cons (.tmp rfl) (.cons (.tmp rfl) (.nil)))) (⟨_, by rw [hd]; rfl, by rw [hd]; exact Own.nil⟩) pulled)
        ·
          simp only [Bool.not_eq_false', decide_eq_true_eq] at h43
          rw [kS_ne, hei] at h43
          rw [if_neg (by simpa using h43)] at hd
          refine Vc.skip ?_
          refine Vc.seq ?_
          refine Vc.text (List.range 7) (sd [(0, .pure), (1, .pure), (2, .pure), (3, .pure), (4, .pure), (5, .pure), (6, .pure)]) rfl ?_
          refine Rg.pure rfl rfl rfl (Pv.move rfl) ?_
          refine Rg.pure rfl rfl rfl (Pv.move rfl) ?_
          refine Rg.pure rfl rfl rfl (Pv.asI n (Pv.convI rfl) (i64_wrap (by omega))) ?_
          refine Rg.pure rfl rfl rfl (Pv.asI (n + 6) (Pv.add rfl rfl (by omega)) (by omega)) ?_
          refine Rg.pure rfl rfl rfl (Pv.assign rfl) ?_
          refine Rg.pure rfl rfl rfl (Pv.assign rfl) ?_
          refine Rg.pure rfl rfl rfl (Pv.assign rfl) ?_
          refine Rg.nil ?_
          exact Vc.ret (Vc.retsH rfl (.cons (.tmp rfl) (.cons (.tmp rfl) (.cons (.tmp rfl) (.nil)))) (⟨v33, by rw [hd]; rfl, by rw [hd]; exact own33⟩) pulled)
theorem Arg.upTo' {α : Type} {E : Enc α} {F : Fm} {p : Option Addr} {c : Nat} {xs : List α} (h : Arg E F (.slice p xs.length c) xs) (k : Nat) : ∃ b : List α, b.length = min xs.length k ∧ b = xs.take k ∧ min xs.length k ≤ c ∧ Arg E F (.slice p (min xs.length k) c) b :=
  ⟨xs.take k, by simp; omega, rfl, by have := h.cap.2; omega, by
    have := h.take (k := min xs.length k) (Nat.min_le_left _ _)
    rwa [show xs.take (min xs.length k) = xs.take k by rw [List.take_eq_take_iff]; omega] at this⟩
theorem few_spec {F : Fm} {v : Value} {l : List Rk} (ha : Arg recE F v l) : Spec Try.prog 18 #[v] F [] fun v s => Own recE v (l.take 160) s := by
  obtain ⟨p, c, rfl⟩ := ha.shape
  obtain ⟨b, h1, h2, h3, h4⟩ := ha.upTo' 160
  refine Spec.of (n := 10) (vs := [.slice p l.length c]) Try.func18 rfl Try.ntmps18 rfl ?_
  rw [← h1] at h3 h4
  rw [← h2]
  refine Vc.seq ?_
  refine Vc.text (List.range 1) (sd [(0, .pure)]) rfl ?_
  refine Rg.pure rfl rfl rfl (Pv.assign rfl) ?_
  refine Rg.nil ?_
  refine Vc.seq ?_
  refine Vc.text (List.range 8) (sd [(0, .eff), (1, .pure), (2, .pure), (3, .pure), (4, .pure), (5, .pure), (6, .eff), (7, .pure)]) rfl ?_
  refine Rg.bslice0 (E := recE) rfl rfl rfl (fun b3 own3 => ?_)
  refine Rg.pure rfl rfl rfl (Pv.move rfl) ?_
  refine Rg.pure rfl rfl rfl (Pv.move rfl) ?_
  refine Rg.pure rfl rfl rfl (Pv.lenS rfl) ?_
  refine Rg.pure rfl rfl rfl (Pv.asI (b.length) (Pv.min rfl rfl) (by omega)) ?_
  refine Rg.pure rfl rfl rfl (Pv.slTo (b.length) rfl rfl (by omega)) ?_
  refine Rg.append rfl rfl rfl rfl rfl own3 h4.src (by simp <;> omega) (by simp [maxLen] <;> omega) rfl (fun v9 s9 own9 => ?_)
  refine Rg.pure rfl rfl rfl (Pv.assign rfl) ?_
  refine Rg.nil ?_
  exact Vc.ret (Vc.retsH rfl (.cons (.tmp rfl) (.nil)) (own9) pulled)
end Go.Proofs.Ytbhaahohaccecaa

namespace Go.Proofs.Ytbhaahohaccecaa
set_option linter.unusedVariables false

theorem blkB_le (l : List Rk) : ∀ q, (blkB l q).length ≤ 806 * q
  | 0 => by simp [blkB]
  | q + 1 => by
    have := blkB_le l q
    have h := chunk_length l q
    rw [blkB_succ, List.length_append, encG_length, recsB_length]
    omega
theorem chunk_get {l : List Rk} {q i : Nat} (h : i < (chunk l q).length) : (l.drop (50 * q))[i]! = (chunk l q)[i]! := by
  have hl : (chunk l q).length ≤ (l.drop (50 * q)).length := by simp only [chunk, List.length_take]; omega
  rw [getElem!_pos _ i (by omega), getElem!_pos _ i h]
  simp [chunk]
theorem rk_snoc {l : List Rk} {i : Nat} (h : i < l.length) : recsB (l.take (i + 1)) = recsB (l.take i) ++ recB l[i]! := by
  rw [take_step h, recsB_snoc]
set_option maxHeartbeats 1000000 in
theorem bytes_spec {F : Fm} {v : Value} {l : List Rk} (ha : Arg recE F v l) (hN : l.length ≤ 200) :
    Spec Try.prog 25 #[v] F [] fun v s => Own byteE v (bytesG l) s := by
  obtain ⟨p, c, rfl⟩ := ha.shape
  have hnb : nblk l ≤ 4 := by unfold nblk; omega
  refine Spec.of (n := 41) (vs := [.slice p l.length c]) Try.func25 rfl Try.ntmps25 rfl ?_
  refine Vc.seq ?_
  refine Vc.text (List.range 1) (sd [(0, .pure)]) rfl ?_
  refine Rg.pure rfl rfl rfl (Pv.assign rfl) ?_
  refine Rg.nil ?_
  refine Vc.seq ?_
  refine Vc.text (List.range 2) (sd [(0, .eff), (1, .pure)]) rfl ?_
  refine Rg.bslice0 (E := byteE) rfl rfl rfl (fun b7 own7 => ?_)
  refine Rg.pure rfl rfl rfl (Pv.assign rfl) ?_
  refine Rg.nil ?_
  refine Vc.seq ?_
  refine Vc.block ?_
  refine Vc.loop5 (fun (q : Nat) (pv : Option Addr) (cv : Nat) (w : Value) (sg : Hl) => q ≤ nblk l ∧ Arg recE F (.slice pv (l.drop (50 * q)).length cv) (l.drop (50 * q)) ∧ Own byteE w (blkB l q) sg) (fun q pv cv w sg => [(0, .slice pv (l.drop (50 * q)).length cv), (3, w)]) (fun q pv cv w sg => sg) (fun q pv cv w sg => l.length - 50 * q) 0 p c _ _ ⟨Nat.zero_le _, by simpa using ha, own7⟩ (.cons (by simp; rfl) (.cons rfl .nil)) pulled ?_
  rintro q pv cv w sg ⟨hq, hal, own⟩
  have hbl := blkB_le l q
  have hcap := hal.cap.2
  have hLl : (l.drop (50 * q)).length = l.length - 50 * q := List.length_drop
  refine Vc.seq ?_
  refine Vc.seq ?_
  refine Vc.text (List.range 3) (sd [(0, .pure), (1, .pure), (2, .pure)]) rfl ?_
  refine Rg.pure rfl rfl rfl (Pv.move rfl) ?_
  refine Rg.pure rfl rfl rfl (Pv.lenS rfl) ?_
  refine Rg.pure rfl rfl rfl (Pv.gtr rfl rfl) ?_
  refine Rg.nil ?_
  refine Vc.cond rfl (fun h10 => ?_) (fun h10 => ?_)
  ·
    simp only [decide_eq_true_eq] at h10
    have hq1 : q < nblk l := by unfold nblk; omega
    obtain ⟨hcl, hc0⟩ := chunk_eq hq1
    obtain ⟨b, off, c1, e, _⟩ := hal.block (by omega)
    cases e
    have hsn := blkB_succ l q
    refine Vc.skip ?_
    refine Vc.block ?_
    refine Vc.seq ?_
    refine Vc.text (List.range 4) (sd [(0, .pure), (1, .pure), (2, .pure), (3, .pure)]) rfl ?_
    refine Rg.pure rfl rfl rfl (Pv.move rfl) ?_
    refine Rg.pure rfl rfl rfl (Pv.lenS rfl) ?_
    refine Rg.pure rfl rfl rfl (Pv.asI ((chunk l q).length) (Pv.min rfl rfl) (by omega)) ?_
    refine Rg.pure rfl rfl rfl (Pv.assign rfl) ?_
    refine Rg.nil ?_
    refine Vc.seq ?_
    refine Vc.text (List.range 2) (sd [(0, .eff), (1, .pure)]) rfl ?_
    refine Rg.bslice0 (E := byteE) rfl rfl rfl (fun b14 own14 => ?_)
    refine Rg.pure rfl rfl rfl (Pv.assign rfl) ?_
    refine Rg.nil ?_
    refine Vc.seq ?_
    refine Vc.seq ?_
    refine Vc.text (List.range 1) (sd [(0, .pure)]) rfl ?_
    refine Rg.pure rfl rfl rfl (Pv.assign rfl) ?_
    refine Rg.nil ?_
    refine Vc.block ?_
    refine Vc.loop3 (fun (i : Nat) (w2 : Value) (s2 : Hl) => i ≤ (chunk l q).length ∧ Own byteE w2 (recsB ((chunk l q).take i)) s2) (fun i w2 s2 => [(0, .slice (some ⟨b, off, none⟩) (l.drop (50 * q)).length cv), (3, w), (4, .int .i64 ((chunk l q).length : Int)), (5, w2), (6, .int .i64 (i : Int))]) (fun i w2 s2 => s2 ++ sg) (fun i w2 s2 => (chunk l q).length - i) 0 _ _ ⟨Nat.zero_le _, own14⟩ (.cons rfl (.cons rfl (.cons rfl (.cons rfl (.cons rfl .nil))))) pulled ?_
    rintro i w2 s2 ⟨hi, own2⟩
    have h2l : (recsB ((chunk l q).take i)).length = 16 * min i (chunk l q).length := by rw [recsB_length, List.length_take]
    refine Vc.seq ?_
    refine Vc.seq ?_
    refine Vc.text (List.range 3) (sd [(0, .pure), (1, .pure), (2, .pure)]) rfl ?_
    refine Rg.pure rfl rfl rfl (Pv.move rfl) ?_
    refine Rg.pure rfl rfl rfl (Pv.move rfl) ?_
    refine Rg.pure rfl rfl rfl (Pv.lss rfl rfl) ?_
    refine Rg.nil ?_
    refine Vc.cond rfl (fun h17 => ?_) (fun h17 => ?_)
    ·
      simp only [decide_eq_true_eq] at h17
      have hgi := chunk_get (l := l) (q := q) (i := i) (by omega)
      have hrs := rk_snoc (l := chunk l q) (i := i) (by omega)
      refine Vc.skip ?_
      refine Vc.seq ?_
      refine Vc.block ?_
      refine Vc.draw [] (sd [(0, .pure), (1, .pure), (2, .pure), (3, .pure), (4, .pure), (5, .read), (7, .pure), (8, .pure), (9, .pure), (10, .pure), (11, .read), (6, .eff), (12, .eff), (13, .pure)]) mixed (by kernel_rfl) ?_
      refine Rg.pure rfl rfl rfl (Pv.move rfl) ?_
      refine Rg.pure rfl rfl rfl (Pv.move rfl) ?_
      refine Rg.pure rfl rfl rfl (Pv.move rfl) ?_
      refine Rg.pure rfl rfl rfl (Pv.ixA (i) rfl rfl (by omega) (by omega)) ?_
      refine Rg.pure rfl rfl rfl (Pv.fa rfl) ?_
      refine Rg.read rfl rfl rfl (Ev.as (.int .u64 ((chunk l q)[i]!.key : Int)) (Ev.ldSf (E := recE) i 0 hal.src rfl rfl rfl (by omega) rfl) (by rw [hgi])) ?_
      refine Rg.pure rfl rfl rfl (Pv.move rfl) ?_
      refine Rg.pure rfl rfl rfl (Pv.move rfl) ?_
      refine Rg.pure rfl rfl rfl (Pv.ixA (i) rfl rfl (by omega) (by omega)) ?_
      refine Rg.pure rfl rfl rfl (Pv.fa rfl) ?_
      refine Rg.read rfl rfl rfl (Ev.as (.int .u64 ((chunk l q)[i]!.val : Int)) (Ev.ldSf (E := recE) i 1 hal.src rfl rfl rfl (by omega) rfl) (by rw [hgi])) ?_
      refine Rg.callA rfl rfl rfl (run_callF rfl) (rput_spec (Arg.own own2 frz_sb) (by omega) 8 (chunk l q)[i]!.key (by omega)) ?_
      rintro v26 s26 own26
      refine Rg.callA rfl rfl rfl (run_callF rfl) (rput_spec (Arg.own own26 frz_sb) (by simp; omega) 8 (chunk l q)[i]!.val (by omega)) ?_
      rintro v32 s32 own32
      rw [List.append_assoc] at own32
      refine Rg.pure rfl rfl rfl (Pv.assign rfl) ?_
      refine Rg.nil ?_
      refine Vc.blk ?_
      refine Vc.text (List.range 3) (sd [(0, .pure), (1, .pure), (2, .pure)]) rfl ?_
      refine Rg.pure rfl rfl rfl (Pv.move rfl) ?_
      refine Rg.pure rfl rfl rfl (Pv.asI (i + 1) (Pv.add rfl rfl (by omega)) (by omega)) ?_
      refine Rg.pure rfl rfl rfl (Pv.assign rfl) ?_
      refine Rg.nil ?_
      exact Vc.inv3 (i + 1) v32 s32 ⟨⟨by omega, by rw [hrs]; exact own32⟩, by omega⟩ (.cons rfl (.cons rfl (.cons rfl (.cons rfl (.cons rfl .nil))))) pulled
    ·
      simp only [decide_eq_false_iff_not] at h17
      rw [List.take_of_length_le (by omega)] at own2 h2l
      refine Vc.exit rfl ?_
      refine Vc.seq ?_
      refine Vc.text (List.range 5) (sd [(0, .pure), (1, .pure), (2, .eff), (3, .eff), (4, .pure)]) rfl ?_
      refine Rg.pure rfl rfl rfl (Pv.move rfl) ?_
      refine Rg.pure rfl rfl rfl (Pv.move rfl) ?_
      refine Rg.callA rfl rfl rfl (run_callF rfl) (rencode_spec (Arg.own own2 frz_sb) (by omega)) ?_
      rintro v35 s35 own35
      refine Rg.append rfl rfl rfl rfl rfl own ((Arg.own (F := frz F s35) own35 fun b o hb => Or.inl hb).srcF) (by rw [encG_length]; omega) (by rw [show maxLen = 9223372036854775807 from rfl, encG_length]; omega) rfl (fun v36 s36 own36 => ?_)
      rw [← hsn] at own36
      have hnx := hal.from (i := (chunk l q).length) (by omega)
      have hdr : (l.drop (50 * q)).drop (chunk l q).length = l.drop (50 * (q + 1)) := by
        rw [List.drop_drop]
        by_cases hh : (chunk l q).length = 50
        · congr 1; omega
        · rw [List.drop_eq_nil_of_le (by omega), List.drop_eq_nil_of_le (by omega)]
      have hdl := congrArg List.length hdr
      rw [List.length_drop] at hdl
      rw [hdr, hdl] at hnx
      refine Rg.pure rfl rfl rfl (Pv.assign rfl) ?_
      refine Rg.nil ?_
      refine Vc.text (List.range 4) (sd [(0, .pure), (1, .pure), (2, .pure), (3, .pure)]) rfl ?_
      refine Rg.pure rfl rfl rfl (Pv.move rfl) ?_
      refine Rg.pure rfl rfl rfl (Pv.move rfl) ?_
      refine Rg.pure rfl rfl rfl (Pv.as (.slice (if cv = (chunk l q).length then some ⟨b, off, none⟩ else (some (⟨b, off, none⟩ : Addr)).map (·.add ((chunk l q).length * 2))) (l.drop (50 * (q + 1))).length (cv - (chunk l q).length)) (Pv.sl (lv := some (.int .i64 ((chunk l q).length : Int))) (hv := none) (chunk l q).length (l.drop (50 * q)).length rfl rfl rfl (by omega) hcap (fun _ => hcap)) (by rw [hdl])) ?_
      refine Rg.pure rfl rfl rfl (Pv.assign rfl) ?_
      refine Rg.nil ?_
      refine Vc.blk ?_
      exact Vc.inv5 (q + 1) _ _ v36 s36 ⟨⟨by omega, hnx, own36⟩, by omega⟩ (.cons rfl (.cons rfl .nil)) pulled
  ·
    simp only [decide_eq_false_iff_not] at h10
    obtain rfl : q = nblk l := by unfold nblk at hq ⊢; omega
    refine Vc.exit rfl ?_
    refine Vc.seq ?_
    refine Vc.text (List.range 2) (sd [(0, .pure), (1, .pure)]) rfl ?_
    refine Rg.pure rfl rfl rfl (Pv.move rfl) ?_
    refine Rg.pure rfl rfl rfl (Pv.assign rfl) ?_
    refine Rg.nil ?_
    exact Vc.ret (Vc.retsH rfl (.cons (.tmp rfl) (.nil)) (own) pulled)
theorem decG_min (c : List UInt8) (at_ : Nat) : decG ((c.drop at_).take (min 1006 (c.length - at_))) = decG (c.drop at_) := by
  rw [← decG_most (c.drop at_)]
  congr 1
  rw [List.take_eq_take_iff, List.length_drop]
  omega
theorem recsOf_get {t : List UInt8} {j : Nat} (h : 16 * j < t.length) (hm : t.length % 16 = 0) : (recsOf t).take (j + 1) = (recsOf t).take j ++ [⟨getB t (16 * j) 8, getB t (16 * j + 8) 8⟩] := by
  have hj : j < (recsOf t).length := by simp [recsOf]; omega
  rw [List.take_succ_eq_append_getElem hj]
  simp [recsOf]
set_option maxHeartbeats 1000000 in
theorem rread_spec {F : Fm} {v : Value} {c : List UInt8} (ha : Arg byteE F v c) (hN : c.length < 100000) :
    Spec Try.prog 14 #[v] F [] fun v s => ∃ u, v = .tuple #[u, .int .i64 ((readG c).2 : Int)] ∧ Own recE u (if (readG c).2 = 0 then (readG c).1 else []) s := by
  obtain ⟨p, cc, rfl⟩ := ha.shape
  have hcap := ha.cap.2
  have hrf := readG_few c
  refine Spec.of (n := 80) (vs := [.slice p c.length cc]) Try.func14 rfl Try.ntmps14 rfl ?_
  refine Vc.seq ?_
  refine Vc.text (List.range 2) (sd [(0, .pure), (1, .pure)]) rfl ?_
  refine Rg.pure rfl rfl rfl (Pv.assign rfl) ?_
  refine Rg.pure rfl rfl rfl (Pv.assign rfl) ?_
  refine Rg.nil ?_
  refine Vc.seq ?_
  refine Vc.text (List.range 2) (sd [(0, .eff), (1, .pure)]) rfl ?_
  refine Rg.bslice0 (E := recE) rfl rfl rfl (fun b15 own15 => ?_)
  refine Rg.pure rfl rfl rfl (Pv.assign rfl) ?_
  refine Rg.nil ?_
  refine Vc.seq ?_
  refine Vc.text (List.range 1) (sd [(0, .pure)]) rfl ?_
  refine Rg.pure rfl rfl rfl (Pv.assign rfl) ?_
  refine Rg.nil ?_
  refine Vc.seq ?_
  refine Vc.seq ?_
  refine Vc.text (List.range 1) (sd [(0, .pure)]) rfl ?_
  refine Rg.pure rfl rfl rfl (Pv.assign rfl) ?_
  refine Rg.nil ?_
  refine Vc.block ?_
  refine Vc.loop5 (fun (at_ : Nat) (acc : List Rk) (sh : Bool) (w : Value) (sg : Hl) => at_ ≤ c.length ∧ (acc ++ (blkG c c.length (c.length - at_ + 1) at_ sh).1, (blkG c c.length (c.length - at_ + 1) at_ sh).2) = readG c ∧ Own recE w acc sg) (fun at_ acc sh w sg => [(0, .slice p c.length cc), (4, w), (5, .bool sh), (6, .int .i64 (at_ : Int))]) (fun at_ acc sh w sg => sg) (fun at_ acc sh w sg => c.length - at_) 0 [] false _ _ ⟨Nat.zero_le _, rfl, own15⟩ (.cons rfl (.cons rfl (.cons rfl (.cons rfl .nil)))) pulled ?_
  rintro at_ acc sh w sg ⟨hat, htot, own⟩
  rw [blkG] at htot
  refine Vc.seq ?_
  refine Vc.seq ?_
  refine Vc.text (List.range 4) (sd [(0, .pure), (1, .pure), (2, .pure), (3, .pure)]) rfl ?_
  refine Rg.pure rfl rfl rfl (Pv.move rfl) ?_
  refine Rg.pure rfl rfl rfl (Pv.move rfl) ?_
  refine Rg.pure rfl rfl rfl (Pv.lenS rfl) ?_
  refine Rg.pure rfl rfl rfl (Pv.lss rfl rfl) ?_
  refine Rg.nil ?_
  refine Vc.cond rfl (fun h19 => ?_) (fun h19 => ?_)
  ·
    simp only [decide_eq_true_eq] at h19
    rw [if_pos (by omega), decG_min] at htot
    have hds := fun h => decG_size (b := c.drop at_) h
    obtain ⟨d, hd⟩ : ∃ d, d = decG (c.drop at_) := ⟨_, rfl⟩
    rw [← hd] at htot hds
    refine Vc.skip ?_
    refine Vc.block ?_
    refine Vc.seq ?_
    refine Vc.text (List.range 11) (sd [(0, .pure), (1, .pure), (2, .pure), (3, .eff), (4, .pure), (5, .pure), (6, .pure), (7, .pure), (8, .pure), (9, .pure), (10, .pure)]) rfl ?_
    refine Rg.pure rfl rfl rfl (Pv.move rfl) ?_
    refine Rg.pure rfl rfl rfl (Pv.move rfl) ?_
    refine Rg.pure rfl rfl rfl (Pv.sl (lv := some (.int .i64 (at_ : Int))) (hv := none) at_ c.length rfl rfl rfl (by omega) hcap (fun _ => hcap)) ?_
    refine Rg.callA rfl rfl rfl (run_callF rfl) (rdecode_spec (show Arg byteE (frz F sg) (.slice (if cc = at_ then p else p.map (·.add (at_ * 1))) (c.length - at_) (cc - at_)) (c.drop at_) from (ha.from hat).mono fun b o h => Or.inr h) (by simp; omega)) ?_
    rintro _ s24 ⟨u24, rfl, own24⟩
    rw [← hd] at own24 ⊢
    obtain ⟨t, k, e⟩ := d
    simp only at htot hds own24 ⊢
    obtain ⟨pt, ct, rfl⟩ := own24.shape
    refine Rg.pure rfl rfl rfl (Pv.move rfl) ?_
    refine Rg.pure rfl rfl rfl (Pv.extract rfl rfl) ?_
    refine Rg.pure rfl rfl rfl (Pv.extract rfl rfl) ?_
    refine Rg.pure rfl rfl rfl (Pv.extract rfl rfl) ?_
    refine Rg.pure rfl rfl rfl (Pv.assign rfl) ?_
    refine Rg.pure rfl rfl rfl (Pv.assign rfl) ?_
    refine Rg.pure rfl rfl rfl (Pv.assign rfl) ?_
    refine Rg.nil ?_
    refine Vc.seq ?_
    refine Vc.seq ?_
    refine Vc.text (List.range 2) (sd [(0, .pure), (1, .pure)]) rfl ?_
    refine Rg.pure rfl rfl rfl (Pv.move rfl) ?_
    refine Rg.pure rfl rfl rfl (Pv.neq rfl rfl) ?_
    refine Rg.nil ?_
    refine Vc.cond rfl (fun h29 => ?_) (fun h29 => ?_)
    ·
      simp only [bne_iff_ne, ne_eq] at h29
      rw [if_pos (by omega)] at htot
      have hrg : (readG c).2 = e := by rw [← htot]
      refine Vc.seq ?_
      refine Vc.text (List.range 3) (sd [(0, .pure), (1, .pure), (2, .pure)]) rfl ?_
      refine Rg.pure rfl rfl rfl (Pv.move rfl) ?_
      refine Rg.pure rfl rfl rfl (Pv.assign rfl) ?_
      refine Rg.pure rfl rfl rfl (Pv.assign rfl) ?_
      refine Rg.nil ?_
      exact Vc.ret (Vc.retsH rfl (.cons (.tmp rfl) (.cons (.tmp rfl) (.nil))) (⟨.slice none 0 0, by rw [hrg]; rfl, by rw [hrg, if_neg (by omega)]; exact .nil⟩) pulled)
    ·
      simp only [bne_eq_false_iff_eq] at h29
      have he0 : e = 0 := by omega
      rw [if_neg (by omega)] at htot
      have hk := hds he0
      rw [List.length_drop] at hk
      refine Vc.skip ?_
      refine Vc.seq ?_
      refine Vc.seq ?_
      refine Vc.cut1 (fun (bb : Bool) => (bb = true → badT t sh) ∧ (bb = false → ¬ badT t sh)) (fun bb => [(47, .bool bb), (0, .slice p c.length cc), (4, w), (5, .bool sh), (6, .int .i64 (at_ : Int)), (7, .slice pt t.length ct), (8, .int .i64 (k : Int))]) (fun bb => s24 ++ sg) ?_ ?_
      ·
        refine Vc.text (List.range 17) (sd [(0, .pure), (1, .pure), (2, .pure), (3, .pure), (4, .pure), (5, .pure), (6, .pure), (7, .pure), (8, .pure), (9, .pure), (10, .pure), (11, .pure), (12, .pure), (13, .pure), (14, .pure), (15, .pure), (16, .pure)]) rfl ?_
        refine Rg.pure rfl rfl rfl (Pv.move rfl) ?_
        refine Rg.pure rfl rfl rfl (Pv.lenS rfl) ?_
        refine Rg.pure rfl rfl rfl (Pv.eql rfl rfl) ?_
        refine Rg.pure rfl rfl rfl (Pv.move rfl) ?_
        refine Rg.split (t := 34) rfl (fun h34 => ?_) (fun h34 => ?_)
        ·
          simp only [beq_iff_eq] at h34
          iterate 4 (first | refine Rg.skipP rfl rfl rfl ?_ | refine Rg.skipR rfl rfl rfl ?_ | refine Rg.skipE rfl rfl rfl ?_)
          refine Rg.pure rfl rfl rfl (Pv.pickT rfl rfl) ?_
          refine Rg.pure rfl rfl rfl (Pv.move rfl) ?_
          iterate 3 (first | refine Rg.skipP rfl rfl rfl ?_ | refine Rg.skipR rfl rfl rfl ?_ | refine Rg.skipE rfl rfl rfl ?_)
          refine Rg.pure rfl rfl rfl (Pv.pickT rfl rfl) ?_
          refine Rg.pure rfl rfl rfl (Pv.move rfl) ?_
          (first | refine Rg.skipP rfl rfl rfl ?_ | refine Rg.skipR rfl rfl rfl ?_ | refine Rg.skipE rfl rfl rfl ?_)
          refine Rg.pure rfl rfl rfl (Pv.pickT rfl rfl) ?_
          refine Rg.nil ?_
          exact Vc.inv1 true ⟨fun _ => .inl (by omega), fun h => by cases h⟩ (.cons rfl (.cons rfl (.cons rfl (.cons rfl (.cons rfl (.cons rfl (.cons rfl .nil))))))) pulled
        ·
          simp only [beq_eq_false_iff_ne, ne_eq] at h34
          refine Rg.pure rfl rfl rfl (Pv.move rfl) ?_
          refine Rg.pure rfl rfl rfl (Pv.lenS rfl) ?_
          refine Rg.pure rfl rfl rfl (Pv.asI (t.length % 16) (Pv.rem rfl rfl (by omega)) (by omega)) ?_
          refine Rg.pure rfl rfl rfl (Pv.neq rfl rfl) ?_
          refine Rg.pure rfl rfl rfl (Pv.pickF rfl rfl) ?_
          refine Rg.pure rfl rfl rfl (Pv.move rfl) ?_
          refine Rg.split (t := 40) rfl (fun h40 => ?_) (fun h40 => ?_)
          ·
            try simp only [bne_iff_ne, ne_eq] at h40
            iterate 3 (first | refine Rg.skipP rfl rfl rfl ?_ | refine Rg.skipR rfl rfl rfl ?_ | refine Rg.skipE rfl rfl rfl ?_)
            refine Rg.pure rfl rfl rfl (Pv.pickT rfl rfl) ?_
            refine Rg.pure rfl rfl rfl (Pv.move rfl) ?_
            (first | refine Rg.skipP rfl rfl rfl ?_ | refine Rg.skipR rfl rfl rfl ?_ | refine Rg.skipE rfl rfl rfl ?_)
            refine Rg.pure rfl rfl rfl (Pv.pickT rfl rfl) ?_
            refine Rg.nil ?_
            exact Vc.inv1 true ⟨fun _ => .inr (.inl (by omega)), fun h => by cases h⟩ (.cons rfl (.cons rfl (.cons rfl (.cons rfl (.cons rfl (.cons rfl (.cons rfl .nil))))))) pulled
          ·
            simp only [bne_eq_false_iff_eq] at h40
            refine Rg.pure rfl rfl rfl (Pv.move rfl) ?_
            refine Rg.pure rfl rfl rfl (Pv.lenS rfl) ?_
            refine Rg.pure rfl rfl rfl (Pv.gtr rfl rfl) ?_
            refine Rg.pure rfl rfl rfl (Pv.pickF rfl rfl) ?_
            refine Rg.pure rfl rfl rfl (Pv.move rfl) ?_
            refine Rg.split (t := 45) rfl (fun h45 => ?_) (fun h45 => ?_)
            ·
              try simp only [decide_eq_true_eq] at h45
              (first | refine Rg.skipP rfl rfl rfl ?_ | refine Rg.skipR rfl rfl rfl ?_ | refine Rg.skipE rfl rfl rfl ?_)
              refine Rg.pure rfl rfl rfl (Pv.pickT rfl rfl) ?_
              refine Rg.nil ?_
              exact Vc.inv1 true ⟨fun _ => .inr (.inr (.inl (by omega))), fun h => by cases h⟩ (.cons rfl (.cons rfl (.cons rfl (.cons rfl (.cons rfl (.cons rfl (.cons rfl .nil))))))) pulled
            ·
              simp only [decide_eq_false_iff_not] at h45
              refine Rg.pure rfl rfl rfl (Pv.move rfl) ?_
              refine Rg.pure rfl rfl rfl (Pv.pickF rfl rfl) ?_
              refine Rg.nil ?_
              exact Vc.inv1 sh ⟨fun h => .inr (.inr (.inr h)), fun h hh => by rcases hh with h1 | h1 | h1 | h1; omega; omega; omega; rw [h] at h1; cases h1⟩ (.cons rfl (.cons rfl (.cons rfl (.cons rfl (.cons rfl (.cons rfl (.cons rfl .nil))))))) pulled
      ·
        rintro bb ⟨hb1, hb2⟩
        refine Vc.cond rfl (fun h47 => ?_) (fun h47 => ?_)
        ·
          rw [if_pos (hb1 h47)] at htot
          have hrg : (readG c).2 = 2 := by rw [← htot]
          refine Vc.seq ?_
          refine Vc.text (List.range 2) (sd [(0, .pure), (1, .pure)]) rfl ?_
          refine Rg.pure rfl rfl rfl (Pv.assign rfl) ?_
          refine Rg.pure rfl rfl rfl (Pv.assign rfl) ?_
          refine Rg.nil ?_
          exact Vc.ret (Vc.retsH rfl (.cons (.tmp rfl) (.cons (.tmp rfl) (.nil))) (⟨.slice none 0 0, by rw [hrg]; rfl, by rw [hrg, if_neg (by decide)]; exact .nil⟩) pulled)
        ·
          have hno := hb2 h47
          rw [if_neg hno] at htot
          have hm16 : t.length % 16 = 0 ∧ 0 < t.length ∧ t.length ≤ 800 := by unfold badT at hno; omega
          refine Vc.skip ?_
          refine Vc.seq ?_
          refine Vc.text (List.range 4) (sd [(0, .pure), (1, .pure), (2, .pure), (3, .pure)]) rfl ?_
          refine Rg.pure rfl rfl rfl (Pv.move rfl) ?_
          refine Rg.pure rfl rfl rfl (Pv.lenS rfl) ?_
          refine Rg.pure rfl rfl rfl (Pv.lss rfl rfl) ?_
          refine Rg.pure rfl rfl rfl (Pv.assign rfl) ?_
          refine Rg.nil ?_
          refine Vc.seq ?_
          refine Vc.seq ?_
          refine Vc.text (List.range 1) (sd [(0, .pure)]) rfl ?_
          refine Rg.pure rfl rfl rfl (Pv.assign rfl) ?_
          refine Rg.nil ?_
          refine Vc.block ?_
          refine Vc.loop3 (fun (j : Nat) (w2 : Value) (s2 : Hl) => 16 * j ≤ t.length ∧ Own recE w2 (acc ++ (recsOf t).take j) s2) (fun j w2 s2 => [(0, .slice p c.length cc), (4, w2), (5, .bool (decide ((t.length : Int) < 800))), (6, .int .i64 (at_ : Int)), (7, .slice pt t.length ct), (8, .int .i64 (k : Int)), (10, .int .i64 ((16 * j : Nat) : Int))]) (fun j w2 s2 => s2 ++ s24) (fun j w2 s2 => t.length - 16 * j) 0 w sg ⟨by omega, by simpa using own⟩ (.cons rfl (.cons rfl (.cons rfl (.cons rfl (.cons rfl (.cons rfl (.cons rfl .nil))))))) pulled ?_
          rintro j w2 s2 ⟨hj, own2⟩
          have hal := congrArg (fun x => x.1.length) htot
          simp only [List.length_append] at hal
          have hrl : (recsOf t).length = t.length / 16 := by simp [recsOf]
          have h2l : (acc ++ (recsOf t).take j).length ≤ acc.length + t.length := by rw [List.length_append, List.length_take]; omega
          refine Vc.seq ?_
          refine Vc.seq ?_
          refine Vc.text (List.range 4) (sd [(0, .pure), (1, .pure), (2, .pure), (3, .pure)]) rfl ?_
          refine Rg.pure rfl rfl rfl (Pv.move rfl) ?_
          refine Rg.pure rfl rfl rfl (Pv.move rfl) ?_
          refine Rg.pure rfl rfl rfl (Pv.lenS rfl) ?_
          refine Rg.pure rfl rfl rfl (Pv.lss rfl rfl) ?_
          refine Rg.nil ?_
          refine Vc.cond rfl (fun h54 => ?_) (fun h54 => ?_)
          ·
            simp only [decide_eq_true_eq] at h54
            have hgs := recsOf_get (t := t) (j := j) (by omega) hm16.1
            refine Vc.skip ?_
            refine Vc.seq ?_
            refine Vc.block ?_
            refine Vc.seq ?_
            refine Vc.text (List.range 8) (sd [(0, .pure), (1, .pure), (2, .eff), (3, .pure), (4, .pure), (5, .pure), (6, .pure), (7, .pure)]) rfl ?_
            refine Rg.pure rfl rfl rfl (Pv.move rfl) ?_
            refine Rg.pure rfl rfl rfl (Pv.move rfl) ?_
            refine Rg.callP rfl rfl rfl (run_callF rfl) (rget_spec (Arg.own own24 frz_sb) (by omega) (16 * j) 8 (by omega) (by omega) (by omega)) ?_
            rintro _ rfl
            refine Rg.pure rfl rfl rfl (Pv.move rfl) ?_
            refine Rg.pure rfl rfl rfl (Pv.extract rfl rfl) ?_
            refine Rg.pure rfl rfl rfl (Pv.extract rfl rfl) ?_
            refine Rg.pure rfl rfl rfl (Pv.assign rfl) ?_
            refine Rg.pure rfl rfl rfl (Pv.assign rfl) ?_
            refine Rg.nil ?_
            refine Vc.seq ?_
            refine Vc.text (List.range 9) (sd [(0, .pure), (1, .pure), (2, .pure), (3, .eff), (4, .pure), (5, .pure), (6, .pure), (7, .pure), (8, .pure)]) rfl ?_
            refine Rg.pure rfl rfl rfl (Pv.move rfl) ?_
            refine Rg.pure rfl rfl rfl (Pv.move rfl) ?_
            refine Rg.pure rfl rfl rfl (Pv.asI (16 * j + 8) (Pv.add rfl rfl (by omega)) (by omega)) ?_
            refine Rg.callP rfl rfl rfl (run_callF rfl) (rget_spec (Arg.own own24 frz_sb) (by omega) (16 * j + 8) 8 (by omega) (by omega) (by omega)) ?_
            rintro _ rfl
            refine Rg.pure rfl rfl rfl (Pv.move rfl) ?_
            refine Rg.pure rfl rfl rfl (Pv.extract rfl rfl) ?_
            refine Rg.pure rfl rfl rfl (Pv.extract rfl rfl) ?_
            refine Rg.pure rfl rfl rfl (Pv.assign rfl) ?_
            refine Rg.pure rfl rfl rfl (Pv.assign rfl) ?_
            refine Rg.nil ?_
            refine Vc.text (List.range 7) (sd [(0, .pure), (1, .pure), (2, .pure), (3, .pure), (4, .eff), (5, .eff), (6, .pure)]) rfl ?_
            refine Rg.pure rfl rfl rfl (Pv.move rfl) ?_
            refine Rg.pure rfl rfl rfl (Pv.move rfl) ?_
            refine Rg.pure rfl rfl rfl (Pv.move rfl) ?_
            refine Rg.pure rfl rfl rfl (Pv.build (c := #[.int .u64 (getB t (16 * j) 8 : Nat), .int .u64 (getB t (16 * j + 8) 8 : Nat)]) rfl rfl) ?_
            refine Rg.bslice1 rfl rfl rfl rfl rfl rfl rfl (fun b74 => ?_)
            refine Rg.append rfl rfl rfl rfl rfl own2 (Src.one (y := (⟨getB t (16 * j) 8, getB t (16 * j + 8) 8⟩ : Rk)) rfl) (by simp only [List.length_singleton]; omega) (by rw [show maxLen = 9223372036854775807 from rfl]; simp only [List.length_singleton]; omega) rfl (fun v75 s75 own75 => ?_)
            rw [List.append_assoc, ← hgs] at own75
            refine Rg.pure rfl rfl rfl (Pv.assign rfl) ?_
            refine Rg.nil ?_
            refine Vc.blk ?_
            refine Vc.text (List.range 3) (sd [(0, .pure), (1, .pure), (2, .pure)]) rfl ?_
            refine Rg.pure rfl rfl rfl (Pv.move rfl) ?_
            refine Rg.pure rfl rfl rfl (Pv.asI (16 * (j + 1)) (Pv.add rfl rfl (by omega)) (by omega)) ?_
            refine Rg.pure rfl rfl rfl (Pv.assign rfl) ?_
            refine Rg.nil ?_
            exact Vc.inv3 (j + 1) v75 s75 ⟨⟨by omega, own75⟩, by omega⟩ (.cons rfl (.cons rfl (.cons rfl (.cons rfl (.cons rfl (.cons rfl (.cons rfl .nil))))))) pulled
          ·
            simp only [decide_eq_false_iff_not] at h54
            rw [List.take_of_length_le (by omega)] at own2
            have hsh : decide ((t.length : Int) < 800) = decide (t.length < 800) := by rw [Bool.eq_iff_iff, decide_eq_true_eq, decide_eq_true_eq]; omega
            rw [hsh]
            refine Vc.exit rfl ?_
            refine Vc.text (List.range 4) (sd [(0, .pure), (1, .pure), (2, .pure), (3, .pure)]) rfl ?_
            refine Rg.pure rfl rfl rfl (Pv.move rfl) ?_
            refine Rg.pure rfl rfl rfl (Pv.move rfl) ?_
            refine Rg.pure rfl rfl rfl (Pv.asI (at_ + k) (Pv.add rfl rfl (by omega)) (by omega)) ?_
            refine Rg.pure rfl rfl rfl (Pv.assign rfl) ?_
            refine Rg.nil ?_
            refine Vc.blk ?_
            exact Vc.inv5 (at_ + k) (acc ++ recsOf t) (decide (t.length < 800)) w2 s2 ⟨⟨by omega, by rw [← htot, List.append_assoc, blkG_fuel (c.length - (at_ + k) + 1) (c.length - at_) (at_ + k) _ (by omega) (by omega)], own2⟩, by omega⟩ (.cons rfl (.cons rfl (.cons rfl (.cons rfl .nil)))) pulled
  ·
    simp only [decide_eq_false_iff_not] at h19
    rw [if_neg (by omega)] at htot
    have hrg : readG c = (acc, 0) := by rw [← htot, List.append_nil]
    refine Vc.exit rfl ?_
    refine Vc.seq ?_
    refine Vc.text (List.range 3) (sd [(0, .pure), (1, .pure), (2, .pure)]) rfl ?_
    refine Rg.pure rfl rfl rfl (Pv.move rfl) ?_
    refine Rg.pure rfl rfl rfl (Pv.assign rfl) ?_
    refine Rg.pure rfl rfl rfl (Pv.assign rfl) ?_
    refine Rg.nil ?_
    exact Vc.ret (Vc.retsH rfl (.cons (.tmp rfl) (.cons (.tmp rfl) (.nil))) (⟨_, by rw [hrg]; rfl, by rw [hrg, if_pos rfl]; exact own⟩) pulled)
end Go.Proofs.Ytbhaahohaccecaa
