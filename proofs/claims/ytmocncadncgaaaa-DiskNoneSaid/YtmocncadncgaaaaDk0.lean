/- Disks: the operations, over a disk of which the bounds are known; disks with one file. -/
import Derived.Test.YtmocncadncgaaaaDkZ
namespace Go.Proofs.Ytmocncadncgaaaa
set_option linter.unusedVariables false

section
variable {F : Fm} {db n B : Nat} {D D' : Dk} {s : Hl} {e m : Int}
abbrev d0 (room ops : Int) : Dk := ⟨[], room, 0, ops, 0, [], false⟩
theorem new_w (F : Fm) (room r : Int) (hr : max room 0 = r) : Spec Try.prog 13 #[.int .i64 room] F [] fun v s => ∃ db, v = .pointer (some ⟨db, 0, none⟩) ∧ DiskAt db (d0 r 0) s ∧ Dw 0 0 (d0 r 0) :=
  (new_spec F room).mono fun v s ⟨db, h1, h2⟩ => ⟨db, h1, hr ▸ h2, Dw.new _⟩
theorem create_w (hD : DiskAt db D s) (hw : Dw n B D) (hn : n < 1000) (hB : B ≤ 1000000) (k : List UInt8) (hE : createD D k = (e, D')) :
    Spec Try.prog 14 #[.pointer (some ⟨db, 0, none⟩), kS k] F s fun v s' => v = .int .i64 e ∧ DiskAt db D' s' ∧ Dw (n + 1) B D' :=
  (create_spec hD (hw.sz (by omega)) (hw.fewB hB) (hw.ops' (by omega)) hw.armed.2 k).mono fun v s ⟨h1, h2⟩ => by
    have h3 := hw.create' k
    rw [hE] at h1 h2 h3
    exact ⟨h1, h2, h3⟩
theorem append_w (hD : DiskAt db D s) (hw : Dw n B D) (hn : n < 1000) (hB : B ≤ 1000000) (k : List UInt8) {vb : Value} {bs : List UInt8} (hb : Arg byteE F vb bs) (hbl : bs.length ≤ 1000000) (hE : writeD D k none bs = (e, D')) :
    Spec Try.prog 15 #[.pointer (some ⟨db, 0, none⟩), kS k, vb] F s fun v s' => v = .int .i64 e ∧ DiskAt db D' s' ∧ Dw (n + 1) (B + bs.length) D' :=
  (append_spec hD (hw.sz (by omega)) (hw.fewB hB) (hw.ops' (by omega)) hw.armed.2 (hw.begins.fewB hB) (by have := hw.begins.usedB (by omega) hB; omega) k hb hbl).mono fun v s ⟨h1, h2⟩ => by
    have h3 := hw.write k none bs
    rw [hE] at h1 h2 h3
    exact ⟨h1, h2, h3⟩
theorem writeAt_w (hD : DiskAt db D s) (hw : Dw n B D) (hn : n < 1000) (hB : B ≤ 1000000) (k : List UInt8) {vb : Value} {bs : List UInt8} (at_ : Int) (hb : Arg byteE F vb bs) (hbl : bs.length ≤ 1000000) (hE : writeD D k (some at_) bs = (e, D')) :
    Spec Try.prog 26 #[.pointer (some ⟨db, 0, none⟩), kS k, .int .i64 at_, vb] F s fun v s' => v = .int .i64 e ∧ DiskAt db D' s' ∧ Dw (n + 1) (B + bs.length) D' :=
  (writeAt_spec hD (hw.sz (by omega)) (hw.fewB hB) (hw.ops' (by omega)) hw.armed.2 (hw.begins.fewB hB) (by have := hw.begins.usedB (by omega) hB; omega) k at_ hb hbl).mono fun v s ⟨h1, h2⟩ => by
    have h3 := hw.write k (some at_) bs
    rw [hE] at h1 h2 h3
    exact ⟨h1, h2, h3⟩
theorem sync_w (hD : DiskAt db D s) (hw : Dw n B D) (hn : n < 1000) (hB : B ≤ 1000000) (k : List UInt8) (hE : syncD D k = (e, D')) :
    Spec Try.prog 25 #[.pointer (some ⟨db, 0, none⟩), kS k] F s fun v s' => v = .int .i64 e ∧ DiskAt db D' s' ∧ Dw (n + 1) B D' :=
  (sync_spec hD (hw.sz (by omega)) (hw.fewB hB) (hw.ops' (by omega)) hw.armed.2 (hw.begins.fewB hB) k).mono fun v s ⟨h1, h2⟩ => by
    have h3 := hw.sync k
    rw [hE] at h1 h2 h3
    exact ⟨h1, h2, h3⟩
theorem remove_w (hD : DiskAt db D s) (hw : Dw n B D) (hn : n < 1000) (hB : B ≤ 1000000) (k : List UInt8) (hE : removeD D k = (e, D')) :
    Spec Try.prog 30 #[.pointer (some ⟨db, 0, none⟩), kS k] F s fun v s' => v = .int .i64 e ∧ DiskAt db D' s' ∧ Dw (n + 1) B D' :=
  (remove_spec hD (hw.sz (by omega)) (hw.fewB hB) (hw.ops' (by omega)) hw.armed.2 (hw.begins.fewB hB) (by have := hw.begins.usedB (by omega) hB; omega) k).mono fun v s ⟨h1, h2⟩ => by
    have h3 := hw.remove k
    rw [hE] at h1 h2 h3
    exact ⟨h1, h2, h3⟩
theorem rename_w (hD : DiskAt db D s) (hw : Dw n B D) (hn : n < 1000) (hB : B ≤ 1000000) (k to : List UInt8) (hE : renameD D k to = (e, D')) :
    Spec Try.prog 27 #[.pointer (some ⟨db, 0, none⟩), kS k, kS to] F s fun v s' => v = .int .i64 e ∧ DiskAt db D' s' ∧ Dw (n + 1) B D' :=
  (rename_spec hD hw hn hB k to).mono fun v s ⟨h1, h2⟩ => by
    have h3 := hw.rename k to
    rw [hE] at h1 h2 h3
    exact ⟨h1, h2, h3⟩
theorem size_w (hD : DiskAt db D s) (hw : Dw n B D) (hn : n < 1000) (hB : B ≤ 1000000) (k : List UInt8) (hE : sizeD D k = (m, e)) (hD' : (beginsD D).2 = D') :
    Spec Try.prog 16 #[.pointer (some ⟨db, 0, none⟩), kS k] F s fun v s' => v = .tuple #[.int .i64 m, .int .i64 e] ∧ DiskAt db D' s' ∧ Dw (n + 1) B D' :=
  (size_spec hD (hw.sz (by omega)) (hw.fewB hB) (hw.ops' (by omega)) hw.armed.2 k).mono fun v s ⟨h1, h2⟩ => by
    have h3 := hw.begins
    rw [hE] at h1
    rw [hD'] at h2 h3
    exact ⟨h1, h2, h3⟩
theorem readAt_w (hD : DiskAt db D s) (hw : Dw n B D) (hn : n < 1000) (hB : B ≤ 1000000) (k : List UInt8) (at_ q : Int) {bs : List UInt8} (hE : readD D k at_ q = (bs, e)) (hD' : (beginsD D).2 = D') :
    Spec Try.prog 24 #[.pointer (some ⟨db, 0, none⟩), kS k, .int .i64 at_, .int .i64 q] F s fun v s' => ∃ u s1 s2, v = .tuple #[u, .int .i64 e] ∧ Own byteE u bs s1 ∧ DiskAt db D' s2 ∧ Dw (n + 1) B D' ∧ s' = s1 ++ s2 :=
  (readAt_spec hD (hw.sz (by omega)) (hw.fewB hB) (hw.ops' (by omega)) hw.armed.2 (hw.begins.fewB hB) k at_ q).mono fun v s ⟨u, s1, s2, h1, h2, h3, h4⟩ => by
    have h5 := hw.begins
    rw [hE] at h1 h2
    rw [hD'] at h3 h5
    exact ⟨u, s1, s2, h1, h2, h3, h5, h4⟩
theorem crash_w (hD : DiskAt db D s) (hw : Dw n B D) (hn : n < 1000) (hB : B ≤ 1000000) {kv : Value} {ks : List Bool} (hk : Arg boolE F kv ks) (hE : crashD ks D = D') :
    Spec Try.prog 23 #[.pointer (some ⟨db, 0, none⟩), kv] F s fun _ s' => DiskAt db D' s' ∧ Dw n B D' :=
  (crashD_spec hD hw (by omega) hB hk).mono fun v s h1 => by
    have h2 := hw.crash ks
    rw [hE] at h1 h2
    exact ⟨h1, h2⟩
theorem restart_w (hD : DiskAt db D s) (hw : Dw n B D) : Spec Try.prog 22 #[.pointer (some ⟨db, 0, none⟩)] F s fun _ s' => DiskAt db { D with down := false } s' ∧ Dw n B { D with down := false } :=
  (restartD_spec hD).mono fun v s h1 => ⟨h1, hw.up false⟩
theorem arm_w (hD : DiskAt db D s) (hw : Dw n B D) (q : Int) (hq : q ≤ 9223372036854775807) {kv : Value} {ks : List Bool} (hk : Arg boolE F kv ks) (hkl : ks.length < 4294967296) :
    Spec Try.prog 19 #[.pointer (some ⟨db, 0, none⟩), .int .i64 q, kv] F s fun _ s' => DiskAt db { D with armed := max q 0, keep := ks } s' ∧ Dw n B { D with armed := max q 0, keep := ks } :=
  (arm_spec hD q hk hkl).mono fun v s h1 => ⟨h1, hw.arm q hq ks⟩
end

/-! ### Disks with one file -/
theorem begins_up {D : Dk} (ha : D.armed = 0) (hd : D.down = false) : beginsD D = (0, { D with ops := D.ops + 1 }) := by
  simp only [beginsD, ha, hd]
  rfl
theorem begins_dn {D : Dk} (ha : D.armed = 0) (hd : D.down = true) : beginsD D = (7, { D with ops := D.ops + 1 }) := by
  simp only [beginsD, ha, hd]
  rfl
/-- one file k, up, not armed -/
abbrev d1 (k : List UInt8) (f : Fl) (room ops : Int) (dn : Bool) : Dk := ⟨[(k, f)], room, (secs f.now.length : Nat), ops, 0, [], dn⟩
section
variable {k : List UInt8} {f : Fl} {now sy : List UInt8} {room ops : Int} {dn : Bool}
theorem find1 : findF [(k, f)] k = some f := by simp [findF]
theorem set1 (f' : Fl) : setF [(k, f)] k f' = [(k, f')] := by simp [setF]
theorem begins1 : beginsD (d1 k f room ops false) = (0, d1 k f room (ops + 1) false) := begins_up rfl rfl
theorem begins1d : beginsD (d1 k f room ops true) = (7, d1 k f room (ops + 1) true) := begins_dn rfl rfl
theorem create1 (hk : mayN ⟨k.toArray⟩ = true) : createD (d0 room ops) k = (0, d1 k ⟨[], []⟩ room (ops + 1) false) := by
  have hb : beginsD (d0 room ops) = (0, d0 room (ops + 1)) := begins_up rfl rfl
  simp only [createD, hb, hk]
  rfl
theorem size1 : sizeD (d1 k f room ops false) k = (((f.now.length : Nat) : Int), 0) := by
  simp only [sizeD, begins1, find1]
  rfl
theorem size1d : sizeD (d1 k f room ops true) k = (0, 7) := by
  simp only [sizeD, begins1d]
  rfl
theorem sync1 : syncD (d1 k ⟨now, sy⟩ room ops false) k = (0, d1 k ⟨now, now⟩ room (ops + 1) false) := by
  simp only [syncD, begins1, find1, set1]
  rfl
theorem putAt_end (l bs : List UInt8) : putAt l l.length bs = l ++ bs := by simp [putAt]
theorem app1 (bs : List UInt8) (h : ((secs (now.length + bs.length) : Nat) : Int) ≤ room) : writeD (d1 k ⟨now, sy⟩ room ops false) k none bs = (0, d1 k ⟨now ++ bs, sy⟩ room (ops + 1) false) := by
  simp only [writeD, begins1, find1, set1, Option.getD_none]
  have hm : max now.length (now.length + bs.length) = now.length + bs.length := by omega
  have hw : wrG room ((secs now.length : Nat) : Int) now ((now.length : Nat) : Int) bs = (0, ((secs (now ++ bs).length : Nat) : Int), now ++ bs) := by
    unfold wrG
    rw [if_neg (by omega), Int.toNat_natCast, hm, if_neg (by omega), putAt_end, List.length_append]
    congr 2
    omega
  rw [hw]
  rfl
theorem app1n (bs : List UInt8) (h : room < ((secs (now.length + bs.length) : Nat) : Int)) : writeD (d1 k ⟨now, sy⟩ room ops false) k none bs = (6, d1 k ⟨now, sy⟩ room (ops + 1) false) := by
  simp only [writeD, begins1, find1, set1, Option.getD_none]
  have hm : max now.length (now.length + bs.length) = now.length + bs.length := by omega
  have hw : wrG room ((secs now.length : Nat) : Int) now ((now.length : Nat) : Int) bs = (6, ((secs now.length : Nat) : Int), now) := by
    unfold wrG
    rw [if_neg (by omega), Int.toNat_natCast, hm, if_pos (by omega)]
  rw [hw]
  rfl
theorem write1 (at_ : Nat) (hat : at_ ≤ now.length) (bs : List UInt8) (h : ((secs (max now.length (at_ + bs.length)) : Nat) : Int) ≤ room) : writeD (d1 k ⟨now, sy⟩ room ops false) k (some (at_ : Int)) bs = (0, d1 k ⟨putAt now at_ bs, sy⟩ room (ops + 1) false) := by
  simp only [writeD, begins1, find1, set1, Option.getD_some]
  have hw : wrG room ((secs now.length : Nat) : Int) now (at_ : Int) bs = (0, ((secs (putAt now at_ bs).length : Nat) : Int), putAt now at_ bs) := by
    unfold wrG
    rw [if_neg (by omega), Int.toNat_natCast, if_neg (by omega), putAt_length hat]
    congr 2
    omega
  rw [hw]
  rfl
theorem read1 (at_ m : Nat) (h : at_ + m ≤ now.length) : readD (d1 k ⟨now, sy⟩ room ops false) k at_ m = ((now.drop at_).take m, 0) := by
  simp only [readD, begins1, find1]
  rw [if_neg (by decide), if_neg (by omega)]
  rfl
theorem read1all : readD (d1 k ⟨now, sy⟩ room ops false) k 0 (now.length : Nat) = (now, 0) := by
  simp only [readD, begins1, find1]
  rw [if_neg (by decide), if_neg (by omega), Int.toNat_natCast, Int.toNat_zero, List.drop_zero, List.take_length]
theorem crash1 (ks : List Bool) : crashD ks (d1 k ⟨now, sy⟩ room ops false) = d1 k ⟨(tornG now sy ks (secs now.length)).1, (tornG now sy ks (secs now.length)).1⟩ room ops true := by
  have hs : Go.Proofs.Ytmocncadncgaaaa.sortN [k] = [k] := by simp [Go.Proofs.Ytmocncadncgaaaa.sortN]
  unfold crashD
  rw [if_neg (show ¬ (false = true) by decide)]
  simp only [List.map_cons, List.map_nil, hs, crFold, List.foldl_cons, List.foldl_nil, crStep, find1, Option.getD_some, set1, Int.zero_add]
theorem crash1d (ks : List Bool) : crashD ks (d1 k f room ops true) = d1 k f room ops true := by
  unfold crashD
  rw [if_pos rfl]
end

theorem Arg.nilB {F : Fm} : Arg boolE F (.slice none 0 0) [] := Arg.nil
/-! ### What must be in any case -/
theorem torn20 : (tornG (List.replicate 20 (0 : UInt8)) [] [] (secs (List.replicate 20 (0 : UInt8)).length)).1 = [] := by decide +kernel
theorem shown_spec (F : Fm) : Spec Try.prog 12 #[] F [] fun v _ => v = .bool true := by
  refine Spec.of (n := 93) (vs := []) Try.func12 rfl Try.ntmps12 rfl ?_
  refine Vc.seq ?_
  refine Vc.text (List.range 1) (sd [(0, .pure)]) rfl ?_
  refine Rg.pure rfl rfl rfl (Pv.assign rfl) ?_
  refine Rg.nil ?_
  refine Vc.seq ?_
  refine Vc.text (List.range 2) (sd [(0, .eff), (1, .pure)]) rfl ?_
  refine Rg.callA rfl rfl rfl (run_callF rfl) (new_w _ 10 10 (by decide)) ?_
  rintro _ s12 ⟨db, rfl, hD, hw⟩
  refine Rg.pure rfl rfl rfl (Pv.assign rfl) ?_
  refine Rg.nil ?_
  refine Vc.seq ?_
  refine Vc.seq ?_
  refine Vc.text (List.range 2) (sd [(0, .pure), (1, .pure)]) rfl ?_
  refine Rg.pure rfl rfl rfl (Pv.move rfl) ?_
  refine Rg.pure rfl rfl rfl (Pv.eqlNil rfl rfl) ?_
  refine Rg.nil ?_
  refine Vc.cond rfl (fun h14 => absurd h14 (by (cases h14))) (fun h14 => ?_)
  refine Vc.skip ?_
  refine Vc.seq ?_
  refine Vc.text (List.range 3) (sd [(0, .pure), (1, .eff), (2, .pure)]) rfl ?_
  refine Rg.pure rfl rfl rfl (Pv.move rfl) ?_
  refine Rg.callH rfl rfl rfl (run_callF rfl) (fun F' hF' => create_w (F := F') hD hw (by omega) (by omega) [97] (create1 (by decide))) rfl ?_
  rintro _ s16 ⟨rfl, hD16, hw16⟩
  refine Rg.pure rfl rfl rfl (Pv.assign rfl) ?_
  refine Rg.nil ?_
  refine Vc.seq ?_
  refine Vc.text (List.range 4) (sd [(0, .pure), (1, .eff), (2, .eff), (3, .pure)]) rfl ?_
  refine Rg.pure rfl rfl rfl (Pv.move rfl) ?_
  refine Rg.makeN byteE 0 (m := 20) rfl rfl rfl rfl rfl (by decide) (fun b18 own18 => ?_)
  have hz18 : (List.replicate 20 (0 : UInt8)).length = 20 := List.length_replicate
  have ht20 := torn20
  generalize List.replicate 20 (0 : UInt8) = z18 at own18 hz18 ht20 ⊢
  refine Rg.callH rfl rfl rfl (run_callF rfl) (fun F' hF' => append_w (F := F') hD16 hw16 (by omega) (by omega) [97] (Arg.own own18 fun b o hb => hF' b o (.inl hb)) (by omega) (app1 z18 (by simp [secs, hz18]))) rfl ?_
  rintro _ s19 ⟨rfl, hD19, hw19⟩
  refine Rg.pure rfl rfl rfl (Pv.assign rfl) ?_
  refine Rg.nil ?_
  refine Vc.seq ?_
  refine Vc.text (List.range 4) (sd [(0, .pure), (1, .eff), (2, .eff), (3, .pure)]) rfl ?_
  refine Rg.pure rfl rfl rfl (Pv.move rfl) ?_
  refine Rg.makeN byteE 0 (m := 200) rfl rfl rfl rfl rfl (by decide) (fun b21 own21 => ?_)
  have hz21 : (List.replicate 200 (0 : UInt8)).length = 200 := List.length_replicate
  generalize List.replicate 200 (0 : UInt8) = z21 at own21 hz21 ⊢
  refine Rg.callH rfl rfl rfl (run_callF rfl) (fun F' hF' => append_w (F := F') hD19 hw19 (by omega) (by omega) [97] (Arg.own own21 fun b o hb => hF' b o (.inl (by simp only [List.mem_singleton] at hb; simp [hb]))) (by omega) (app1n z21 (by simp [secs, hz18, hz21]))) rfl ?_
  rintro _ s22 ⟨rfl, hD22, hw22⟩
  refine Rg.pure rfl rfl rfl (Pv.assign rfl) ?_
  refine Rg.nil ?_
  refine Vc.seq ?_
  refine Vc.text (List.range 7) (sd [(0, .pure), (1, .eff), (2, .pure), (3, .pure), (4, .pure), (5, .pure), (6, .pure)]) rfl ?_
  refine Rg.pure rfl rfl rfl (Pv.move rfl) ?_
  refine Rg.callH rfl rfl rfl (run_callF rfl) (fun F' hF' => size_w (F := F') hD22 hw22 (by omega) (by omega) [97] size1 (congrArg Prod.snd begins1)) rfl ?_
  rintro _ s25 ⟨rfl, hD25, hw25⟩
  refine Rg.pure rfl rfl rfl (Pv.move rfl) ?_
  refine Rg.pure rfl rfl rfl (Pv.extract rfl rfl) ?_
  refine Rg.pure rfl rfl rfl (Pv.extract rfl rfl) ?_
  refine Rg.pure rfl rfl rfl (Pv.assign rfl) ?_
  refine Rg.pure rfl rfl rfl (Pv.assign rfl) ?_
  refine Rg.nil ?_
  refine Vc.seq ?_
  refine Vc.text (List.range 3) (sd [(0, .pure), (1, .eff), (2, .pure)]) rfl ?_
  refine Rg.pure rfl rfl rfl (Pv.move rfl) ?_
  refine Rg.callP rfl rfl rfl (run_callF rfl) (usedD_spec hD25 frz_sb) ?_
  rintro _ rfl
  refine Rg.pure rfl rfl rfl (Pv.assign rfl) ?_
  refine Rg.nil ?_
  refine Vc.seq ?_
  refine Vc.text (List.range 2) (sd [(0, .pure), (1, .eff)]) rfl ?_
  refine Rg.pure rfl rfl rfl (Pv.move rfl) ?_
  refine Rg.callH rfl rfl rfl (run_callF rfl) (fun F' hF' => crash_w (F := F') hD25 hw25 (by omega) (by omega) Arg.nilB (crash1 [])) rfl ?_
  rintro v31 s31 ⟨hD31, hw31⟩
  rw [List.nil_append, ht20] at hD31 hw31
  refine Rg.nil ?_
  refine Vc.seq ?_
  refine Vc.text (List.range 7) (sd [(0, .pure), (1, .eff), (2, .pure), (3, .pure), (4, .pure), (5, .pure), (6, .pure)]) rfl ?_
  refine Rg.pure rfl rfl rfl (Pv.move rfl) ?_
  refine Rg.callH rfl rfl rfl (run_callF rfl) (fun F' hF' => size_w (F := F') hD31 hw31 (by omega) (by omega) [97] size1d (congrArg Prod.snd begins1d)) rfl ?_
  rintro _ s34 ⟨rfl, hD34, hw34⟩
  refine Rg.pure rfl rfl rfl (Pv.move rfl) ?_
  refine Rg.pure rfl rfl rfl (Pv.extract rfl rfl) ?_
  refine Rg.pure rfl rfl rfl (Pv.extract rfl rfl) ?_
  refine Rg.pure rfl rfl rfl (Pv.assign rfl) ?_
  refine Rg.pure rfl rfl rfl (Pv.assign rfl) ?_
  refine Rg.nil ?_
  refine Vc.seq ?_
  refine Vc.text (List.range 2) (sd [(0, .pure), (1, .eff)]) rfl ?_
  refine Rg.pure rfl rfl rfl (Pv.move rfl) ?_
  refine Rg.callH rfl rfl rfl (run_callF rfl) (fun F' hF' => restart_w (F := F') hD34 hw34) rfl ?_
  rintro v38 s38 ⟨hD38, hw38⟩
  refine Rg.nil ?_
  refine Vc.seq ?_
  refine Vc.text (List.range 7) (sd [(0, .pure), (1, .eff), (2, .pure), (3, .pure), (4, .pure), (5, .pure), (6, .pure)]) rfl ?_
  refine Rg.pure rfl rfl rfl (Pv.move rfl) ?_
  refine Rg.callH rfl rfl rfl (run_callF rfl) (fun F' hF' => size_w (F := F') hD38 hw38 (by omega) (by omega) [97] size1 (congrArg Prod.snd begins1)) rfl ?_
  rintro _ s41 ⟨rfl, hD41, hw41⟩
  refine Rg.pure rfl rfl rfl (Pv.move rfl) ?_
  refine Rg.pure rfl rfl rfl (Pv.extract rfl rfl) ?_
  refine Rg.pure rfl rfl rfl (Pv.extract rfl rfl) ?_
  refine Rg.pure rfl rfl rfl (Pv.assign rfl) ?_
  refine Rg.pure rfl rfl rfl (Pv.assign rfl) ?_
  refine Rg.nil ?_
  refine Vc.seq ?_
  refine Vc.text (List.range 50) (sd [(0, .pure), (1, .pure), (2, .pure), (3, .pure), (4, .pure), (5, .pure), (6, .pure), (7, .pure), (8, .pure), (9, .pure), (10, .pure), (11, .pure), (12, .pure), (13, .pure), (14, .pure), (15, .pure), (16, .pure), (17, .pure), (18, .pure), (19, .pure), (20, .pure), (21, .pure), (22, .pure), (23, .pure), (24, .pure), (25, .pure), (26, .pure), (27, .pure), (28, .pure), (29, .pure), (30, .pure), (31, .pure), (32, .pure), (33, .pure), (34, .pure), (35, .pure), (36, .eff), (37, .pure), (38, .pure), (39, .pure), (40, .pure), (41, .eff), (42, .pure), (43, .pure), (44, .pure), (45, .pure), (46, .eff), (47, .pure), (48, .pure), (49, .pure)]) rfl ?_
  refine Rg.pure rfl rfl rfl (Pv.move rfl) ?_
  refine Rg.pure rfl rfl rfl (Pv.eql rfl rfl) ?_
  refine Rg.pure rfl rfl rfl (Pv.move rfl) ?_
  refine Rg.split (t := 46) rfl (fun h46 => ?_) (fun h46 => absurd h46 (by decide))
  refine Rg.pure rfl rfl rfl (Pv.move rfl) ?_
  refine Rg.pure rfl rfl rfl (Pv.eql rfl rfl) ?_
  refine Rg.pure rfl rfl rfl (Pv.pickT rfl rfl) ?_
  refine Rg.pure rfl rfl rfl (Pv.move rfl) ?_
  refine Rg.split (t := 50) rfl (fun h50 => ?_) (fun h50 => absurd h50 (by decide))
  refine Rg.pure rfl rfl rfl (Pv.move rfl) ?_
  refine Rg.pure rfl rfl rfl (Pv.eql rfl rfl) ?_
  refine Rg.pure rfl rfl rfl (Pv.pickT rfl rfl) ?_
  refine Rg.pure rfl rfl rfl (Pv.move rfl) ?_
  refine Rg.split (t := 54) rfl (fun h54 => ?_) (fun h54 => absurd h54 (by decide))
  refine Rg.pure rfl rfl rfl (Pv.move rfl) ?_
  refine Rg.pure rfl rfl rfl (Pv.eql rfl rfl) ?_
  refine Rg.pure rfl rfl rfl (Pv.pickT rfl rfl) ?_
  refine Rg.pure rfl rfl rfl (Pv.move rfl) ?_
  refine Rg.split (t := 58) rfl (fun h58 => ?_) (fun h58 => absurd h58 (by simp [hz18]))
  refine Rg.pure rfl rfl rfl (Pv.move rfl) ?_
  refine Rg.pure rfl rfl rfl (Pv.eql rfl rfl) ?_
  refine Rg.pure rfl rfl rfl (Pv.pickT rfl rfl) ?_
  refine Rg.pure rfl rfl rfl (Pv.move rfl) ?_
  refine Rg.split (t := 62) rfl (fun h62 => ?_) (fun h62 => absurd h62 (by decide))
  refine Rg.pure rfl rfl rfl (Pv.move rfl) ?_
  refine Rg.pure rfl rfl rfl (Pv.eql rfl rfl) ?_
  refine Rg.pure rfl rfl rfl (Pv.pickT rfl rfl) ?_
  refine Rg.pure rfl rfl rfl (Pv.move rfl) ?_
  refine Rg.split (t := 66) rfl (fun h66 => ?_) (fun h66 => absurd h66 (by simp [secs, hz18]))
  refine Rg.pure rfl rfl rfl (Pv.move rfl) ?_
  refine Rg.pure rfl rfl rfl (Pv.eql rfl rfl) ?_
  refine Rg.pure rfl rfl rfl (Pv.pickT rfl rfl) ?_
  refine Rg.pure rfl rfl rfl (Pv.move rfl) ?_
  refine Rg.split (t := 70) rfl (fun h70 => ?_) (fun h70 => absurd h70 (by decide))
  refine Rg.pure rfl rfl rfl (Pv.move rfl) ?_
  refine Rg.pure rfl rfl rfl (Pv.eql rfl rfl) ?_
  refine Rg.pure rfl rfl rfl (Pv.pickT rfl rfl) ?_
  refine Rg.pure rfl rfl rfl (Pv.move rfl) ?_
  refine Rg.split (t := 74) rfl (fun h74 => ?_) (fun h74 => absurd h74 (by decide +kernel))
  refine Rg.pure rfl rfl rfl (Pv.move rfl) ?_
  refine Rg.pure rfl rfl rfl (Pv.eql rfl rfl) ?_
  refine Rg.pure rfl rfl rfl (Pv.pickT rfl rfl) ?_
  refine Rg.pure rfl rfl rfl (Pv.move rfl) ?_
  refine Rg.split (t := 78) rfl (fun h78 => ?_) (fun h78 => absurd h78 (by decide))
  refine Rg.pure rfl rfl rfl (Pv.move rfl) ?_
  refine Rg.callP rfl rfl rfl (run_callF rfl) (opsD_spec hD41 frz_sb) ?_
  rintro _ rfl
  refine Rg.pure rfl rfl rfl (Pv.eql rfl rfl) ?_
  refine Rg.pure rfl rfl rfl (Pv.pickT rfl rfl) ?_
  refine Rg.pure rfl rfl rfl (Pv.move rfl) ?_
  refine Rg.split (t := 83) rfl (fun h83 => ?_) (fun h83 => absurd h83 (by decide))
  refine Rg.pure rfl rfl rfl (Pv.move rfl) ?_
  refine Rg.callP rfl rfl rfl (run_callF rfl) (roomD_spec hD41 frz_sb) ?_
  rintro _ rfl
  refine Rg.pure rfl rfl rfl (Pv.eql rfl rfl) ?_
  refine Rg.pure rfl rfl rfl (Pv.pickT rfl rfl) ?_
  refine Rg.pure rfl rfl rfl (Pv.move rfl) ?_
  refine Rg.split (t := 88) rfl (fun h88 => ?_) (fun h88 => absurd h88 (by decide))
  refine Rg.pure rfl rfl rfl (Pv.move rfl) ?_
  refine Rg.callP rfl rfl rfl (run_callF rfl) (downD_spec hD41 frz_sb) ?_
  rintro _ rfl
  refine Rg.pure rfl rfl rfl (Pv.not rfl) ?_
  refine Rg.pure rfl rfl rfl (Pv.pickT rfl rfl) ?_
  refine Rg.pure rfl rfl rfl (Pv.assign rfl) ?_
  refine Rg.nil ?_
  refine Vc.ret (Vc.rets rfl (.cons (.tmp rfl) (.nil)) ?_)
  exact congrArg Value.bool (by decide)
end Go.Proofs.Ytmocncadncgaaaa
