/- The statements' functions: DiskRoom. -/
import Derived.Test.YtmocncadncgaaaaDk5
namespace Go.Proofs.Ytmocncadncgaaaa
set_option linter.unusedVariables false

abbrev nms : List (List UInt8) := [[97], [98]]
/-- two files that were never synced, by their bytes -/
def dR (L : List (List UInt8)) (room ops : Int) : Dk := d2 [97] [98] ⟨L[0]!, []⟩ ⟨L[1]!, []⟩ room ops
def sz (L : List (List UInt8)) : List Int := L.map fun l => ((l.length : Nat) : Int)
theorem len2 {L : List (List UInt8)} (h : L.length = 2) : ∃ a b, L = [a, b] := by
  match L, h with
  | [a, b], _ => exact ⟨a, b, rfl⟩
theorem sz_get {L : List (List UInt8)} {k : Nat} (hk : k < L.length) : (sz L)[k]! = ((L[k]!.length : Nat) : Int) := by
  rw [getElem!_pos (sz L) k (by simp [sz]; omega), getElem!_pos L k hk]
  simp [sz]
theorem beginsR {L : List (List UInt8)} {room ops : Int} : beginsD (dR L room ops) = (0, dR L room (ops + 1)) := begins2
theorem sizeR {L : List (List UInt8)} {room ops : Int} (hL : L.length = 2) {k : Nat} (hk : k < 2) : sizeD (dR L room ops) (nms[k]!) = (((L[k]!.length : Nat) : Int), 0) := by
  obtain ⟨a, b, rfl⟩ := len2 hL
  have : k = 0 ∨ k = 1 := by omega
  rcases this with rfl | rfl <;> simp only [sizeD, beginsR] <;> rfl
def need (L : List (List UInt8)) (k m : Nat) : Nat := secs (L[k]!.length + m) + secs L[1 - k]!.length
theorem appR {L : List (List UInt8)} {room ops : Int} (hL : L.length = 2) {k : Nat} (hk : k < 2) (bs : List UInt8) :
    writeD (dR L room ops) (nms[k]!) none bs = (if room < (need L k bs.length : Nat) then 6 else 0, dR (if room < (need L k bs.length : Nat) then L else L.set k (L[k]! ++ bs)) room (ops + 1)) := by
  obtain ⟨a, b, rfl⟩ := len2 hL
  have : k = 0 ∨ k = 1 := by omega
  rcases this with rfl | rfl
  · by_cases h : room < ((need [a, b] 0 bs.length : Nat) : Int)
    · rw [if_pos h, if_pos h]
      have h' : room < ((secs (a.length + bs.length) + secs b.length : Nat) : Int) := h
      have hf : findF [([97], (⟨a, []⟩ : Fl)), ([98], ⟨b, []⟩)] [97] = some ⟨a, []⟩ := rfl
      have hs : setF [([97], (⟨a, []⟩ : Fl)), ([98], ⟨b, []⟩)] [97] ⟨a, []⟩ = [([97], ⟨a, []⟩), ([98], ⟨b, []⟩)] := rfl
      show writeD (d2 [97] [98] ⟨a, []⟩ ⟨b, []⟩ room ops) [97] none bs = (6, d2 [97] [98] ⟨a, []⟩ ⟨b, []⟩ room (ops + 1))
      simp only [writeD, begins2, hf, Option.getD_none]
      have hm : max a.length (a.length + bs.length) = a.length + bs.length := by omega
      have hw : wrG room (((secs a.length : Nat) : Int) + (secs b.length : Nat)) a ((a.length : Nat) : Int) bs = (6, ((secs a.length : Nat) : Int) + (secs b.length : Nat), a) := by
        unfold wrG
        rw [if_neg (by omega), Int.toNat_natCast, hm, if_pos (by omega)]
      rw [hw]
      simp only [hs]
      rfl
    · rw [if_neg h, if_neg h]
      have h' : ¬ room < ((secs (a.length + bs.length) + secs b.length : Nat) : Int) := h
      exact app2a (n1 := a) (y1 := []) (f2 := ⟨b, []⟩) (by decide) bs (by show ((secs (a.length + bs.length) : Nat) : Int) + (secs b.length : Nat) ≤ room; omega)
  · by_cases h : room < ((need [a, b] 1 bs.length : Nat) : Int)
    · rw [if_pos h, if_pos h]
      have h' : room < ((secs (b.length + bs.length) + secs a.length : Nat) : Int) := h
      have hf : findF [([97], (⟨a, []⟩ : Fl)), ([98], ⟨b, []⟩)] [98] = some ⟨b, []⟩ := rfl
      have hs : setF [([97], (⟨a, []⟩ : Fl)), ([98], ⟨b, []⟩)] [98] ⟨b, []⟩ = [([97], ⟨a, []⟩), ([98], ⟨b, []⟩)] := rfl
      show writeD (d2 [97] [98] ⟨a, []⟩ ⟨b, []⟩ room ops) [98] none bs = (6, d2 [97] [98] ⟨a, []⟩ ⟨b, []⟩ room (ops + 1))
      simp only [writeD, begins2, hf, Option.getD_none]
      have hm : max b.length (b.length + bs.length) = b.length + bs.length := by omega
      have hw : wrG room (((secs a.length : Nat) : Int) + (secs b.length : Nat)) b ((b.length : Nat) : Int) bs = (6, ((secs a.length : Nat) : Int) + (secs b.length : Nat), b) := by
        unfold wrG
        rw [if_neg (by omega), Int.toNat_natCast, hm, if_pos (by omega)]
      rw [hw]
      simp only [hs]
      rfl
    · rw [if_neg h, if_neg h]
      have h' : ¬ room < ((secs (b.length + bs.length) + secs a.length : Nat) : Int) := h
      exact app2b (f1 := ⟨a, []⟩) (n2 := b) (y2 := []) (by decide) bs (by show ((secs a.length : Nat) : Int) + (secs (b.length + bs.length) : Nat) ≤ room; omega)
theorem mkR (room : Int) : createD (d1 [97] ⟨[], []⟩ room 1 false) [98] = (0, dR [[], []] room 2) := by
  simp only [createD, begins1]
  rfl
theorem set_len {L : List (List UInt8)} {k : Nat} {x : List UInt8} : (L.set k x).length = L.length := List.length_set
theorem sz_set {L : List (List UInt8)} {k : Nat} {x : List UInt8} : sz (L.set k x) = (sz L).set k ((x.length : Nat) : Int) := by simp [sz, List.map_set]
theorem get_set {L : List (List UInt8)} {k j : Nat} {x : List UInt8} (hk : k < L.length) (hj : j < L.length) : (L.set k x)[j]! = if k = j then x else L[j]! := by
  rw [getElem!_pos (L.set k x) j (by simpa using hj), getElem!_pos L j hj, List.getElem_set]

set_option maxHeartbeats 1000000 in
theorem DiskRoom_spec (F : Fm) (r0 : Int) (v1 : Value) (ls : List Sv) (xss : List (List UInt8)) (hr : ArgRB F v1 ls xss) :
    Spec Try.prog 3 #[.int .i64 r0, v1] F [] fun v _ => v = .bool true := by
  obtain ⟨p1, c1, rfl⟩ := hr.top.shape
  have hrt := hr.top
  obtain ⟨room, hroom⟩ : ∃ r, r = andN r0 65535 % 41 := ⟨_, rfl⟩
  have hroom40 : room ≤ 40 := by omega
  refine Spec.of (n := 152) (vs := [.int .i64 r0, .slice p1 ls.length c1]) Try.func3 rfl Try.ntmps3 rfl ?_
  refine Vc.seq ?_
  refine Vc.text (List.range 1) (sd [(0, .pure)]) rfl ?_
  refine Rg.pure rfl rfl rfl (Pv.assign rfl) ?_
  refine Rg.nil ?_
  refine Vc.seq ?_
  refine Vc.text (List.range 2) (sd [(0, .eff), (1, .pure)]) rfl ?_
  refine Rg.callP rfl rfl rfl (run_callF rfl) (shown_spec _) ?_
  rintro _ rfl
  refine Rg.pure rfl rfl rfl (Pv.assign rfl) ?_
  refine Rg.nil ?_
  refine Vc.seq ?_
  refine Vc.text (List.range 4) (sd [(0, .pure), (1, .pure), (2, .pure), (3, .pure)]) rfl ?_
  refine Rg.pure rfl rfl rfl (Pv.move rfl) ?_
  refine Rg.pure rfl rfl rfl (Pv.and rfl rfl (by omega)) ?_
  refine Rg.pure rfl rfl rfl (Pv.asI (room) (Pv.rem rfl rfl (by omega)) (by omega)) ?_
  refine Rg.pure rfl rfl rfl (Pv.assign rfl) ?_
  refine Rg.nil ?_
  refine Vc.seq ?_
  refine Vc.text (List.range 3) (sd [(0, .pure), (1, .eff), (2, .pure)]) rfl ?_
  refine Rg.pure rfl rfl rfl (Pv.move rfl) ?_
  refine Rg.callA rfl rfl rfl (run_callF rfl) (new_w _ (room : Int) (room : Int) (by omega)) ?_
  rintro _ s21 ⟨db, rfl, hD21, hw21⟩
  refine Rg.pure rfl rfl rfl (Pv.assign rfl) ?_
  refine Rg.nil ?_
  refine Vc.seq ?_
  refine Vc.seq ?_
  refine Vc.text (List.range 12) (sd [(0, .pure), (1, .pure), (2, .pure), (3, .pure), (4, .eff), (5, .pure), (6, .pure), (7, .pure), (8, .pure), (9, .eff), (10, .pure), (11, .pure)]) rfl ?_
  refine Rg.pure rfl rfl rfl (Pv.move rfl) ?_
  refine Rg.pure rfl rfl rfl (Pv.eqlNil rfl rfl) ?_
  refine Rg.pure rfl rfl rfl (Pv.move rfl) ?_
  refine Rg.split (t := 24) rfl (fun h24 => absurd h24 (by (cases h24))) (fun h24 => ?_)
  refine Rg.pure rfl rfl rfl (Pv.move rfl) ?_
  refine Rg.callH rfl rfl rfl (run_callF rfl) (fun F' hF' => create_w (F := F') hD21 hw21 (by omega) (by omega) [97] (create1 (by decide))) rfl ?_
  rintro _ s26 ⟨rfl, hD26, hw26⟩
  refine Rg.pure rfl rfl rfl (Pv.neq rfl rfl) ?_
  refine Rg.pure rfl rfl rfl (Pv.pickF rfl rfl) ?_
  refine Rg.pure rfl rfl rfl (Pv.move rfl) ?_
  refine Rg.split (t := 29) rfl (fun h29 => absurd h29 (by decide)) (fun h29 => ?_)
  refine Rg.pure rfl rfl rfl (Pv.move rfl) ?_
  refine Rg.callH rfl rfl rfl (run_callF rfl) (fun F' hF' => create_w (F := F') hD26 hw26 (by omega) (by omega) [98] (mkR (room : Int))) rfl ?_
  rintro _ s31 ⟨rfl, hD31, hw31⟩
  refine Rg.pure rfl rfl rfl (Pv.neq rfl rfl) ?_
  refine Rg.pure rfl rfl rfl (Pv.pickF rfl rfl) ?_
  refine Rg.nil ?_
  refine Vc.cond rfl (fun h33 => absurd h33 (by decide)) (fun h33 => ?_)
  refine Vc.skip ?_
  refine Vc.seq ?_
  refine Vc.text (List.range 2) (sd [(0, .eff), (1, .pure)]) rfl ?_
  refine Rg.makeN intE 0 (m := 2) rfl rfl rfl rfl rfl (by decide) (fun b34 own34 => ?_)
  refine Rg.pure rfl rfl rfl (Pv.assign rfl) ?_
  refine Rg.nil ?_
  refine Vc.seq ?_
  refine Vc.seq ?_
  refine Vc.text (List.range 1) (sd [(0, .pure)]) rfl ?_
  refine Rg.pure rfl rfl rfl (Pv.assign rfl) ?_
  refine Rg.nil ?_
  refine Vc.block ?_
  refine Vc.loop5 (fun (i : Nat) (L : List (List UInt8)) (s : Hl) (v : Value) (sg : Hl) => i ≤ 30 ∧ i ≤ ls.length ∧ L.length = 2 ∧ L[0]!.length ≤ 60 * i ∧ L[1]!.length ≤ 60 * i ∧ secs L[0]!.length + secs L[1]!.length ≤ room ∧ Own intE v (sz L) sg ∧ DiskAt db (dR L room ((2 + 2 * i : Nat) : Int)) s ∧ Dw (2 + 2 * i) (60 * i) (dR L room ((2 + 2 * i : Nat) : Int))) (fun i L s v sg => [(0, .int .i64 (room : Int)), (1, .slice p1 ls.length c1), (5, .bool true), (6, .pointer (some ⟨db, 0, none⟩)), (7, v), (8, .int .i64 (i : Int))]) (fun i L s v sg => s ++ sg) (fun i L s v sg => 30 - i) 0 [[], []] s31 _ _ ⟨by omega, by omega, rfl, Nat.le_refl _, Nat.le_refl _, Nat.zero_le _, own34, hD31, hw31⟩ (.cons rfl (.cons rfl (.cons rfl (.cons rfl (.cons rfl (.cons rfl .nil)))))) pulled ?_
  rintro i L s v sg ⟨hi, hil, hL2, hl0, hl1, hsr, own, hD, hw⟩
  have hszl : (sz L).length = 2 := by simp [sz, hL2]
  obtain ⟨bS, cS, spS, rfl, rfl, hsc, hcm⟩ := own.block (by omega)
  rw [hszl]
  refine Vc.seq ?_
  refine Vc.seq ?_
  refine Vc.cut1 (fun (bb : Bool) => (bb = true → i < ls.length ∧ i < 30)) (fun bb => [(42, .bool bb), (0, .int .i64 (room : Int)), (1, .slice p1 ls.length c1), (5, .bool true), (6, .pointer (some ⟨db, 0, none⟩)), (7, .slice (some ⟨bS, 0, none⟩) 2 cS), (8, .int .i64 (i : Int))]) (fun bb => s ++ [(bS, rowS intE (sz L) spS)]) ?_ ?_
  ·
    refine Vc.text (List.range 8) (sd [(0, .pure), (1, .pure), (2, .pure), (3, .pure), (4, .pure), (5, .pure), (6, .pure), (7, .pure)]) rfl ?_
    refine Rg.pure rfl rfl rfl (Pv.move rfl) ?_
    refine Rg.pure rfl rfl rfl (Pv.move rfl) ?_
    refine Rg.pure rfl rfl rfl (Pv.lenS rfl) ?_
    refine Rg.pure rfl rfl rfl (Pv.lss rfl rfl) ?_
    refine Rg.pure rfl rfl rfl (Pv.move rfl) ?_
    refine Rg.split (t := 39) rfl (fun h39 => ?_) (fun h39 => ?_)
    ·
      simp only [decide_eq_true_eq] at h39
      refine Rg.pure rfl rfl rfl (Pv.move rfl) ?_
      refine Rg.pure rfl rfl rfl (Pv.lss rfl rfl) ?_
      refine Rg.pure rfl rfl rfl (Pv.pickT rfl rfl) ?_
      refine Rg.nil ?_
      exact Vc.inv1 _ (fun hb => ⟨by omega, by have := of_decide_eq_true hb; omega⟩) (.cons rfl (.cons rfl (.cons rfl (.cons rfl (.cons rfl (.cons rfl (.cons rfl .nil))))))) pulled
    ·
      simp only [decide_eq_false_iff_not] at h39
      iterate 2 (first | refine Rg.skipP rfl rfl rfl ?_ | refine Rg.skipR rfl rfl rfl ?_ | refine Rg.skipE rfl rfl rfl ?_)
      refine Rg.pure rfl rfl rfl (Pv.pickF rfl rfl) ?_
      refine Rg.nil ?_
      exact Vc.inv1 _ (fun hb => by cases hb) (.cons rfl (.cons rfl (.cons rfl (.cons rfl (.cons rfl (.cons rfl (.cons rfl .nil))))))) pulled
  ·
    rintro bb hbb
    refine Vc.cond rfl (fun h42 => ?_) (fun h42 => ?_)
    ·
      obtain ⟨hix, hi30⟩ := hbb h42
      obtain ⟨pk, ck, ys, pc, hsk, hpcl, _, hpcc, hpca⟩ := hr.piece hix
      obtain ⟨bl, off, c', e, _⟩ := hrt.block (by omega)
      cases e
      obtain ⟨k, hk⟩ : ∃ k, k = i % 2 := ⟨_, rfl⟩
      have hk2 : k < 2 := by omega
      have hLk : L[k]!.length ≤ 60 * i ∧ L[1 - k]!.length ≤ 60 * i := by
        have : k = 0 ∨ k = 1 := by omega
        rcases this with rfl | rfl
        · exact ⟨hl0, hl1⟩
        · exact ⟨hl1, hl0⟩
      have hgk := sz_get (L := L) (k := k) (by omega)
      have hgk1 := sz_get (L := L) (k := 1 - k) (by omega)
      have hneed : need L k pc.length = (L[k]!.length + pc.length + 15) / 16 + (L[1 - k]!.length + 15) / 16 := rfl
      refine Vc.skip ?_
      refine Vc.seq ?_
      refine Vc.block ?_
      refine Vc.seq ?_
      refine Vc.drawS [] (sd [(0, .pure), (1, .pure), (2, .pure), (3, .read), (4, .pure), (5, .pure), (6, .pure), (7, .read), (8, .pure), (9, .pure), (10, .pure), (11, .pure)]) [] pulled mixed (by kernel_rfl) ?_
      refine Rg.pure rfl rfl rfl (Pv.move rfl) ?_
      refine Rg.pure rfl rfl rfl (Pv.move rfl) ?_
      refine Rg.pure rfl rfl rfl (Pv.ixA (i) rfl rfl (by omega) (by omega)) ?_
      refine Rg.read rfl rfl rfl (Ev.as (.slice pk ys ck) (Ev.ldS (E := slE) i hrt.src rfl rfl rfl (by omega)) (congrArg slE.val hsk)) ?_
      refine Rg.pure rfl rfl rfl (Pv.move rfl) ?_
      refine Rg.pure rfl rfl rfl (Pv.move rfl) ?_
      refine Rg.pure rfl rfl rfl (Pv.ixA (i) rfl rfl (by omega) (by omega)) ?_
      refine Rg.read rfl rfl rfl (Ev.as (.slice pk ys ck) (Ev.ldS (E := slE) i hrt.src rfl rfl rfl (by omega)) (congrArg slE.val hsk)) ?_
      refine Rg.pure rfl rfl rfl (Pv.lenS rfl) ?_
      refine Rg.pure rfl rfl rfl (Pv.asI (pc.length) (Pv.min rfl rfl) (by omega)) ?_
      refine Rg.pure rfl rfl rfl (Pv.slTo (pc.length) rfl rfl (by omega)) ?_
      refine Rg.pure rfl rfl rfl (Pv.assign rfl) ?_
      refine Rg.nil ?_
      refine Vc.seq ?_
      refine Vc.text (List.range 2) (sd [(0, .eff), (1, .pure)]) rfl ?_
      refine Rg.bsliceR (E := strE) (e := 9) (cs := [kS [97], kS [98]]) nms rfl rfl rfl rfl rfl rfl rfl (by rfl) rfl (by decide) (fun b56 own56 => ?_)
      refine Rg.pure rfl rfl rfl (Pv.assign rfl) ?_
      refine Rg.nil ?_
      refine Vc.seq ?_
      refine Vc.text (List.range 3) (sd [(0, .pure), (1, .pure), (2, .pure)]) rfl ?_
      refine Rg.pure rfl rfl rfl (Pv.move rfl) ?_
      refine Rg.pure rfl rfl rfl (Pv.asI (k) (Pv.rem rfl rfl (by omega)) (by omega)) ?_
      refine Rg.pure rfl rfl rfl (Pv.assign rfl) ?_
      refine Rg.nil ?_
      refine Vc.seq ?_
      refine Vc.text (List.range 8) (sd [(0, .pure), (1, .pure), (2, .pure), (3, .pure), (4, .read), (5, .pure), (6, .eff), (7, .pure)]) rfl ?_
      refine Rg.pure rfl rfl rfl (Pv.move rfl) ?_
      refine Rg.pure rfl rfl rfl (Pv.move rfl) ?_
      refine Rg.pure rfl rfl rfl (Pv.move rfl) ?_
      refine Rg.pure rfl rfl rfl (Pv.ixA (k) rfl rfl (by omega) (by omega)) ?_
      refine Rg.read rfl rfl rfl (Ev.as (kS (nms[k]!)) (Ev.ldR (E := strE) k rfl (Nat.zero_add _) (by simp; omega)) rfl) ?_
      refine Rg.pure rfl rfl rfl (Pv.move rfl) ?_
      refine Rg.callH rfl rfl rfl (run_callF rfl) (fun F' hF' => append_w (F := F') hD hw (by omega) (by omega) (nms[k]!) (hpca.mono fun b o h => hF' b o (.inr h)) (by omega) (appR hL2 hk2 pc)) rfl ?_
      rintro _ s65 ⟨rfl, hD65, hw65⟩
      refine Rg.pure rfl rfl rfl (Pv.assign rfl) ?_
      refine Rg.nil ?_
      refine Vc.seq ?_
      refine Vc.draw [] (sd [(0, .pure), (1, .pure), (2, .pure), (3, .read), (4, .pure), (5, .pure), (6, .pure), (7, .pure), (8, .pure), (9, .pure), (10, .pure), (11, .pure), (12, .pure), (13, .read), (14, .pure), (15, .pure), (16, .pure), (17, .pure)]) mixed (by kernel_rfl) ?_
      refine Rg.pure rfl rfl rfl (Pv.move rfl) ?_
      refine Rg.pure rfl rfl rfl (Pv.move rfl) ?_
      refine Rg.pure rfl rfl rfl (Pv.ixA (k) rfl rfl (by omega) (by omega)) ?_
      refine Rg.read rfl rfl rfl (Ev.as (.int .i64 (L[k]!.length : Int)) (Ev.ldR (E := intE) k rfl (Nat.zero_add _) (by omega)) (congrArg intE.val hgk)) ?_
      refine Rg.pure rfl rfl rfl (Pv.move rfl) ?_
      refine Rg.pure rfl rfl rfl (Pv.lenS rfl) ?_
      refine Rg.pure rfl rfl rfl (Pv.asI (L[k]!.length + pc.length) (Pv.add rfl rfl (by omega)) (by omega)) ?_
      refine Rg.pure rfl rfl rfl (Pv.asI (L[k]!.length + pc.length + 15) (Pv.add rfl rfl (by omega)) (by omega)) ?_
      refine Rg.pure rfl rfl rfl (Pv.asI ((L[k]!.length + pc.length + 15) / 16) (Pv.quo rfl rfl (by omega)) (by omega)) ?_
      refine Rg.pure rfl rfl rfl (Pv.move rfl) ?_
      refine Rg.pure rfl rfl rfl (Pv.move rfl) ?_
      refine Rg.pure rfl rfl rfl (Pv.asI (1 - k) (Pv.sub rfl rfl (by omega)) (by omega)) ?_
      refine Rg.pure rfl rfl rfl (Pv.ixA (1 - k) rfl rfl (by omega) (by omega)) ?_
      refine Rg.read rfl rfl rfl (Ev.as (.int .i64 (L[1 - k]!.length : Int)) (Ev.ldR (E := intE) (1 - k) rfl (Nat.zero_add _) (by omega)) (congrArg intE.val hgk1)) ?_
      refine Rg.pure rfl rfl rfl (Pv.asI (L[1 - k]!.length + 15) (Pv.add rfl rfl (by omega)) (by omega)) ?_
      refine Rg.pure rfl rfl rfl (Pv.asI ((L[1 - k]!.length + 15) / 16) (Pv.quo rfl rfl (by omega)) (by omega)) ?_
      refine Rg.pure rfl rfl rfl (Pv.asI (need L k pc.length) (Pv.add rfl rfl (by omega)) (by rw [hneed]; omega)) ?_
      refine Rg.pure rfl rfl rfl (Pv.assign rfl) ?_
      refine Rg.nil ?_
      refine Vc.seq ?_
      refine Vc.seq ?_
      refine Vc.cut1 (fun (bb : Bool) => bb = false) (fun bb => [(96, .bool bb), (0, .int .i64 (room : Int)), (1, .slice (some ⟨bl, off, none⟩) ls.length c1), (5, .bool true), (6, .pointer (some ⟨db, 0, none⟩)), (7, .slice (some ⟨bS, 0, none⟩) 2 cS), (8, .int .i64 (i : Int)), (9, .slice pk pc.length ck), (10, .slice (some ⟨b56, 0, none⟩) 2 2), (11, .int .i64 (k : Int)), (12, .int .i64 (if (room : Int) < (need L k pc.length : Nat) then 6 else 0))]) (fun bb => s65 ++ ((b56, rowS strE nms []) :: [(bS, rowS intE (sz L) spS)])) ?_ ?_
      ·
        refine Vc.text (List.range 14) (sd [(0, .pure), (1, .pure), (2, .pure), (3, .pure), (4, .pure), (5, .pure), (6, .pure), (7, .pure), (8, .pure), (9, .pure), (10, .pure), (11, .pure), (12, .pure), (13, .pure)]) rfl ?_
        refine Rg.pure rfl rfl rfl (Pv.move rfl) ?_
        refine Rg.pure rfl rfl rfl (Pv.eql rfl rfl) ?_
        refine Rg.pure rfl rfl rfl (Pv.move rfl) ?_
        refine Rg.pure rfl rfl rfl (Pv.move rfl) ?_
        refine Rg.pure rfl rfl rfl (Pv.leq rfl rfl) ?_
        refine Rg.pure rfl rfl rfl (Pv.neqB rfl rfl) ?_
        refine Rg.pure rfl rfl rfl (Pv.move rfl) ?_
        refine Rg.split (t := 89) rfl (fun h89 => absurd h89 (by by_cases h : (room : Int) < (need L k pc.length : Nat) <;> simp [h] <;> omega)) (fun h89 => ?_)
        refine Rg.pure rfl rfl rfl (Pv.move rfl) ?_
        refine Rg.pure rfl rfl rfl (Pv.neq rfl rfl) ?_
        refine Rg.pure rfl rfl rfl (Pv.move rfl) ?_
        refine Rg.split (t := 92) rfl (fun h92 => ?_) (fun h92 => ?_)
        ·
          simp only [bne_iff_ne, ne_eq] at h92
          have hfull : (room : Int) < (need L k pc.length : Nat) := by by_cases h : (room : Int) < (need L k pc.length : Nat); exact h; rw [if_neg h] at h92; exact absurd rfl h92
          refine Rg.pure rfl rfl rfl (Pv.move rfl) ?_
          refine Rg.pure rfl rfl rfl (Pv.neq rfl rfl) ?_
          refine Rg.pure rfl rfl rfl (Pv.pickT rfl rfl) ?_
          refine Rg.pure rfl rfl rfl (Pv.pickF rfl rfl) ?_
          refine Rg.nil ?_
          exact Vc.inv1 _ (by simp [hfull]) (.cons rfl (.cons rfl (.cons rfl (.cons rfl (.cons rfl (.cons rfl (.cons rfl (.cons rfl (.cons rfl (.cons rfl (.cons rfl .nil))))))))))) pulled
        ·
          iterate 2 (first | refine Rg.skipP rfl rfl rfl ?_ | refine Rg.skipR rfl rfl rfl ?_ | refine Rg.skipE rfl rfl rfl ?_)
          refine Rg.pure rfl rfl rfl (Pv.pickF rfl rfl) ?_
          refine Rg.pure rfl rfl rfl (Pv.pickF rfl rfl) ?_
          refine Rg.nil ?_
          exact Vc.inv1 false rfl (.cons rfl (.cons rfl (.cons rfl (.cons rfl (.cons rfl (.cons rfl (.cons rfl (.cons rfl (.cons rfl (.cons rfl (.cons rfl .nil))))))))))) pulled
      ·
        rintro bb rfl
        refine Vc.cond rfl (fun h96 => absurd h96 (by decide)) (fun h96 => ?_)
        refine Vc.skip ?_
        refine Vc.seq ?_
        refine Vc.seq ?_
        refine Vc.text (List.range 2) (sd [(0, .pure), (1, .pure)]) rfl ?_
        refine Rg.pure rfl rfl rfl (Pv.move rfl) ?_
        refine Rg.pure rfl rfl rfl (Pv.eql rfl rfl) ?_
        refine Rg.nil ?_
        refine Vc.cut3 (fun (M : List (List UInt8)) (v : Value) (sg : Hl) => M.length = 2 ∧ M[0]!.length ≤ 60 * (i + 1) ∧ M[1]!.length ≤ 60 * (i + 1) ∧ secs M[0]!.length + secs M[1]!.length ≤ room ∧ Own intE v (sz M) sg ∧ DiskAt db (dR M room ((2 + 2 * i : Nat) + 1)) s65 ∧ Dw (2 + 2 * i + 1) (60 * i + pc.length) (dR M room ((2 + 2 * i : Nat) + 1))) (fun M v sg => [(0, .int .i64 (room : Int)), (1, .slice (some ⟨bl, off, none⟩) ls.length c1), (5, .bool true), (6, .pointer (some ⟨db, 0, none⟩)), (7, v), (8, .int .i64 (i : Int)), (10, .slice (some ⟨b56, 0, none⟩) 2 2), (11, .int .i64 (k : Int))]) (fun M v sg => s65 ++ ((b56, rowS strE nms []) :: sg)) ?_ ?_
        ·
          refine Vc.cond rfl (fun h98 => ?_) (fun h98 => ?_)
          ·
            simp only [beq_iff_eq] at h98
            have hfit : ¬ (room : Int) < (need L k pc.length : Nat) := by intro h; rw [if_pos h] at h98; cases h98
            rw [if_neg hfit] at hD65 hw65
            have hset := sz_set (L := L) (k := k) (x := L[k]! ++ pc)
            have hset2 : sz (L.set k (L[k]! ++ pc)) = (sz L).set k (((L[k]!.length + pc.length : Nat)) : Int) := by rw [hset, List.length_append]
            refine Vc.text (List.range 11) (sd [(0, .pure), (1, .pure), (2, .pure), (3, .pure), (4, .pure), (5, .read), (6, .pure), (7, .pure), (8, .pure), (9, .pure), (10, .eff)]) rfl ?_
            refine Rg.pure rfl rfl rfl (Pv.move rfl) ?_
            refine Rg.pure rfl rfl rfl (Pv.move rfl) ?_
            refine Rg.pure rfl rfl rfl (Pv.move rfl) ?_
            refine Rg.pure rfl rfl rfl (Pv.move rfl) ?_
            refine Rg.pure rfl rfl rfl (Pv.ixA (k) rfl rfl (by omega) (by omega)) ?_
            refine Rg.read rfl rfl rfl (Ev.as (.int .i64 (L[k]!.length : Int)) (Ev.ldR (E := intE) k rfl (Nat.zero_add _) (by omega)) (congrArg intE.val hgk)) ?_
            refine Rg.pure rfl rfl rfl (Pv.move rfl) ?_
            refine Rg.pure rfl rfl rfl (Pv.lenS rfl) ?_
            refine Rg.pure rfl rfl rfl (Pv.asI (L[k]!.length + pc.length) (Pv.add rfl rfl (by omega)) (by omega)) ?_
            refine Rg.pure rfl rfl rfl (Pv.ixA (k) rfl rfl (by omega) (by omega)) ?_
            refine Rg.storeR (E := intE) (z := ((L[k]!.length + pc.length : Nat) : Int)) k rfl rfl rfl rfl rfl rfl (Nat.zero_add _) (by omega) rfl ?_
            rw [← hset2]
            refine Rg.nil ?_
            exact Vc.inv3 (L.set k (L[k]! ++ pc)) _ _ ⟨by rw [List.length_set]; exact hL2, by rw [get_set (by omega) (by omega)]; split <;> (try rw [List.length_append]) <;> omega, by rw [get_set (by omega) (by omega)]; split <;> (try rw [List.length_append]) <;> omega, by
              have : k = 0 ∨ k = 1 := by omega
              rcases this with rfl | rfl
              · rw [get_set (by omega) (by omega), get_set (by omega) (by omega), if_pos rfl, if_neg (by omega), List.length_append]
                unfold secs at *
                simp only [hneed, Nat.sub_zero] at hfit
                omega
              · rw [get_set (by omega) (by omega), get_set (by omega) (by omega), if_neg (by omega), if_pos rfl, List.length_append]
                unfold secs at *
                simp only [hneed, Nat.sub_self] at hfit
                omega, by
              have := Own.blk' (E := intE) bS cS 2 (sz (L.set k (L[k]! ++ pc))) spS (by simp [sz, hL2]) (by simpa [hszl] using hsc) hcm
              exact this, hD65, hw65⟩ (.cons rfl (.cons rfl (.cons rfl (.cons rfl (.cons rfl (.cons rfl (.cons rfl (.cons rfl .nil)))))))) pulled
          ·
            simp only [beq_eq_false_iff_ne, ne_eq] at h98
            have hfull : (room : Int) < (need L k pc.length : Nat) := by by_cases h : (room : Int) < (need L k pc.length : Nat); exact h; rw [if_neg h] at h98; exact absurd rfl h98
            rw [if_pos hfull] at hD65 hw65
            refine Vc.skip ?_
            exact Vc.inv3 L _ _ ⟨hL2, by omega, by omega, hsr, by rw [hszl] at own; exact own, hD65, hw65⟩ (.cons rfl (.cons rfl (.cons rfl (.cons rfl (.cons rfl (.cons rfl (.cons rfl (.cons rfl .nil)))))))) pulled
        ·
          rintro M v sg2 ⟨hM2, hm0, hm1, hmr, ownM, hDM, hwM⟩
          have hmszl : (sz M).length = 2 := by simp [sz, hM2]
          obtain ⟨bM, cM, spM, rfl, rfl, hscM, hcmM⟩ := ownM.block (by omega)
          rw [hmszl]
          have hmk := sz_get (L := M) (k := k) (by omega)
          have hmk0 := sz_get (L := M) (k := 0) (by omega)
          have hmk1 := sz_get (L := M) (k := 1) (by omega)
          refine Vc.seq ?_
          refine Vc.text (List.range 11) (sd [(0, .pure), (1, .pure), (2, .pure), (3, .pure), (4, .read), (5, .eff), (6, .pure), (7, .pure), (8, .pure), (9, .pure), (10, .pure)]) rfl ?_
          refine Rg.pure rfl rfl rfl (Pv.move rfl) ?_
          refine Rg.pure rfl rfl rfl (Pv.move rfl) ?_
          refine Rg.pure rfl rfl rfl (Pv.move rfl) ?_
          refine Rg.pure rfl rfl rfl (Pv.ixA (k) rfl rfl (by omega) (by omega)) ?_
          refine Rg.read rfl rfl rfl (Ev.as (kS (nms[k]!)) (Ev.ldR (E := strE) k rfl (Nat.zero_add _) (by simp; omega)) rfl) ?_
          refine Rg.callH rfl rfl rfl (run_callF rfl) (fun F' hF' => size_w (F := F') hDM hwM (by omega) (by omega) (nms[k]!) (sizeR hM2 hk2) (congrArg Prod.snd beginsR)) rfl ?_
          rintro _ s115 ⟨rfl, hD115, hw115⟩
          refine Rg.pure rfl rfl rfl (Pv.move rfl) ?_
          refine Rg.pure rfl rfl rfl (Pv.extract rfl rfl) ?_
          refine Rg.pure rfl rfl rfl (Pv.extract rfl rfl) ?_
          refine Rg.pure rfl rfl rfl (Pv.assign rfl) ?_
          refine Rg.pure rfl rfl rfl (Pv.assign rfl) ?_
          refine Rg.nil ?_
          refine Vc.seq ?_
          refine Vc.draw [] (sd [(0, .pure), (1, .pure), (2, .pure), (3, .pure), (4, .pure), (5, .pure), (6, .pure), (7, .read), (8, .pure), (9, .pure), (10, .pure), (11, .pure), (13, .pure), (14, .pure), (15, .read), (16, .pure), (17, .pure), (18, .pure), (19, .pure), (20, .read), (21, .pure), (22, .pure), (23, .pure), (12, .eff), (24, .pure), (25, .pure), (26, .pure), (27, .pure), (29, .pure), (28, .eff), (30, .eff), (31, .pure), (32, .pure)]) mixed (by kernel_rfl) ?_
          refine Rg.pure rfl rfl rfl (Pv.move rfl) ?_
          refine Rg.pure rfl rfl rfl (Pv.neq rfl rfl) ?_
          refine Rg.pure rfl rfl rfl (Pv.move rfl) ?_
          refine Rg.split (t := 120) rfl (fun h120 => absurd h120 (by decide)) (fun h120 => ?_)
          refine Rg.pure rfl rfl rfl (Pv.move rfl) ?_
          refine Rg.pure rfl rfl rfl (Pv.move rfl) ?_
          refine Rg.pure rfl rfl rfl (Pv.move rfl) ?_
          refine Rg.pure rfl rfl rfl (Pv.ixA (k) rfl rfl (by omega) (by omega)) ?_
          refine Rg.read rfl rfl rfl (Ev.as (.int .i64 (M[k]!.length : Int)) (Ev.ldR (E := intE) k rfl (Nat.zero_add _) (by omega)) (congrArg intE.val hmk)) ?_
          refine Rg.pure rfl rfl rfl (Pv.neq rfl rfl) ?_
          refine Rg.pure rfl rfl rfl (Pv.pickF rfl rfl) ?_
          refine Rg.pure rfl rfl rfl (Pv.move rfl) ?_
          refine Rg.split (t := 128) rfl (fun h128 => absurd h128 (by simp)) (fun h128 => ?_)
          refine Rg.pure rfl rfl rfl (Pv.move rfl) ?_
          refine Rg.pure rfl rfl rfl (Pv.move rfl) ?_
          refine Rg.pure rfl rfl rfl (Pv.ixA (0) rfl rfl (by omega) (by omega)) ?_
          refine Rg.read rfl rfl rfl (Ev.as (.int .i64 (M[0]!.length : Int)) (Ev.ldR (E := intE) 0 rfl (by rfl) (by omega)) (congrArg intE.val hmk0)) ?_
          refine Rg.pure rfl rfl rfl (Pv.asI (M[0]!.length + 15) (Pv.add rfl rfl (by omega)) (by omega)) ?_
          refine Rg.pure rfl rfl rfl (Pv.asI ((M[0]!.length + 15) / 16) (Pv.quo rfl rfl (by omega)) (by omega)) ?_
          refine Rg.pure rfl rfl rfl (Pv.move rfl) ?_
          refine Rg.pure rfl rfl rfl (Pv.ixA (1) rfl rfl (by omega) (by omega)) ?_
          refine Rg.read rfl rfl rfl (Ev.as (.int .i64 (M[1]!.length : Int)) (Ev.ldR (E := intE) 1 rfl (by rfl) (by omega)) (congrArg intE.val hmk1)) ?_
          refine Rg.pure rfl rfl rfl (Pv.asI (M[1]!.length + 15) (Pv.add rfl rfl (by omega)) (by omega)) ?_
          refine Rg.pure rfl rfl rfl (Pv.asI ((M[1]!.length + 15) / 16) (Pv.quo rfl rfl (by omega)) (by omega)) ?_
          refine Rg.pure rfl rfl rfl (Pv.asI ((M[0]!.length + 15) / 16 + (M[1]!.length + 15) / 16) (Pv.add rfl rfl (by omega)) (by omega)) ?_
          refine Rg.callP rfl rfl rfl (run_callF rfl) (usedD_spec hD115 frz_sb) ?_
          rintro _ rfl
          refine Rg.pure rfl rfl rfl (Pv.neq rfl rfl) ?_
          refine Rg.pure rfl rfl rfl (Pv.pickF rfl rfl) ?_
          refine Rg.pure rfl rfl rfl (Pv.move rfl) ?_
          refine Rg.split (t := 144) rfl (fun h144 => absurd h144 (by rw [bne_iff_ne, ne_eq, Classical.not_not]; show ((secs M[0]!.length : Nat) : Int) + (secs M[1]!.length : Nat) = _; unfold secs; omega)) (fun h144 => ?_)
          refine Rg.pure rfl rfl rfl (Pv.move rfl) ?_
          refine Rg.pure rfl rfl rfl (Pv.move rfl) ?_
          refine Rg.callP rfl rfl rfl (run_callF rfl) (usedD_spec hD115 frz_sb) ?_
          rintro _ rfl
          refine Rg.callP rfl rfl rfl (run_callF rfl) (roomD_spec hD115 frz_sb) ?_
          rintro _ rfl
          refine Rg.pure rfl rfl rfl (Pv.gtr rfl rfl) ?_
          refine Rg.pure rfl rfl rfl (Pv.pickF rfl rfl) ?_
          refine Rg.nil ?_
          refine Vc.cond rfl (fun h150 => absurd h150 (by rw [decide_eq_true_eq]; show ¬ ((room : Int) < ((secs M[0]!.length : Nat) : Int) + (secs M[1]!.length : Nat)); omega)) (fun h150 => ?_)
          refine Vc.skip ?_
          refine Vc.blk ?_
          refine Vc.text (List.range 3) (sd [(0, .pure), (1, .pure), (2, .pure)]) rfl ?_
          refine Rg.pure rfl rfl rfl (Pv.move rfl) ?_
          refine Rg.pure rfl rfl rfl (Pv.asI (i + 1) (Pv.add rfl rfl (by omega)) (by omega)) ?_
          refine Rg.pure rfl rfl rfl (Pv.assign rfl) ?_
          refine Rg.nil ?_
          exact Vc.inv5 (i + 1) M s115 _ _ ⟨⟨by omega, by omega, hM2, hm0, hm1, hmr, (by rw [hmszl] at ownM; exact ownM), by rw [show ((2 + 2 * (i + 1) : Nat) : Int) = ((2 + 2 * i : Nat) : Int) + 1 + 1 by omega]; exact hD115, by rw [show ((2 + 2 * (i + 1) : Nat) : Int) = ((2 + 2 * i : Nat) : Int) + 1 + 1 by omega]; exact hw115.mono (by omega) (by omega)⟩, by omega⟩ (.cons rfl (.cons rfl (.cons rfl (.cons rfl (.cons rfl (.cons rfl .nil)))))) pulled
    ·
      refine Vc.exit rfl ?_
      refine Vc.seq ?_
      refine Vc.text (List.range 2) (sd [(0, .pure), (1, .pure)]) rfl ?_
      refine Rg.pure rfl rfl rfl (Pv.move rfl) ?_
      refine Rg.pure rfl rfl rfl (Pv.assign rfl) ?_
      refine Rg.nil ?_
      refine Vc.ret (Vc.rets rfl (.cons (.tmp rfl) (.nil)) ?_)
      rfl
end Go.Proofs.Ytmocncadncgaaaa
