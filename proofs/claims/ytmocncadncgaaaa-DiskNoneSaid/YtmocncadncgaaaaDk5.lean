/- The statements' functions: DiskWrites. -/
import Derived.Test.YtmocncadncgaaaaDk4
namespace Go.Proofs.Ytmocncadncgaaaa
set_option linter.unusedVariables false

def intE : Enc Int where
  k := 1
  tid := 3
  cells := fun z => [.int .i64 z]
  val := fun z => .int .i64 z
  pos := by decide
  len := fun _ => rfl
  one := fun x v hv => by simp at hv; subst hv; rfl
  vc := fun _ => rfl
instance : RowTy Try.prog intE 3 := ⟨Try.sizeOf3, .inr ⟨Try.isAgg3, rfl, fun _ => rfl⟩⟩
instance : TySl Try.prog 28 intE 8 := ⟨Try.underlying28, Try.t3, .int .i64 0, by kernel_rfl, by kernel_rfl, rfl, rfl, rfl⟩
instance : TyZero Try.prog intE.tid (intE.val 0) := inferInstanceAs (TyZero Try.prog 3 (.int .i64 0))

theorem take_succ' {p : List UInt8} {n : Nat} (h : n < p.length) : p.take (n + 1) = p.take n ++ [p[n]!] := by
  rw [List.take_succ_eq_append_getElem h, getElem!_pos p n h]
theorem putAt_set {l p : List UInt8} {k n : Nat} (hk : k ≤ l.length) (hn : n < p.length) (h : k + n < l.length) : (putAt l k (p.take n)).set (k + n) p[n]! = putAt l k (p.take (n + 1)) := by
  have h1 : (p.take n).length = n := by simp; omega
  have h2 : (p.take (n + 1)).length = n + 1 := by simp; omega
  have hl := putAt_length (bs := p.take n) hk
  apply List.ext_getElem?
  intro j
  rw [putAt_get hk, h2, List.getElem?_set, putAt_get hk, h1, hl, h1]
  by_cases c : k + n = j
  · subst c
    rw [if_pos rfl, if_pos (by omega), if_neg (by omega), if_pos (by omega), show k + n - k = n by omega, List.getElem?_take_of_lt (by omega), getElem!_pos p n hn]
    exact (List.getElem?_eq_getElem hn).symm
  · rw [if_neg c]
    by_cases c1 : j < k
    · rw [if_pos c1, if_pos c1]
    · rw [if_neg c1, if_neg c1]
      by_cases c2 : j < k + n
      · rw [if_pos c2, if_pos (by omega), List.getElem?_take_of_lt (by omega), List.getElem?_take_of_lt (by omega)]
      · rw [if_neg c2, if_neg (by omega)]
theorem putAt_app {l p : List UInt8} {k n : Nat} (hk : k ≤ l.length) (hn : n < p.length) (h : l.length ≤ k + n) : putAt l k (p.take n) ++ [p[n]!] = putAt l k (p.take (n + 1)) := by
  have h1 : (p.take n).length = n := by simp; omega
  have h2 : (p.take (n + 1)).length = n + 1 := by simp; omega
  unfold putAt
  rw [h1, h2, List.drop_eq_nil_of_le h, List.drop_eq_nil_of_le (by omega), List.append_nil, List.append_nil, take_succ' hn, List.append_assoc]
theorem putAt_nil {l : List UInt8} {k : Nat} : putAt l k [] = l := by simp [putAt]

set_option maxHeartbeats 1000000 in
theorem DiskWrites_spec (F : Fm) (v0 v1 v2 : Value) (xs : List UInt8) (ls : List Sv) (xss : List (List UInt8)) (ats : List Int) (h0 : Arg byteE F v0 xs) (hr : ArgRB F v1 ls xss) (h2 : Arg intE F v2 ats) :
    Spec Try.prog 8 #[v0, v1, v2] F [] fun v _ => v = .bool true := by
  obtain ⟨p0, c0, rfl⟩ := h0.shape
  obtain ⟨p1, c1, rfl⟩ := hr.top.shape
  obtain ⟨p2, c2, rfl⟩ := h2.shape
  obtain ⟨b, hbl, _, hbc, hb⟩ := h0.upTo 200
  rw [← hbl] at hb hbc
  have hrt := hr.top
  refine Spec.of (n := 152) (vs := [.slice p0 xs.length c0, .slice p1 ls.length c1, .slice p2 ats.length c2]) Try.func8 rfl Try.ntmps8 rfl ?_
  refine Vc.seq ?_
  refine Vc.text (List.range 1) (sd [(0, .pure)]) rfl ?_
  refine Rg.pure rfl rfl rfl (Pv.assign rfl) ?_
  refine Rg.nil ?_
  refine Vc.seq ?_
  refine Vc.text (List.range 2) (sd [(0, .eff), (1, .pure)]) rfl ?_
  refine Rg.callP rfl rfl rfl (run_callF rfl) (shown_spec _) ?_
  rintro _ rfl
  refine Rg.pure rfl rfl rfl (Pv.assign rfl) ?_
  refine Rg.nil ?_
  refine Vc.seq ?_
  refine Vc.text (List.range 6) (sd [(0, .pure), (1, .pure), (2, .pure), (3, .pure), (4, .pure), (5, .pure)]) rfl ?_
  refine Rg.pure rfl rfl rfl (Pv.move rfl) ?_
  refine Rg.pure rfl rfl rfl (Pv.move rfl) ?_
  refine Rg.pure rfl rfl rfl (Pv.lenS rfl) ?_
  refine Rg.pure rfl rfl rfl (Pv.asI (b.length) (Pv.min rfl rfl) (by omega)) ?_
  refine Rg.pure rfl rfl rfl (Pv.slTo (b.length) rfl rfl (by omega)) ?_
  refine Rg.pure rfl rfl rfl (Pv.assign rfl) ?_
  refine Rg.nil ?_
  refine Vc.seq ?_
  refine Vc.text (List.range 2) (sd [(0, .eff), (1, .pure)]) rfl ?_
  refine Rg.callA rfl rfl rfl (run_callF rfl) (new_w _ 1000 1000 (by decide)) ?_
  rintro _ s24 ⟨db, rfl, hD24, hw24⟩
  refine Rg.pure rfl rfl rfl (Pv.assign rfl) ?_
  refine Rg.nil ?_
  refine Vc.seq ?_
  refine Vc.seq ?_
  refine Vc.text (List.range 13) (sd [(0, .pure), (1, .pure), (2, .pure), (3, .pure), (4, .eff), (5, .pure), (6, .pure), (7, .pure), (8, .pure), (9, .pure), (10, .eff), (11, .pure), (12, .pure)]) rfl ?_
  refine Rg.pure rfl rfl rfl (Pv.move rfl) ?_
  refine Rg.pure rfl rfl rfl (Pv.eqlNil rfl rfl) ?_
  refine Rg.pure rfl rfl rfl (Pv.move rfl) ?_
  refine Rg.split (t := 27) rfl (fun h27 => absurd h27 (by (cases h27))) (fun h27 => ?_)
  refine Rg.pure rfl rfl rfl (Pv.move rfl) ?_
  refine Rg.callH rfl rfl rfl (run_callF rfl) (fun F' hF' => create_w (F := F') hD24 hw24 (by omega) (by omega) [102] (create1 (by decide))) rfl ?_
  rintro _ s29 ⟨rfl, hD29, hw29⟩
  refine Rg.pure rfl rfl rfl (Pv.neq rfl rfl) ?_
  refine Rg.pure rfl rfl rfl (Pv.pickF rfl rfl) ?_
  refine Rg.pure rfl rfl rfl (Pv.move rfl) ?_
  refine Rg.split (t := 32) rfl (fun h32 => absurd h32 (by decide)) (fun h32 => ?_)
  refine Rg.pure rfl rfl rfl (Pv.move rfl) ?_
  refine Rg.pure rfl rfl rfl (Pv.move rfl) ?_
  refine Rg.callH rfl rfl rfl (run_callF rfl) (fun F' hF' => append_w (F := F') hD29 hw29 (by omega) (by omega) [102] (hb.mono fun b o h => hF' b o (.inr h)) (by omega) (app1 b (by simp [secs]; omega))) rfl ?_
  rintro _ s35 ⟨rfl, hD35, hw35⟩
  rw [List.nil_append] at hD35 hw35
  refine Rg.pure rfl rfl rfl (Pv.neq rfl rfl) ?_
  refine Rg.pure rfl rfl rfl (Pv.pickF rfl rfl) ?_
  refine Rg.nil ?_
  refine Vc.cond rfl (fun h37 => absurd h37 (by decide)) (fun h37 => ?_)
  refine Vc.skip ?_
  refine Vc.seq ?_
  refine Vc.text (List.range 4) (sd [(0, .eff), (1, .pure), (2, .eff), (3, .pure)]) rfl ?_
  refine Rg.bslice0 (E := byteE) rfl rfl rfl (fun b38 own38 => ?_)
  refine Rg.pure rfl rfl rfl (Pv.move rfl) ?_
  refine Rg.append rfl rfl rfl rfl rfl own38 hb.src (by simp <;> omega) (by simp [maxLen] <;> omega) rfl (fun v40 s40 own40 => ?_)
  refine Rg.pure rfl rfl rfl (Pv.assign rfl) ?_
  refine Rg.nil ?_
  refine Vc.seq ?_
  refine Vc.seq ?_
  refine Vc.text (List.range 1) (sd [(0, .pure)]) rfl ?_
  refine Rg.pure rfl rfl rfl (Pv.assign rfl) ?_
  refine Rg.nil ?_
  refine Vc.block ?_
  refine Vc.loop5 (fun (i : Nat) (cur : List UInt8) (s : Hl) (v : Value) (sg : Hl) => i ≤ 20 ∧ i ≤ ls.length ∧ i ≤ ats.length ∧ cur.length ≤ 200 + 60 * i ∧ Own byteE v cur sg ∧ DiskAt db (d1 [102] ⟨cur, []⟩ 1000 ((2 + i : Nat) : Int) false) s ∧ Dw (2 + i) (200 + 60 * i) (d1 [102] ⟨cur, []⟩ 1000 ((2 + i : Nat) : Int) false)) (fun i cur s v sg => [(1, .slice p1 ls.length c1), (2, .slice p2 ats.length c2), (7, .bool true), (8, .pointer (some ⟨db, 0, none⟩)), (9, v), (10, .int .i64 (i : Int))]) (fun i cur s v sg => s ++ sg) (fun i cur s v sg => 20 - i) 0 b s35 _ s40 ⟨by omega, by omega, by omega, by omega, own40, hD35, hw35.mono (by omega) (by omega)⟩ (.cons rfl (.cons rfl (.cons rfl (.cons rfl (.cons rfl (.cons rfl .nil)))))) pulled ?_
  rintro i cur s v sg ⟨hi, hil, hia, hcl, own, hD, hw⟩
  obtain ⟨pv, cv, rfl⟩ := own.shape
  refine Vc.seq ?_
  refine Vc.seq ?_
  refine Vc.cut1 (fun (bb : Bool) => (bb = true → i < ls.length ∧ i < ats.length ∧ i < 20)) (fun bb => [(54, .bool bb), (1, .slice p1 ls.length c1), (2, .slice p2 ats.length c2), (7, .bool true), (8, .pointer (some ⟨db, 0, none⟩)), (9, .slice pv cur.length cv), (10, .int .i64 (i : Int))]) (fun bb => s ++ sg) ?_ ?_
  ·
    refine Vc.text (List.range 14) (sd [(0, .pure), (1, .pure), (2, .pure), (3, .pure), (4, .pure), (5, .pure), (6, .pure), (7, .pure), (8, .pure), (9, .pure), (10, .pure), (11, .pure), (12, .pure), (13, .pure)]) rfl ?_
    refine Rg.pure rfl rfl rfl (Pv.move rfl) ?_
    refine Rg.pure rfl rfl rfl (Pv.move rfl) ?_
    refine Rg.pure rfl rfl rfl (Pv.lenS rfl) ?_
    refine Rg.pure rfl rfl rfl (Pv.lss rfl rfl) ?_
    refine Rg.pure rfl rfl rfl (Pv.move rfl) ?_
    refine Rg.split (t := 45) rfl (fun h45 => ?_) (fun h45 => ?_)
    ·
      simp only [decide_eq_true_eq] at h45
      refine Rg.pure rfl rfl rfl (Pv.move rfl) ?_
      refine Rg.pure rfl rfl rfl (Pv.move rfl) ?_
      refine Rg.pure rfl rfl rfl (Pv.lenS rfl) ?_
      refine Rg.pure rfl rfl rfl (Pv.lss rfl rfl) ?_
      refine Rg.pure rfl rfl rfl (Pv.pickT rfl rfl) ?_
      refine Rg.pure rfl rfl rfl (Pv.move rfl) ?_
      refine Rg.split (t := 51) rfl (fun h51 => ?_) (fun h51 => ?_)
      ·
        simp only [decide_eq_true_eq] at h51
        refine Rg.pure rfl rfl rfl (Pv.move rfl) ?_
        refine Rg.pure rfl rfl rfl (Pv.lss rfl rfl) ?_
        refine Rg.pure rfl rfl rfl (Pv.pickT rfl rfl) ?_
        refine Rg.nil ?_
        exact Vc.inv1 _ (fun hb => ⟨by omega, by omega, by have := of_decide_eq_true hb; omega⟩) (.cons rfl (.cons rfl (.cons rfl (.cons rfl (.cons rfl (.cons rfl (.cons rfl .nil))))))) pulled
      ·
        simp only [decide_eq_false_iff_not] at h51
        iterate 2 (first | refine Rg.skipP rfl rfl rfl ?_ | refine Rg.skipR rfl rfl rfl ?_ | refine Rg.skipE rfl rfl rfl ?_)
        refine Rg.pure rfl rfl rfl (Pv.pickF rfl rfl) ?_
        refine Rg.nil ?_
        exact Vc.inv1 _ (fun hb => by cases hb) (.cons rfl (.cons rfl (.cons rfl (.cons rfl (.cons rfl (.cons rfl (.cons rfl .nil))))))) pulled
    ·
      simp only [decide_eq_false_iff_not] at h45
      iterate 4 (first | refine Rg.skipP rfl rfl rfl ?_ | refine Rg.skipR rfl rfl rfl ?_ | refine Rg.skipE rfl rfl rfl ?_)
      refine Rg.pure rfl rfl rfl (Pv.pickF rfl rfl) ?_
      refine Rg.pure rfl rfl rfl (Pv.move rfl) ?_
      iterate 2 (first | refine Rg.skipP rfl rfl rfl ?_ | refine Rg.skipR rfl rfl rfl ?_ | refine Rg.skipE rfl rfl rfl ?_)
      refine Rg.pure rfl rfl rfl (Pv.pickF rfl rfl) ?_
      refine Rg.nil ?_
      exact Vc.inv1 _ (fun hb => by cases hb) (.cons rfl (.cons rfl (.cons rfl (.cons rfl (.cons rfl (.cons rfl (.cons rfl .nil))))))) pulled
  ·
    rintro bb hbb
    refine Vc.cond rfl (fun h54 => ?_) (fun h54 => ?_)
    ·
      obtain ⟨hix, hiy, hi20⟩ := hbb h54
      obtain ⟨pk, ck, ys, pc, hsk, hpcl, _, hpcc, hpca⟩ := hr.piece hix
      obtain ⟨bl, off, c', e, _⟩ := hrt.block (by omega)
      cases e
      obtain ⟨ba, offa, ca', e, _⟩ := h2.block (by omega)
      cases e
      obtain ⟨k, hk⟩ : ∃ k, k = andN (ats[i]!) 65535 % (cur.length + 1) := ⟨_, rfl⟩
      have hkl : k ≤ cur.length := by have := Nat.mod_lt (andN (ats[i]!) 65535) (show 0 < cur.length + 1 by omega); omega
      have hpul := putAt_length (bs := pc) hkl
      refine Vc.skip ?_
      refine Vc.seq ?_
      refine Vc.block ?_
      refine Vc.seq ?_
      refine Vc.drawS [] (sd [(0, .pure), (1, .pure), (2, .pure), (3, .read), (4, .pure), (5, .pure), (6, .pure), (7, .read), (8, .pure), (9, .pure), (10, .pure), (11, .pure)]) [] pulled mixed (by kernel_rfl) ?_
      refine Rg.pure rfl rfl rfl (Pv.move rfl) ?_
      refine Rg.pure rfl rfl rfl (Pv.move rfl) ?_
      refine Rg.pure rfl rfl rfl (Pv.ixA (i) rfl rfl (by omega) (by omega)) ?_
      refine Rg.read rfl rfl rfl (Ev.as (.slice pk ys ck) (Ev.ldS (E := slE) i hrt.src rfl rfl rfl (by omega)) (congrArg slE.val hsk)) ?_
      refine Rg.pure rfl rfl rfl (Pv.move rfl) ?_
      refine Rg.pure rfl rfl rfl (Pv.move rfl) ?_
      refine Rg.pure rfl rfl rfl (Pv.ixA (i) rfl rfl (by omega) (by omega)) ?_
      refine Rg.read rfl rfl rfl (Ev.as (.slice pk ys ck) (Ev.ldS (E := slE) i hrt.src rfl rfl rfl (by omega)) (congrArg slE.val hsk)) ?_
      refine Rg.pure rfl rfl rfl (Pv.lenS rfl) ?_
      refine Rg.pure rfl rfl rfl (Pv.asI (pc.length) (Pv.min rfl rfl) (by omega)) ?_
      refine Rg.pure rfl rfl rfl (Pv.slTo (pc.length) rfl rfl (by omega)) ?_
      refine Rg.pure rfl rfl rfl (Pv.assign rfl) ?_
      refine Rg.nil ?_
      refine Vc.seq ?_
      refine Vc.text (List.range 10) (sd [(0, .pure), (1, .pure), (2, .pure), (3, .read), (4, .pure), (5, .pure), (6, .pure), (7, .pure), (8, .pure), (9, .pure)]) rfl ?_
      refine Rg.pure rfl rfl rfl (Pv.move rfl) ?_
      refine Rg.pure rfl rfl rfl (Pv.move rfl) ?_
      refine Rg.pure rfl rfl rfl (Pv.ixA (i) rfl rfl (by omega) (by omega)) ?_
      refine Rg.read rfl rfl rfl (Ev.as (.int .i64 (ats[i]!)) (Ev.ldS (E := intE) i h2.src rfl rfl rfl (by omega)) rfl) ?_
      refine Rg.pure rfl rfl rfl (Pv.and rfl rfl (by omega)) ?_
      refine Rg.pure rfl rfl rfl (Pv.move rfl) ?_
      refine Rg.pure rfl rfl rfl (Pv.lenS rfl) ?_
      refine Rg.pure rfl rfl rfl (Pv.asI (cur.length + 1) (Pv.add rfl rfl (by omega)) (by omega)) ?_
      refine Rg.pure rfl rfl rfl (Pv.asI k (Pv.remN (andN (ats[i]!) 65535) (cur.length + 1) rfl rfl (by omega)) (by rw [hk])) ?_
      refine Rg.pure rfl rfl rfl (Pv.assign rfl) ?_
      refine Rg.nil ?_
      refine Vc.seq ?_
      refine Vc.seq ?_
      refine Vc.text (List.range 5) (sd [(0, .pure), (1, .pure), (2, .pure), (3, .eff), (4, .pure)]) rfl ?_
      refine Rg.pure rfl rfl rfl (Pv.move rfl) ?_
      refine Rg.pure rfl rfl rfl (Pv.move rfl) ?_
      refine Rg.pure rfl rfl rfl (Pv.move rfl) ?_
      refine Rg.callH rfl rfl rfl (run_callF rfl) (fun F' hF' => writeAt_w (F := F') hD hw (by omega) (by omega) [102] (k : Int) (hpca.mono fun b o h => hF' b o (.inr h)) (by omega) (write1 k hkl pc (by simp [secs]; omega))) rfl ?_
      rintro _ s80 ⟨rfl, hD80, hw80⟩
      refine Rg.pure rfl rfl rfl (Pv.neq rfl rfl) ?_
      refine Rg.nil ?_
      refine Vc.cond rfl (fun h81 => absurd h81 (by decide)) (fun h81 => ?_)
      refine Vc.skip ?_
      refine Vc.seq ?_
      refine Vc.text (List.range 1) (sd [(0, .pure)]) rfl ?_
      refine Rg.pure rfl rfl rfl (Pv.assign rfl) ?_
      refine Rg.nil ?_
      refine Vc.block ?_
      refine Vc.loop3 (fun (n : Nat) (v : Value) (sg : Hl) => n ≤ pc.length ∧ Own byteE v (putAt cur k (pc.take n)) sg) (fun n v sg => [(1, .slice (some ⟨bl, off, none⟩) ls.length c1), (2, .slice (some ⟨ba, offa, none⟩) ats.length c2), (7, .bool true), (8, .pointer (some ⟨db, 0, none⟩)), (10, .int .i64 (i : Int)), (11, .slice pk pc.length ck), (12, .int .i64 (k : Int)), (9, v), (13, .int .i64 (n : Int))]) (fun n v sg => s80 ++ sg) (fun n v sg => pc.length - n) 0 _ sg ⟨Nat.zero_le _, by rw [List.take_zero, putAt_nil]; exact own⟩ (.cons rfl (.cons rfl (.cons rfl (.cons rfl (.cons rfl (.cons rfl (.cons rfl (.cons rfl (.cons rfl .nil))))))))) pulled ?_
      rintro n v sg2 ⟨hn, own2⟩
      have hpl := putAt_length (bs := pc.take n) hkl
      have htn : (pc.take n).length = n := by simp; omega
      obtain ⟨pw, cw, rfl⟩ := own2.shape
      refine Vc.seq ?_
      refine Vc.seq ?_
      refine Vc.text (List.range 4) (sd [(0, .pure), (1, .pure), (2, .pure), (3, .pure)]) rfl ?_
      refine Rg.pure rfl rfl rfl (Pv.move rfl) ?_
      refine Rg.pure rfl rfl rfl (Pv.move rfl) ?_
      refine Rg.pure rfl rfl rfl (Pv.lenS rfl) ?_
      refine Rg.pure rfl rfl rfl (Pv.lss rfl rfl) ?_
      refine Rg.nil ?_
      refine Vc.cond rfl (fun h85 => ?_) (fun h85 => ?_)
      ·
        simp only [decide_eq_true_eq] at h85
        have hnl : n < pc.length := by omega
        have hpc2 := hpca
        obtain ⟨bp, offp, cp', e, _⟩ := hpca.block (by omega)
        cases e
        refine Vc.skip ?_
        refine Vc.seq ?_
        refine Vc.block ?_
        refine Vc.seq ?_
        refine Vc.text (List.range 6) (sd [(0, .pure), (1, .pure), (2, .pure), (3, .pure), (4, .pure), (5, .pure)]) rfl ?_
        refine Rg.pure rfl rfl rfl (Pv.move rfl) ?_
        refine Rg.pure rfl rfl rfl (Pv.move rfl) ?_
        refine Rg.pure rfl rfl rfl (Pv.asI (k + n) (Pv.add rfl rfl (by omega)) (by omega)) ?_
        refine Rg.pure rfl rfl rfl (Pv.move rfl) ?_
        refine Rg.pure rfl rfl rfl (Pv.lenS rfl) ?_
        refine Rg.pure rfl rfl rfl (Pv.lss rfl rfl) ?_
        refine Rg.nil ?_
        refine Vc.cond rfl (fun h93 => ?_) (fun h93 => ?_)
        ·
          simp only [decide_eq_true_eq] at h93
          have hkn : k + n < cur.length := by omega
          obtain ⟨bo, co, spo, e, rfl, hsc, hcm⟩ := own2.block (by omega)
          cases e
          have hst := putAt_set hkl hnl hkn
          have hsl := congrArg List.length hst
          rw [List.length_set] at hsl
          refine Vc.text (List.range 10) (sd [(0, .pure), (1, .pure), (2, .pure), (3, .pure), (4, .pure), (5, .pure), (6, .pure), (7, .read), (8, .pure), (9, .eff)]) rfl ?_
          refine Rg.pure rfl rfl rfl (Pv.move rfl) ?_
          refine Rg.pure rfl rfl rfl (Pv.move rfl) ?_
          refine Rg.pure rfl rfl rfl (Pv.move rfl) ?_
          refine Rg.pure rfl rfl rfl (Pv.asI (k + n) (Pv.add rfl rfl (by omega)) (by omega)) ?_
          refine Rg.pure rfl rfl rfl (Pv.move rfl) ?_
          refine Rg.pure rfl rfl rfl (Pv.move rfl) ?_
          refine Rg.pure rfl rfl rfl (Pv.ixA (n) rfl rfl (by omega) (by omega)) ?_
          refine Rg.read rfl rfl rfl (Ev.as (.int .u8 ((pc[n]!).toNat : Int)) (Ev.ldS (E := byteE) n hpc2.src rfl rfl rfl (by omega)) rfl) ?_
          refine Rg.pure rfl rfl rfl (Pv.ixA (k + n) rfl rfl (by omega) (by omega)) ?_
          refine Rg.storeR (E := byteE) (z := pc[n]!) (k + n) rfl rfl rfl rfl rfl rfl (Nat.zero_add _) (by omega) rfl ?_
          rw [hst]
          refine Rg.nil ?_
          refine Vc.blk ?_
          refine Vc.text (List.range 3) (sd [(0, .pure), (1, .pure), (2, .pure)]) rfl ?_
          refine Rg.pure rfl rfl rfl (Pv.move rfl) ?_
          refine Rg.pure rfl rfl rfl (Pv.asI (n + 1) (Pv.add rfl rfl (by omega)) (by omega)) ?_
          refine Rg.pure rfl rfl rfl (Pv.assign rfl) ?_
          refine Rg.nil ?_
          exact Vc.inv3 (n + 1) _ _ ⟨⟨by omega, Own.blk' (E := byteE) bo cw _ (putAt cur k (pc.take (n + 1))) spo hsl hsc hcm⟩, by omega⟩ (.cons rfl (.cons rfl (.cons rfl (.cons rfl (.cons rfl (.cons rfl (.cons rfl (.cons rfl (.cons rfl .nil))))))))) pulled
        ·
          simp only [decide_eq_false_iff_not] at h93
          have hap := putAt_app hkl hnl (by omega)
          refine Vc.text (List.range 8) (sd [(0, .pure), (1, .pure), (2, .pure), (3, .pure), (4, .read), (5, .eff), (6, .eff), (7, .pure)]) rfl ?_
          refine Rg.pure rfl rfl rfl (Pv.move rfl) ?_
          refine Rg.pure rfl rfl rfl (Pv.move rfl) ?_
          refine Rg.pure rfl rfl rfl (Pv.move rfl) ?_
          refine Rg.pure rfl rfl rfl (Pv.ixA (n) rfl rfl (by omega) (by omega)) ?_
          refine Rg.read rfl rfl rfl (Ev.as (.int .u8 ((pc[n]!).toNat : Int)) (Ev.ldS (E := byteE) n hpc2.src rfl rfl rfl (by omega)) rfl) ?_
          refine Rg.bslice1 rfl rfl rfl rfl rfl rfl rfl (fun b108 => ?_)
          refine Rg.append rfl rfl rfl rfl rfl own2 (Src.one (y := pc[n]!) rfl) (by simp <;> omega) (by simp [maxLen] <;> omega) rfl (fun v109 s109 own109 => ?_)
          rw [hap] at own109
          refine Rg.pure rfl rfl rfl (Pv.assign rfl) ?_
          refine Rg.nil ?_
          refine Vc.blk ?_
          refine Vc.text (List.range 3) (sd [(0, .pure), (1, .pure), (2, .pure)]) rfl ?_
          refine Rg.pure rfl rfl rfl (Pv.move rfl) ?_
          refine Rg.pure rfl rfl rfl (Pv.asI (n + 1) (Pv.add rfl rfl (by omega)) (by omega)) ?_
          refine Rg.pure rfl rfl rfl (Pv.assign rfl) ?_
          refine Rg.nil ?_
          exact Vc.inv3 (n + 1) v109 s109 ⟨⟨by omega, own109⟩, by omega⟩ (.cons rfl (.cons rfl (.cons rfl (.cons rfl (.cons rfl (.cons rfl (.cons rfl (.cons rfl (.cons rfl .nil))))))))) pulled
      ·
        simp only [decide_eq_false_iff_not] at h85
        obtain rfl : n = pc.length := by omega
        rw [List.take_length] at own2 hpl ⊢
        refine Vc.exit rfl ?_
        refine Vc.blk ?_
        refine Vc.text (List.range 3) (sd [(0, .pure), (1, .pure), (2, .pure)]) rfl ?_
        refine Rg.pure rfl rfl rfl (Pv.move rfl) ?_
        refine Rg.pure rfl rfl rfl (Pv.asI (i + 1) (Pv.add rfl rfl (by omega)) (by omega)) ?_
        refine Rg.pure rfl rfl rfl (Pv.assign rfl) ?_
        refine Rg.nil ?_
        exact Vc.inv5 (i + 1) (putAt cur k pc) s80 _ sg2 ⟨⟨by omega, by omega, by omega, by omega, own2, hD80, hw80.mono (by omega) (by omega)⟩, by omega⟩ (.cons rfl (.cons rfl (.cons rfl (.cons rfl (.cons rfl (.cons rfl .nil)))))) pulled
    ·
      refine Vc.exit rfl ?_
      refine Vc.seq ?_
      refine Vc.text (List.range 7) (sd [(0, .pure), (1, .eff), (2, .pure), (3, .pure), (4, .pure), (5, .pure), (6, .pure)]) rfl ?_
      refine Rg.pure rfl rfl rfl (Pv.move rfl) ?_
      refine Rg.callH rfl rfl rfl (run_callF rfl) (fun F' hF' => size_w (F := F') (m := ((cur.length : Nat) : Int)) hD hw (by omega) (by omega) [102] size1 (congrArg Prod.snd begins1)) rfl ?_
      rintro _ s112 ⟨rfl, hD112, hw112⟩
      refine Rg.pure rfl rfl rfl (Pv.move rfl) ?_
      refine Rg.pure rfl rfl rfl (Pv.extract rfl rfl) ?_
      refine Rg.pure rfl rfl rfl (Pv.extract rfl rfl) ?_
      refine Rg.pure rfl rfl rfl (Pv.assign rfl) ?_
      refine Rg.pure rfl rfl rfl (Pv.assign rfl) ?_
      refine Rg.nil ?_
      refine Vc.seq ?_
      refine Vc.text (List.range 9) (sd [(0, .pure), (1, .pure), (2, .pure), (3, .eff), (4, .pure), (5, .pure), (6, .pure), (7, .pure), (8, .pure)]) rfl ?_
      refine Rg.pure rfl rfl rfl (Pv.move rfl) ?_
      refine Rg.pure rfl rfl rfl (Pv.move rfl) ?_
      refine Rg.pure rfl rfl rfl (Pv.lenS rfl) ?_
      refine Rg.callH rfl rfl rfl (run_callF rfl) (fun F' hF' => readAt_w (F := F') hD112 hw112 (by omega) (by omega) [102] 0 (cur.length : Nat) read1all (congrArg Prod.snd begins1)) rfl ?_
      rintro _ _ ⟨u119, q119, s119, rfl, own119, hD119, hw119, rfl⟩
      rw [List.append_assoc]
      refine Rg.pure rfl rfl rfl (Pv.move rfl) ?_
      refine Rg.pure rfl rfl rfl (Pv.extract rfl rfl) ?_
      refine Rg.pure rfl rfl rfl (Pv.extract rfl rfl) ?_
      refine Rg.pure rfl rfl rfl (Pv.assign rfl) ?_
      refine Rg.pure rfl rfl rfl (Pv.assign rfl) ?_
      refine Rg.nil ?_
      refine Vc.seq ?_
      refine Vc.text (List.range 31) (sd [(0, .pure), (1, .pure), (2, .pure), (3, .pure), (4, .pure), (5, .pure), (6, .pure), (7, .pure), (8, .pure), (9, .pure), (10, .pure), (11, .pure), (12, .pure), (13, .pure), (14, .pure), (15, .pure), (16, .pure), (17, .read), (18, .pure), (19, .read), (20, .pure), (21, .pure), (22, .pure), (23, .pure), (24, .eff), (25, .pure), (26, .pure), (27, .pure), (28, .pure), (29, .pure), (30, .pure)]) rfl ?_
      refine Rg.pure rfl rfl rfl (Pv.move rfl) ?_
      refine Rg.pure rfl rfl rfl (Pv.move rfl) ?_
      refine Rg.split (t := 123) rfl (fun h123 => ?_) (fun h123 => absurd h123 (by decide))
      refine Rg.pure rfl rfl rfl (Pv.move rfl) ?_
      refine Rg.pure rfl rfl rfl (Pv.eql rfl rfl) ?_
      refine Rg.pure rfl rfl rfl (Pv.pickT rfl rfl) ?_
      refine Rg.pure rfl rfl rfl (Pv.move rfl) ?_
      refine Rg.split (t := 127) rfl (fun h127 => ?_) (fun h127 => absurd h127 (by decide))
      refine Rg.pure rfl rfl rfl (Pv.move rfl) ?_
      refine Rg.pure rfl rfl rfl (Pv.move rfl) ?_
      refine Rg.pure rfl rfl rfl (Pv.lenS rfl) ?_
      refine Rg.pure rfl rfl rfl (Pv.eql rfl rfl) ?_
      refine Rg.pure rfl rfl rfl (Pv.pickT rfl rfl) ?_
      refine Rg.pure rfl rfl rfl (Pv.move rfl) ?_
      refine Rg.split (t := 133) rfl (fun h133 => ?_) (fun h133 => absurd h133 (by simp))
      refine Rg.pure rfl rfl rfl (Pv.move rfl) ?_
      refine Rg.pure rfl rfl rfl (Pv.eql rfl rfl) ?_
      refine Rg.pure rfl rfl rfl (Pv.pickT rfl rfl) ?_
      refine Rg.pure rfl rfl rfl (Pv.move rfl) ?_
      refine Rg.split (t := 137) rfl (fun h137 => ?_) (fun h137 => absurd h137 (by decide))
      refine Rg.pure rfl rfl rfl (Pv.move rfl) ?_
      refine Rg.read rfl rfl rfl (Ev.str ((Arg.own (F := frz F q119) own119 fun b o hb => Or.inl hb).srcF) rfl) ?_
      refine Rg.pure rfl rfl rfl (Pv.move rfl) ?_
      refine Rg.read rfl rfl rfl (Ev.str ((Arg.own (F := frz F sg) own fun b o hb => Or.inl hb).srcF) rfl) ?_
      refine Rg.pure rfl rfl rfl (Pv.eqlS rfl rfl) ?_
      refine Rg.pure rfl rfl rfl (Pv.pickT rfl rfl) ?_
      refine Rg.pure rfl rfl rfl (Pv.move rfl) ?_
      refine Rg.split (t := 144) rfl (fun h144 => ?_) (fun h144 => absurd h144 (by simp))
      refine Rg.pure rfl rfl rfl (Pv.move rfl) ?_
      refine Rg.callP rfl rfl rfl (run_callF rfl) (usedD_spec hD119 frz_sb) ?_
      rintro _ rfl
      refine Rg.pure rfl rfl rfl (Pv.move rfl) ?_
      refine Rg.pure rfl rfl rfl (Pv.asI (cur.length + 15) (Pv.add rfl rfl (by omega)) (by omega)) ?_
      refine Rg.pure rfl rfl rfl (Pv.quo rfl rfl (by omega)) ?_
      refine Rg.pure rfl rfl rfl (Pv.eql rfl rfl) ?_
      refine Rg.pure rfl rfl rfl (Pv.pickT rfl rfl) ?_
      refine Rg.pure rfl rfl rfl (Pv.assign rfl) ?_
      refine Rg.nil ?_
      refine Vc.ret (Vc.rets rfl (.cons (.tmp rfl) (.nil)) ?_)
      exact congrArg Value.bool (by simp [secs])
end Go.Proofs.Ytmocncadncgaaaa
