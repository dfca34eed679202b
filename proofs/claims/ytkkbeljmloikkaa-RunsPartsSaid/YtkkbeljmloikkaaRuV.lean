/- The statements' functions: RunsParts. -/
import Derived.Test.YtkkbeljmloikkaaRuY
namespace Go.Proofs.Ytkkbeljmloikkaa
set_option linter.unusedVariables false

theorem Arg.from {α : Type} {E : Enc α} {F : Fm} {p : Option Addr} {m c : Nat} {xs : List α} (h : Arg E F (.slice p m c) xs) {i : Nat} (hi : i ≤ xs.length) : Arg E F (.slice (if c = i then p else p.map (·.add (i * E.k))) (m - i) (c - i)) (xs.drop i) := by
  obtain ⟨hm, hc⟩ := h.cap
  by_cases h0 : xs.length = 0
  · obtain rfl : xs = [] := List.length_eq_zero_iff.1 h0
    obtain rfl : i = 0 := by simpa using hi
    rw [hm]
    exact Arg.nil
  · obtain ⟨b, off, c', e, _⟩ := h.block (by omega)
    cases e
    have := h.sub i xs.length hi (Nat.le_refl _)
    rw [List.take_of_length_le (by simp)] at this
    by_cases hci : c = i
    · rw [if_pos hci] at this ⊢; exact this
    · rw [if_neg hci] at this ⊢
      simpa [addr_add] using this
theorem parts_merged {h : Int} {Y : List (List Rc)} (k : Nat) (hR : NR Y.flatten) : sortedG h [sortedG h (Y.drop k).flatten, sortedG h (Y.take k).flatten].flatten = sortedG h Y.flatten := by
  have hn1 : NN (Y.take k).flatten := fun r hr => by
    obtain ⟨ys, h1, h2⟩ := List.mem_flatten.1 hr
    exact hR.nn r (List.mem_flatten.2 ⟨ys, List.mem_of_mem_take h1, h2⟩)
  have hn2 : NN (Y.drop k).flatten := fun r hr => by
    obtain ⟨ys, h1, h2⟩ := List.mem_flatten.1 hr
    exact hR.nn r (List.mem_flatten.2 ⟨ys, List.mem_of_mem_drop h1, h2⟩)
  have hp := sortedG_parts (how := h) [(Y.drop k).flatten, (Y.take k).flatten] [] (fun xs hx => by simp at hx; rcases hx with rfl | rfl <;> assumption) (fun _ h => absurd h List.not_mem_nil)
  rw [List.append_nil, List.append_nil] at hp
  refine hp.trans (sortedG_congr ?_)
  have e : Y.flatten = (Y.take k).flatten ++ (Y.drop k).flatten := by rw [← List.flatten_append, List.take_append_drop]
  rw [e]
  simpa using List.perm_append_comm
theorem flat_part {Y : List (List Rc)} (k : Nat) : (Y.take k).flatten.length + (Y.drop k).flatten.length = Y.flatten.length := by
  have e : Y.flatten = (Y.take k).flatten ++ (Y.drop k).flatten := by rw [← List.flatten_append, List.take_append_drop]
  rw [e, List.length_append]
theorem NR.sub {Y Z : List (List Rc)} (h : NR Y.flatten) (hs : ∀ y ∈ Z, y ∈ Y) : NR Z.flatten := fun r hr => by
  obtain ⟨ys, h1, h2⟩ := List.mem_flatten.1 hr
  exact h r (List.mem_flatten.2 ⟨ys, hs ys h1, h2⟩)
theorem get_take' {α : Type} [Inhabited α] (l : List α) {k i : Nat} (h : i < k) (hk : k ≤ l.length) : (l.take k)[i]! = l[i]! := by
  rw [getElem!_pos _ i (by simp; omega), getElem!_pos l i (by omega), List.getElem_take]
theorem get_drop' {α : Type} [Inhabited α] (l : List α) {k i : Nat} (h : k + i < l.length) : (l.drop k)[i]! = l[k + i]! := by
  rw [getElem!_pos _ i (by simp; omega), getElem!_pos l (k + i) h, List.getElem_drop]

set_option maxHeartbeats 1000000 in
theorem RunsParts_spec (F : Fm) (v0 : Value) (ls : List Sv) (xss : List (List Rc)) (how at_ : Int) (ha : ArgRR F v0 ls xss) (hR0 : ∀ xs ∈ xss, NR xs) :
    Spec Try.prog 9 #[v0, .int .i64 how, .int .i64 at_] F [] fun v _ => v = .bool true := by
  obtain ⟨p0, c0, rfl⟩ := ha.top.shape
  have hll := ha.len
  have hra := ha.rows
  have hatop := ha.top
  obtain ⟨h, hh⟩ : ∃ h, h = andN how 65535 % 3 := ⟨_, rfl⟩
  have hok : okHow (h : Int) = true := hh ▸ mod3 _
  refine Spec.of (n := 104) (vs := [.slice p0 ls.length c0, .int .i64 how, .int .i64 at_]) Try.func9 rfl Try.ntmps9 rfl ?_
  refine Vc.seq ?_
  refine Vc.text (List.range 1) (sd [(0, .pure)]) rfl ?_
  refine Rg.pure rfl rfl rfl (Pv.assign rfl) ?_
  refine Rg.nil ?_
  refine Vc.seq ?_
  refine Vc.text (List.range 2) (sd [(0, .eff), (1, .pure)]) rfl ?_
  refine Rg.callP rfl rfl rfl (run_callF rfl) (shown_spec _) ?_
  rintro _ rfl
  refine Rg.pure rfl rfl rfl (Pv.assign rfl) ?_
  refine Rg.nil ?_
  refine Vc.seq ?_
  refine Vc.text (List.range 4) (sd [(0, .pure), (1, .pure), (2, .pure), (3, .pure)]) rfl ?_
  refine Rg.pure rfl rfl rfl (Pv.move rfl) ?_
  refine Rg.pure rfl rfl rfl (Pv.and rfl rfl (by omega)) ?_
  refine Rg.pure rfl rfl rfl (Pv.asI (h) (Pv.rem rfl rfl (by omega)) (by omega)) ?_
  refine Rg.pure rfl rfl rfl (Pv.assign rfl) ?_
  refine Rg.nil ?_
  refine Vc.seq ?_
  refine Vc.text (List.range 1) (sd [(0, .pure)]) rfl ?_
  refine Rg.pure rfl rfl rfl (Pv.assign rfl) ?_
  refine Rg.nil ?_
  refine Vc.seq ?_
  refine Vc.seq ?_
  refine Vc.text (List.range 1) (sd [(0, .pure)]) rfl ?_
  refine Rg.pure rfl rfl rfl (Pv.assign rfl) ?_
  refine Rg.nil ?_
  refine Vc.block ?_
  refine Vc.loop4 (fun (i : Nat) (v : Value) (vs : List Sv) (r0 : Hl) => i ≤ 8 ∧ i ≤ xss.length ∧ Own slE v vs r0 ∧ vs.length = i ∧ ∀ j, j < i → Arg recE F vs[j]!.v ((xss.take i).map (·.take 40))[j]!) (fun i v vs r0 => [(0, .slice p0 ls.length c0), (1, .int .i64 (h : Int)), (2, .int .i64 at_), (7, .bool true), (8, v), (9, .int .i64 (i : Int))]) (fun i v vs r0 => r0) (fun i v vs r0 => 8 - i) 0 _ [] [] ⟨by omega, by omega, .nil, rfl, fun j hj => by omega⟩ (.cons rfl (.cons rfl (.cons rfl (.cons rfl (.cons rfl (.cons rfl .nil)))))) pulled ?_
  rintro i v vs r0 ⟨hi8, hil, own, hvl, hrows⟩
  refine Vc.seq ?_
  refine Vc.seq ?_
  refine Vc.cut1 (fun (bb : Bool) => (bb = true → i < xss.length ∧ i < 8)) (fun bb => (29, .bool bb) :: [(0, .slice p0 ls.length c0), (1, .int .i64 (h : Int)), (2, .int .i64 at_), (7, .bool true), (8, v), (9, .int .i64 (i : Int))]) (fun bb => r0) ?_ ?_
  ·
    refine Vc.text (List.range 8) (sd [(0, .pure), (1, .pure), (2, .pure), (3, .pure), (4, .pure), (5, .pure), (6, .pure), (7, .pure)]) rfl ?_
    refine Rg.pure rfl rfl rfl (Pv.move rfl) ?_
    refine Rg.pure rfl rfl rfl (Pv.move rfl) ?_
    refine Rg.pure rfl rfl rfl (Pv.lenS rfl) ?_
    refine Rg.pure rfl rfl rfl (Pv.lss rfl rfl) ?_
    refine Rg.pure rfl rfl rfl (Pv.move rfl) ?_
    refine Rg.split (t := 26) rfl (fun h26 => ?_) (fun h26 => ?_)
    ·
      simp only [decide_eq_true_eq] at h26
      refine Rg.pure rfl rfl rfl (Pv.move rfl) ?_
      refine Rg.pure rfl rfl rfl (Pv.lss rfl rfl) ?_
      refine Rg.pure rfl rfl rfl (Pv.pickT rfl rfl) ?_
      refine Rg.nil ?_
      exact Vc.inv1 _ (fun hb => ⟨by omega, by have := of_decide_eq_true hb; omega⟩) (.cons rfl (.cons rfl (.cons rfl (.cons rfl (.cons rfl (.cons rfl (.cons rfl .nil))))))) pulled
    ·
      simp only [decide_eq_false_iff_not] at h26
      iterate 2 (first | refine Rg.skipP rfl rfl rfl ?_ | refine Rg.skipR rfl rfl rfl ?_ | refine Rg.skipE rfl rfl rfl ?_)
      refine Rg.pure rfl rfl rfl (Pv.pickF rfl rfl) ?_
      refine Rg.nil ?_
      exact Vc.inv1 _ (fun hb => by cases hb) (.cons rfl (.cons rfl (.cons rfl (.cons rfl (.cons rfl (.cons rfl (.cons rfl .nil))))))) pulled
  ·
    rintro bb hbb
    refine Vc.cond rfl (fun h29 => ?_) (fun h29 => ?_)
    ·
      obtain ⟨hix, hi8'⟩ := hbb h29
      obtain ⟨bl, off, c', e, _⟩ := hatop.block (by omega)
      cases e
      have hxi := hra i (by omega)
      obtain ⟨⟨pk, mk, ck⟩, hsk⟩ : ∃ s, ls[i]! = s := ⟨_, rfl⟩
      rw [hsk] at hxi
      obtain rfl : mk = xss[i]!.length := hxi.cap.1
      have hcap : xss[i]!.length ≤ ck := hxi.cap.2
      have htk : xss.take (i + 1) = xss.take i ++ [xss[i]!] := take_get xss (by omega)
      generalize xss[i]! = ys at hxi hsk hcap htk
      have ht := hxi.take (k := min ys.length 40) (Nat.min_le_left _ _)
      rw [show ys.take (min ys.length 40) = ys.take 40 by rw [List.take_eq_take_iff]; omega] at ht
      refine Vc.skip ?_
      refine Vc.seq ?_
      refine Vc.block ?_
      refine Vc.drawS [] (sd [(0, .pure), (1, .pure), (2, .pure), (3, .pure), (4, .read), (5, .pure), (6, .pure), (7, .pure), (8, .read), (9, .pure), (10, .pure), (11, .pure), (12, .eff), (13, .eff), (14, .pure)]) [] pulled mixed (by kernel_rfl) ?_
      refine Rg.pure rfl rfl rfl (Pv.move rfl) ?_
      refine Rg.pure rfl rfl rfl (Pv.move rfl) ?_
      refine Rg.pure rfl rfl rfl (Pv.move rfl) ?_
      refine Rg.pure rfl rfl rfl (Pv.ixA (i) rfl rfl (by omega) (by omega)) ?_
      refine Rg.read rfl rfl rfl (Ev.as (.slice pk ys.length ck) (Ev.ldS (E := slE) i hatop.src rfl rfl rfl (by omega)) (congrArg slE.val hsk)) ?_
      refine Rg.pure rfl rfl rfl (Pv.move rfl) ?_
      refine Rg.pure rfl rfl rfl (Pv.move rfl) ?_
      refine Rg.pure rfl rfl rfl (Pv.ixA (i) rfl rfl (by omega) (by omega)) ?_
      refine Rg.read rfl rfl rfl (Ev.as (.slice pk ys.length ck) (Ev.ldS (E := slE) i hatop.src rfl rfl rfl (by omega)) (congrArg slE.val hsk)) ?_
      refine Rg.pure rfl rfl rfl (Pv.lenS rfl) ?_
      refine Rg.pure rfl rfl rfl (Pv.asI (min ys.length 40) (Pv.min rfl rfl) (by omega)) ?_
      refine Rg.pure rfl rfl rfl (Pv.slTo (min ys.length 40) rfl rfl (by omega)) ?_
      refine Rg.bslice1N rfl rfl rfl rfl rfl rfl rfl (fun b44 => ?_)
      refine Rg.appendN rfl rfl rfl rfl rfl own (Src.one (y := (⟨pk, min ys.length 40, ck⟩ : Sv)) rfl) (by simp <;> omega) (by simp [maxLen] <;> omega) (fun v45 s45 own45 => ?_)
      refine Rg.pure rfl rfl rfl (Pv.assign rfl) ?_
      refine Rg.nil ?_
      refine Vc.blk ?_
      refine Vc.text (List.range 3) (sd [(0, .pure), (1, .pure), (2, .pure)]) rfl ?_
      refine Rg.pure rfl rfl rfl (Pv.move rfl) ?_
      refine Rg.pure rfl rfl rfl (Pv.asI (i + 1) (Pv.add rfl rfl (by omega)) (by omega)) ?_
      refine Rg.pure rfl rfl rfl (Pv.assign rfl) ?_
      refine Rg.nil ?_
      exact Vc.inv4 (i + 1) _ _ s45 ⟨⟨by omega, by omega, own45, by simp [hvl], fun j hj => by
        rw [htk, List.map_append]
        have hml : ((xss.take i).map (·.take 40)).length = i := by simp; omega
        by_cases e : j < i
        · rw [getElem!_pos (vs ++ _) j (by simp; omega), getElem!_pos (_ ++ _) j (by simp; omega), List.getElem_append_left (by omega), List.getElem_append_left (by omega), ← getElem!_pos vs j (by omega), ← getElem!_pos _ j (by omega)]
          exact hrows j e
        · obtain rfl : j = i := by omega
          rw [getElem!_pos (vs ++ _) j (by simp; omega), getElem!_pos (_ ++ _) j (by simp; omega), List.getElem_append_right (by omega), List.getElem_append_right (by omega)]
          simpa [hvl, hml] using ht⟩, by omega⟩ (.cons rfl (.cons rfl (.cons rfl (.cons rfl (.cons rfl (.cons rfl .nil)))))) pulled
    ·
      have hYl : ((xss.take i).map (·.take 40)).length = i := by simp; omega
      have hfl := flat40 (Y := (xss.take i).map (·.take 40)) (fun ys hy => by obtain ⟨zs, _, rfl⟩ := List.mem_map.1 hy; simp; omega)
      have hRY : NR ((xss.take i).map (·.take 40)).flatten := fun r hr => by
        obtain ⟨ys, h1, h2⟩ := List.mem_flatten.1 hr
        obtain ⟨zs, h3, rfl⟩ := List.mem_map.1 h1
        exact hR0 zs (List.mem_of_mem_take h3) r (List.mem_of_mem_take h2)
      generalize (xss.take i).map (·.take 40) = Y at hrows hYl hfl hRY
      obtain ⟨qr, cr, rfl⟩ := own.shape
      obtain ⟨k, hk⟩ : ∃ k, k = andN at_ 65535 % (vs.length + 1) := ⟨_, rfl⟩
      have hkl : k ≤ vs.length := by have := Nat.mod_lt (andN at_ 65535) (show 0 < vs.length + 1 by omega); omega
      have hcr : vs.length ≤ cr := (Arg.own (F := frz F r0) own fun b o hb => Or.inl hb).cap.2
      have hfp := flat_part (Y := Y) k
      have hR1 : NR (Y.take k).flatten := hRY.sub fun y hy => List.mem_of_mem_take hy
      have hR2 : NR (Y.drop k).flatten := hRY.sub fun y hy => List.mem_of_mem_drop hy
      have hpm := parts_merged (h := h) k hRY
      have hs1 := sortedG_length h (Y.take k).flatten
      have hs2 := sortedG_length h (Y.drop k).flatten
      have hs3 := sortedG_length h Y.flatten
      have hG1 := sortedG_nr (how := h) hR1
      have hG2 := sortedG_nr (how := h) hR2
      refine Vc.exit rfl ?_
      refine Vc.seq ?_
      refine Vc.text (List.range 7) (sd [(0, .pure), (1, .pure), (2, .pure), (3, .pure), (4, .pure), (5, .pure), (6, .pure)]) rfl ?_
      refine Rg.pure rfl rfl rfl (Pv.move rfl) ?_
      refine Rg.pure rfl rfl rfl (Pv.and rfl rfl (by omega)) ?_
      refine Rg.pure rfl rfl rfl (Pv.move rfl) ?_
      refine Rg.pure rfl rfl rfl (Pv.lenS rfl) ?_
      refine Rg.pure rfl rfl rfl (Pv.asI (vs.length + 1) (Pv.add rfl rfl (by omega)) (by omega)) ?_
      refine Rg.pure rfl rfl rfl (Pv.asI k (Pv.remN (andN at_ 65535) (vs.length + 1) rfl rfl (by omega)) (by rw [hk])) ?_
      refine Rg.pure rfl rfl rfl (Pv.assign rfl) ?_
      refine Rg.nil ?_
      refine Vc.seq ?_
      refine Vc.text (List.range 10) (sd [(0, .pure), (1, .pure), (2, .pure), (3, .pure), (4, .eff), (5, .pure), (6, .pure), (7, .pure), (8, .pure), (9, .pure)]) rfl ?_
      refine Rg.pure rfl rfl rfl (Pv.move rfl) ?_
      refine Rg.pure rfl rfl rfl (Pv.move rfl) ?_
      refine Rg.pure rfl rfl rfl (Pv.slTo (k) rfl rfl (by omega)) ?_
      refine Rg.pure rfl rfl rfl (Pv.move rfl) ?_
      refine Rg.callA rfl rfl rfl (run_callF rfl) (merge_ok (ls := vs.take k) (xss := Y.take k) ⟨Arg.take (Arg.own own frz_sb) hkl, by simp; omega, fun j hj => by
        simp at hj
        rw [get_take' vs (by omega) hkl, get_take' Y (by omega) (by omega)]
        exact (hrows j (by omega)).mono fun b o h => Or.inr h⟩ (by simp; omega) (by omega) hR1 hok) ?_
      rintro _ s57 ⟨u57, rfl, own57⟩
      obtain ⟨q57, c57, rfl⟩ := own57.shape
      refine Rg.pure rfl rfl rfl (Pv.move rfl) ?_
      refine Rg.pure rfl rfl rfl (Pv.extract rfl rfl) ?_
      refine Rg.pure rfl rfl rfl (Pv.extract rfl rfl) ?_
      refine Rg.pure rfl rfl rfl (Pv.assign rfl) ?_
      refine Rg.pure rfl rfl rfl (Pv.assign rfl) ?_
      refine Rg.nil ?_
      refine Vc.seq ?_
      refine Vc.text (List.range 10) (sd [(0, .pure), (1, .pure), (2, .pure), (3, .pure), (4, .eff), (5, .pure), (6, .pure), (7, .pure), (8, .pure), (9, .pure)]) rfl ?_
      refine Rg.pure rfl rfl rfl (Pv.move rfl) ?_
      refine Rg.pure rfl rfl rfl (Pv.move rfl) ?_
      refine Rg.pure rfl rfl rfl (Pv.sl (lv := none) (hv := none) k vs.length rfl rfl rfl (by omega) (by omega) (fun _ => by omega)) ?_
      refine Rg.pure rfl rfl rfl (Pv.move rfl) ?_
      refine Rg.callA rfl rfl rfl (run_callF rfl) (merge_ok (ls := vs.drop k) (xss := Y.drop k) ⟨Arg.from (Arg.own own frz_sb) hkl, by simp; omega, fun j hj => by
        simp at hj
        rw [get_drop' vs (by omega), get_drop' Y (by omega)]
        exact (hrows (k + j) (by omega)).mono fun b o h => Or.inr h⟩ (by simp; omega) (by omega) hR2 hok) ?_
      rintro _ s65 ⟨u65, rfl, own65⟩
      obtain ⟨q65, c65, rfl⟩ := own65.shape
      refine Rg.pure rfl rfl rfl (Pv.move rfl) ?_
      refine Rg.pure rfl rfl rfl (Pv.extract rfl rfl) ?_
      refine Rg.pure rfl rfl rfl (Pv.extract rfl rfl) ?_
      refine Rg.pure rfl rfl rfl (Pv.assign rfl) ?_
      refine Rg.pure rfl rfl rfl (Pv.assign rfl) ?_
      refine Rg.nil ?_
      refine Vc.seq ?_
      refine Vc.text (List.range 10) (sd [(0, .pure), (1, .pure), (2, .eff), (3, .pure), (4, .eff), (5, .pure), (6, .pure), (7, .pure), (8, .pure), (9, .pure)]) rfl ?_
      refine Rg.pure rfl rfl rfl (Pv.move rfl) ?_
      refine Rg.pure rfl rfl rfl (Pv.move rfl) ?_
      refine Rg.bsliceR (E := slE) (cs := [.slice q65 (sortedG h (Y.drop k).flatten).length c65, .slice q57 (sortedG h (Y.take k).flatten).length c57]) [⟨q65, (sortedG h (Y.drop k).flatten).length, c65⟩, ⟨q57, (sortedG h (Y.take k).flatten).length, c57⟩] rfl rfl rfl rfl rfl rfl rfl (by rfl) rfl (by decide) (fun b71 own71 => ?_)
      refine Rg.pure rfl rfl rfl (Pv.move rfl) ?_
      refine Rg.callA rfl rfl rfl (run_callF rfl) (merge_ok (ls := [⟨q65, (sortedG h (Y.drop k).flatten).length, c65⟩, ⟨q57, (sortedG h (Y.take k).flatten).length, c57⟩]) (xss := [sortedG h (Y.drop k).flatten, sortedG h (Y.take k).flatten]) ⟨Arg.own own71 frz_sb, rfl, fun j hj => by
        have : j = 0 ∨ j = 1 := by simp at hj; omega
        rcases this with rfl | rfl
        · exact Arg.own own65 frz_sb
        · exact Arg.own own57 frz_sb⟩ (by simp) (by simp; omega) (fun r hr => by simp at hr; rcases hr with hr | hr; exact hG2 r hr; exact hG1 r hr) hok) ?_
      rintro _ s73 ⟨u73, rfl, own73⟩
      rw [hpm] at own73
      refine Rg.pure rfl rfl rfl (Pv.move rfl) ?_
      refine Rg.pure rfl rfl rfl (Pv.extract rfl rfl) ?_
      refine Rg.pure rfl rfl rfl (Pv.extract rfl rfl) ?_
      refine Rg.pure rfl rfl rfl (Pv.assign rfl) ?_
      refine Rg.pure rfl rfl rfl (Pv.assign rfl) ?_
      refine Rg.nil ?_
      refine Vc.seq ?_
      refine Vc.text (List.range 8) (sd [(0, .pure), (1, .pure), (2, .eff), (3, .pure), (4, .pure), (5, .pure), (6, .pure), (7, .pure)]) rfl ?_
      refine Rg.pure rfl rfl rfl (Pv.move rfl) ?_
      refine Rg.pure rfl rfl rfl (Pv.move rfl) ?_
      refine Rg.callA rfl rfl rfl (run_callF rfl) (merge_ok (ls := vs) (xss := Y) ⟨Arg.own own frz_sb, by omega, fun j hj => (hrows j (by omega)).mono fun b o h => Or.inr h⟩ (by omega) (by omega) hRY hok) ?_
      rintro _ s79 ⟨u79, rfl, own79⟩
      refine Rg.pure rfl rfl rfl (Pv.move rfl) ?_
      refine Rg.pure rfl rfl rfl (Pv.extract rfl rfl) ?_
      refine Rg.pure rfl rfl rfl (Pv.extract rfl rfl) ?_
      refine Rg.pure rfl rfl rfl (Pv.assign rfl) ?_
      refine Rg.pure rfl rfl rfl (Pv.assign rfl) ?_
      refine Rg.nil ?_
      refine Vc.seq ?_
      refine Vc.text (List.range 23) (sd [(0, .pure), (1, .pure), (2, .pure), (3, .pure), (4, .pure), (5, .pure), (6, .pure), (7, .pure), (8, .pure), (9, .pure), (10, .pure), (11, .pure), (12, .pure), (13, .pure), (14, .pure), (15, .pure), (16, .pure), (17, .pure), (18, .pure), (19, .pure), (20, .eff), (21, .pure), (22, .pure)]) rfl ?_
      refine Rg.pure rfl rfl rfl (Pv.move rfl) ?_
      refine Rg.pure rfl rfl rfl (Pv.move rfl) ?_
      refine Rg.split (t := 83) rfl (fun h83 => ?_) (fun h83 => absurd h83 (by decide))
      refine Rg.pure rfl rfl rfl (Pv.move rfl) ?_
      refine Rg.pure rfl rfl rfl (Pv.eql rfl rfl) ?_
      refine Rg.pure rfl rfl rfl (Pv.pickT rfl rfl) ?_
      refine Rg.pure rfl rfl rfl (Pv.move rfl) ?_
      refine Rg.split (t := 87) rfl (fun h87 => ?_) (fun h87 => absurd h87 (by decide))
      refine Rg.pure rfl rfl rfl (Pv.move rfl) ?_
      refine Rg.pure rfl rfl rfl (Pv.eql rfl rfl) ?_
      refine Rg.pure rfl rfl rfl (Pv.pickT rfl rfl) ?_
      refine Rg.pure rfl rfl rfl (Pv.move rfl) ?_
      refine Rg.split (t := 91) rfl (fun h91 => ?_) (fun h91 => absurd h91 (by decide))
      refine Rg.pure rfl rfl rfl (Pv.move rfl) ?_
      refine Rg.pure rfl rfl rfl (Pv.eql rfl rfl) ?_
      refine Rg.pure rfl rfl rfl (Pv.pickT rfl rfl) ?_
      refine Rg.pure rfl rfl rfl (Pv.move rfl) ?_
      refine Rg.split (t := 95) rfl (fun h95 => ?_) (fun h95 => absurd h95 (by decide))
      refine Rg.pure rfl rfl rfl (Pv.move rfl) ?_
      refine Rg.pure rfl rfl rfl (Pv.eql rfl rfl) ?_
      refine Rg.pure rfl rfl rfl (Pv.pickT rfl rfl) ?_
      refine Rg.pure rfl rfl rfl (Pv.move rfl) ?_
      refine Rg.split (t := 99) rfl (fun h99 => ?_) (fun h99 => absurd h99 (by decide))
      refine Rg.pure rfl rfl rfl (Pv.move rfl) ?_
      refine Rg.pure rfl rfl rfl (Pv.move rfl) ?_
      refine Rg.callP rfl rfl rfl (run_callF rfl) (rsameR_spec (Arg.own own73 frz_sb) (Arg.own own79 frz_sb) (by omega) (by omega)) ?_
      rintro _ rfl
      refine Rg.pure rfl rfl rfl (Pv.pickT rfl rfl) ?_
      refine Rg.pure rfl rfl rfl (Pv.assign rfl) ?_
      refine Rg.nil ?_
      refine Vc.ret (Vc.rets rfl (.cons (.tmp rfl) (.nil)) ?_)
      exact congrArg Value.bool (by simp)
end Go.Proofs.Ytkkbeljmloikkaa
