/- The statements' functions: RunsBudget, RunsOnce, RunsMerge. -/
import Derived.Test.YtkkbeljmloikkaaRuX
namespace Go.Proofs.Ytkkbeljmloikkaa
set_option linter.unusedVariables false

theorem OwnRR.shape {v : Value} {xss : List (List Rc)} {hl : Hl} (h : OwnRR v xss hl) : ∃ p c, v = .slice p xss.length c := by
  obtain ⟨vs, s0, s1, own, owns, rfl⟩ := h
  obtain ⟨p, c, e⟩ := own.shape
  rw [owns.len] at e
  exact ⟨p, c, e⟩
theorem merge_own {F : Fm} {u : Value} {xss : List (List Rc)} {s : Hl} (h : OwnRR u xss s) (hF : ∀ b o, (b, o) ∈ s → F.at_ b o) (hn : xss.length < 100000) (hT : xss.flatten.length < 1000000) (hR : NR xss.flatten) {how : Int} (hok : okHow how = true) :
    Spec Try.prog 16 #[u, .int .i64 how] F [] fun v s => ∃ u, v = .tuple #[u, .int .i64 0] ∧ Own recE u (sortedG how xss.flatten) s := by
  obtain ⟨vs, hx⟩ := h.arg hF
  exact merge_ok hx hn hT hR hok
theorem rmerge_own {F : Fm} {u : Value} {xss : List (List Rc)} {s : Hl} (h : OwnRR u xss s) (hF : ∀ b o, (b, o) ∈ s → F.at_ b o) (hn : xss.length < 100000) (hT : xss.flatten.length < 1000000) (hR : NR xss.flatten) (how : Int) :
    Spec Try.prog 19 #[u, .int .i64 how] F [] fun v s => Own recE v (sortedG how xss.flatten) s := by
  obtain ⟨vs, hx⟩ := h.arg hF
  exact rmerge_spec hx hn hT hR how

/-! ### Chunks are the whole -/
theorem chunkL_eq (n i : Nat) (xs : List Rc) : chunkL n xs i = (xs.drop (i * n)).take n := by
  rw [chunkL, List.take_eq_take_iff]
  simp
theorem chunks_take (n : Nat) (xs : List Rc) : ∀ k, ((List.range k).map (chunkL n xs)).flatten = xs.take (k * n)
  | 0 => by simp
  | k + 1 => by
    rw [List.range_succ, List.map_append, List.flatten_append, chunks_take n xs k, Nat.add_mul, Nat.one_mul, List.take_add]
    simp [chunkL_eq]
theorem chunks_all {n : Nat} (hn : 1 ≤ n) (xs : List Rc) : ((List.range (nc n xs.length)).map (chunkL n xs)).flatten = xs := by
  rw [chunks_take, List.take_of_length_le]
  have := mt (nc_lt (k := nc n xs.length) (len := xs.length) hn).2 (by omega)
  omega
theorem cut_merged {n : Nat} (hn : 1 ≤ n) {xs : List Rc} (hR : NR xs) (how : Int) : sortedG how (cutG n how xs).flatten = sortedG how xs := by
  have h := sortedG_parts (how := how) ((List.range (nc n xs.length)).map (chunkL n xs)) [] (fun ys hy => by
    obtain ⟨i, _, rfl⟩ := List.mem_map.1 hy
    exact (chunkL_nr hR).nn) (fun _ h => absurd h List.not_mem_nil)
  rw [List.append_nil, List.append_nil, chunks_all hn, List.map_map] at h
  exact h
theorem cutG_nr {n : Nat} {xs : List Rc} (hR : NR xs) (how : Int) : NR (cutG n how xs).flatten := fun r hr => by
  obtain ⟨ys, h1, h2⟩ := List.mem_flatten.1 hr
  obtain ⟨i, _, rfl⟩ := List.mem_map.1 h1
  exact sortedG_nr (chunkL_nr hR) r h2
theorem flatten_le {α β : Type} {f g : α → List β} : ∀ {l : List α}, (∀ x ∈ l, (f x).length ≤ (g x).length) → (l.map f).flatten.length ≤ (l.map g).flatten.length
  | [], _ => Nat.le_refl _
  | x :: l, h => by
    have h1 := h x (by simp)
    have h2 := flatten_le (l := l) fun y hy => h y (by simp [hy])
    simp only [List.map_cons, List.flatten_cons, List.length_append]
    omega
theorem cutG_len {n : Nat} (hn : 1 ≤ n) (how : Int) (xs : List Rc) : (cutG n how xs).length = nc n xs.length ∧ (cutG n how xs).flatten.length ≤ xs.length := by
  refine ⟨by simp [cutG], ?_⟩
  have h := flatten_le (f := fun i => sortedG how (chunkL n xs i)) (g := chunkL n xs) (l := List.range (nc n xs.length)) fun i _ => sortedG_length how _
  rw [chunks_all hn] at h
  exact h
theorem mod3 (a : Nat) : okHow ((a % 3 : Nat) : Int) = true := by
  simp only [okHow, Bool.and_eq_true, decide_eq_true_eq]; omega

set_option maxHeartbeats 1000000 in
theorem RunsBudget_spec (F : Fm) (v0 : Value) (xs0 : List Rc) (one two how : Int) (ha : Arg recE F v0 xs0) (hR0 : NR xs0) :
    Spec Try.prog 5 #[v0, .int .i64 one, .int .i64 two, .int .i64 how] F [] fun v _ => v = .bool true := by
  obtain ⟨p0, c0, rfl⟩ := ha.shape
  have hl := take100_len xs0
  have hR := hR0.take 100
  obtain ⟨h, hh⟩ : ∃ h, h = andN how 65535 % 3 := ⟨_, rfl⟩
  have hok : okHow (h : Int) = true := hh ▸ mod3 _
  obtain ⟨n1, hn1⟩ : ∃ n, n = 1 + andN one 65535 % 50 := ⟨_, rfl⟩
  obtain ⟨n2, hn2⟩ : ∃ n, n = 1 + andN two 65535 % 50 := ⟨_, rfl⟩
  refine Spec.of (n := 109) (vs := [.slice p0 xs0.length c0, .int .i64 one, .int .i64 two, .int .i64 how]) Try.func5 rfl Try.ntmps5 rfl ?_
  refine Vc.seq ?_
  refine Vc.text (List.range 1) (sd [(0, .pure)]) rfl ?_
  refine Rg.pure rfl rfl rfl (Pv.assign rfl) ?_
  refine Rg.nil ?_
  refine Vc.seq ?_
  refine Vc.text (List.range 2) (sd [(0, .eff), (1, .pure)]) rfl ?_
  refine Rg.callP rfl rfl rfl (run_callF rfl) (shown_spec _) ?_
  rintro _ rfl
  refine Rg.pure rfl rfl rfl (Pv.assign rfl) ?_
  refine Rg.nil ?_
  refine Vc.seq ?_
  refine Vc.text (List.range 3) (sd [(0, .pure), (1, .eff), (2, .pure)]) rfl ?_
  refine Rg.pure rfl rfl rfl (Pv.move rfl) ?_
  refine Rg.callA rfl rfl rfl (run_callF rfl) (few_spec (ha.mono fun b o h => Or.inr h)) ?_
  rintro _ s22 own
  generalize xs0.take 100 = xs at own hl hR
  obtain ⟨q, c, rfl⟩ := own.shape
  have hc1 := cutG_len (n := n1) (by omega) h xs
  have hc2 := cutG_len (n := n2) (by omega) h xs
  have hnc1 := nc_le (n := n1) (len := xs.length) (by omega)
  have hnc2 := nc_le (n := n2) (len := xs.length) (by omega)
  refine Rg.pure rfl rfl rfl (Pv.assign rfl) ?_
  refine Rg.nil ?_
  refine Vc.seq ?_
  refine Vc.text (List.range 4) (sd [(0, .pure), (1, .pure), (2, .pure), (3, .pure)]) rfl ?_
  refine Rg.pure rfl rfl rfl (Pv.move rfl) ?_
  refine Rg.pure rfl rfl rfl (Pv.and rfl rfl (by omega)) ?_
  refine Rg.pure rfl rfl rfl (Pv.asI (h) (Pv.rem rfl rfl (by omega)) (by omega)) ?_
  refine Rg.pure rfl rfl rfl (Pv.assign rfl) ?_
  refine Rg.nil ?_
  refine Vc.seq ?_
  refine Vc.text (List.range 5) (sd [(0, .pure), (1, .pure), (2, .pure), (3, .pure), (4, .pure)]) rfl ?_
  refine Rg.pure rfl rfl rfl (Pv.move rfl) ?_
  refine Rg.pure rfl rfl rfl (Pv.and rfl rfl (by omega)) ?_
  refine Rg.pure rfl rfl rfl (Pv.asI (andN one 65535 % 50) (Pv.rem rfl rfl (by omega)) (by omega)) ?_
  refine Rg.pure rfl rfl rfl (Pv.asI (n1) (Pv.add rfl rfl (by omega)) (by omega)) ?_
  refine Rg.pure rfl rfl rfl (Pv.assign rfl) ?_
  refine Rg.nil ?_
  refine Vc.seq ?_
  refine Vc.text (List.range 5) (sd [(0, .pure), (1, .pure), (2, .pure), (3, .pure), (4, .pure)]) rfl ?_
  refine Rg.pure rfl rfl rfl (Pv.move rfl) ?_
  refine Rg.pure rfl rfl rfl (Pv.and rfl rfl (by omega)) ?_
  refine Rg.pure rfl rfl rfl (Pv.asI (andN two 65535 % 50) (Pv.rem rfl rfl (by omega)) (by omega)) ?_
  refine Rg.pure rfl rfl rfl (Pv.asI (n2) (Pv.add rfl rfl (by omega)) (by omega)) ?_
  refine Rg.pure rfl rfl rfl (Pv.assign rfl) ?_
  refine Rg.nil ?_
  refine Vc.seq ?_
  refine Vc.text (List.range 9) (sd [(0, .pure), (1, .pure), (2, .pure), (3, .eff), (4, .pure), (5, .pure), (6, .pure), (7, .pure), (8, .pure)]) rfl ?_
  refine Rg.pure rfl rfl rfl (Pv.move rfl) ?_
  refine Rg.pure rfl rfl rfl (Pv.move rfl) ?_
  refine Rg.pure rfl rfl rfl (Pv.move rfl) ?_
  refine Rg.callA rfl rfl rfl (run_callF rfl) (cut_ok (Arg.own own frz_sb) (by omega) hR n1 (by omega) (by omega) hok) ?_
  rintro _ s38 ⟨u38, rfl, own38⟩
  obtain ⟨q38, c38, rfl⟩ := own38.shape
  refine Rg.pure rfl rfl rfl (Pv.move rfl) ?_
  refine Rg.pure rfl rfl rfl (Pv.extract rfl rfl) ?_
  refine Rg.pure rfl rfl rfl (Pv.extract rfl rfl) ?_
  refine Rg.pure rfl rfl rfl (Pv.assign rfl) ?_
  refine Rg.pure rfl rfl rfl (Pv.assign rfl) ?_
  refine Rg.nil ?_
  refine Vc.seq ?_
  refine Vc.text (List.range 9) (sd [(0, .pure), (1, .pure), (2, .pure), (3, .eff), (4, .pure), (5, .pure), (6, .pure), (7, .pure), (8, .pure)]) rfl ?_
  refine Rg.pure rfl rfl rfl (Pv.move rfl) ?_
  refine Rg.pure rfl rfl rfl (Pv.move rfl) ?_
  refine Rg.pure rfl rfl rfl (Pv.move rfl) ?_
  refine Rg.callA rfl rfl rfl (run_callF rfl) (cut_ok (Arg.own own frz_sb) (by omega) hR n2 (by omega) (by omega) hok) ?_
  rintro _ s45 ⟨u45, rfl, own45⟩
  refine Rg.pure rfl rfl rfl (Pv.move rfl) ?_
  refine Rg.pure rfl rfl rfl (Pv.extract rfl rfl) ?_
  refine Rg.pure rfl rfl rfl (Pv.extract rfl rfl) ?_
  refine Rg.pure rfl rfl rfl (Pv.assign rfl) ?_
  refine Rg.pure rfl rfl rfl (Pv.assign rfl) ?_
  refine Rg.nil ?_
  refine Vc.seq ?_
  refine Vc.text (List.range 8) (sd [(0, .pure), (1, .pure), (2, .eff), (3, .pure), (4, .pure), (5, .pure), (6, .pure), (7, .pure)]) rfl ?_
  refine Rg.pure rfl rfl rfl (Pv.move rfl) ?_
  refine Rg.pure rfl rfl rfl (Pv.move rfl) ?_
  refine Rg.callA rfl rfl rfl (run_callF rfl) (merge_own own38 frz_sb (by omega) (by omega) (cutG_nr hR h) hok) ?_
  rintro _ s51 ⟨u51, rfl, own51⟩
  rw [cut_merged (by omega) hR] at own51
  refine Rg.pure rfl rfl rfl (Pv.move rfl) ?_
  refine Rg.pure rfl rfl rfl (Pv.extract rfl rfl) ?_
  refine Rg.pure rfl rfl rfl (Pv.extract rfl rfl) ?_
  refine Rg.pure rfl rfl rfl (Pv.assign rfl) ?_
  refine Rg.pure rfl rfl rfl (Pv.assign rfl) ?_
  refine Rg.nil ?_
  refine Vc.seq ?_
  refine Vc.text (List.range 8) (sd [(0, .pure), (1, .pure), (2, .eff), (3, .pure), (4, .pure), (5, .pure), (6, .pure), (7, .pure)]) rfl ?_
  refine Rg.pure rfl rfl rfl (Pv.move rfl) ?_
  refine Rg.pure rfl rfl rfl (Pv.move rfl) ?_
  refine Rg.callA rfl rfl rfl (run_callF rfl) (merge_own own45 frz_sb (by omega) (by omega) (cutG_nr hR h) hok) ?_
  rintro _ s57 ⟨u57, rfl, own57⟩
  rw [cut_merged (by omega) hR] at own57
  refine Rg.pure rfl rfl rfl (Pv.move rfl) ?_
  refine Rg.pure rfl rfl rfl (Pv.extract rfl rfl) ?_
  refine Rg.pure rfl rfl rfl (Pv.extract rfl rfl) ?_
  refine Rg.pure rfl rfl rfl (Pv.assign rfl) ?_
  refine Rg.pure rfl rfl rfl (Pv.assign rfl) ?_
  refine Rg.nil ?_
  refine Vc.seq ?_
  refine Vc.text (List.range 8) (sd [(0, .pure), (1, .pure), (2, .eff), (3, .pure), (4, .pure), (5, .pure), (6, .pure), (7, .pure)]) rfl ?_
  refine Rg.pure rfl rfl rfl (Pv.move rfl) ?_
  refine Rg.pure rfl rfl rfl (Pv.move rfl) ?_
  refine Rg.callA rfl rfl rfl (run_callF rfl) (sorted_ok (Arg.own own frz_sb) (by omega) hR hok) ?_
  rintro _ s63 ⟨u63, rfl, own63⟩
  have hsl := sortedG_length h xs
  refine Rg.pure rfl rfl rfl (Pv.move rfl) ?_
  refine Rg.pure rfl rfl rfl (Pv.extract rfl rfl) ?_
  refine Rg.pure rfl rfl rfl (Pv.extract rfl rfl) ?_
  refine Rg.pure rfl rfl rfl (Pv.assign rfl) ?_
  refine Rg.pure rfl rfl rfl (Pv.assign rfl) ?_
  refine Rg.nil ?_
  refine Vc.seq ?_
  refine Vc.text (List.range 44) (sd [(0, .pure), (1, .pure), (2, .pure), (3, .pure), (4, .pure), (5, .pure), (6, .pure), (7, .pure), (8, .pure), (9, .pure), (10, .pure), (11, .pure), (12, .pure), (13, .pure), (14, .pure), (15, .pure), (16, .pure), (17, .pure), (18, .pure), (19, .pure), (20, .pure), (21, .pure), (22, .pure), (23, .pure), (24, .eff), (25, .pure), (26, .pure), (27, .pure), (28, .pure), (29, .eff), (30, .pure), (31, .pure), (32, .pure), (33, .pure), (34, .pure), (35, .pure), (36, .pure), (37, .pure), (38, .pure), (39, .pure), (40, .pure), (41, .pure), (42, .pure), (43, .pure)]) rfl ?_
  refine Rg.pure rfl rfl rfl (Pv.move rfl) ?_
  refine Rg.pure rfl rfl rfl (Pv.move rfl) ?_
  refine Rg.split (t := 67) rfl (fun h67 => ?_) (fun h67 => absurd h67 (by decide))
  refine Rg.pure rfl rfl rfl (Pv.move rfl) ?_
  refine Rg.pure rfl rfl rfl (Pv.eql rfl rfl) ?_
  refine Rg.pure rfl rfl rfl (Pv.pickT rfl rfl) ?_
  refine Rg.pure rfl rfl rfl (Pv.move rfl) ?_
  refine Rg.split (t := 71) rfl (fun h71 => ?_) (fun h71 => absurd h71 (by decide))
  refine Rg.pure rfl rfl rfl (Pv.move rfl) ?_
  refine Rg.pure rfl rfl rfl (Pv.eql rfl rfl) ?_
  refine Rg.pure rfl rfl rfl (Pv.pickT rfl rfl) ?_
  refine Rg.pure rfl rfl rfl (Pv.move rfl) ?_
  refine Rg.split (t := 75) rfl (fun h75 => ?_) (fun h75 => absurd h75 (by decide))
  refine Rg.pure rfl rfl rfl (Pv.move rfl) ?_
  refine Rg.pure rfl rfl rfl (Pv.eql rfl rfl) ?_
  refine Rg.pure rfl rfl rfl (Pv.pickT rfl rfl) ?_
  refine Rg.pure rfl rfl rfl (Pv.move rfl) ?_
  refine Rg.split (t := 79) rfl (fun h79 => ?_) (fun h79 => absurd h79 (by decide))
  refine Rg.pure rfl rfl rfl (Pv.move rfl) ?_
  refine Rg.pure rfl rfl rfl (Pv.eql rfl rfl) ?_
  refine Rg.pure rfl rfl rfl (Pv.pickT rfl rfl) ?_
  refine Rg.pure rfl rfl rfl (Pv.move rfl) ?_
  refine Rg.split (t := 83) rfl (fun h83 => ?_) (fun h83 => absurd h83 (by decide))
  refine Rg.pure rfl rfl rfl (Pv.move rfl) ?_
  refine Rg.pure rfl rfl rfl (Pv.eql rfl rfl) ?_
  refine Rg.pure rfl rfl rfl (Pv.pickT rfl rfl) ?_
  refine Rg.pure rfl rfl rfl (Pv.move rfl) ?_
  refine Rg.split (t := 87) rfl (fun h87 => ?_) (fun h87 => absurd h87 (by decide))
  refine Rg.pure rfl rfl rfl (Pv.move rfl) ?_
  refine Rg.pure rfl rfl rfl (Pv.move rfl) ?_
  refine Rg.callP rfl rfl rfl (run_callF rfl) (rsameR_spec (Arg.own own51 frz_sb) (Arg.own own57 frz_sb) (by omega) (by omega)) ?_
  rintro _ rfl
  refine Rg.pure rfl rfl rfl (Pv.pickT rfl rfl) ?_
  refine Rg.pure rfl rfl rfl (Pv.move rfl) ?_
  refine Rg.split (t := 92) rfl (fun h92 => ?_) (fun h92 => absurd h92 (by simp))
  refine Rg.pure rfl rfl rfl (Pv.move rfl) ?_
  refine Rg.pure rfl rfl rfl (Pv.move rfl) ?_
  refine Rg.callP rfl rfl rfl (run_callF rfl) (rsameR_spec (Arg.own own51 frz_sb) (Arg.own own63 frz_sb) (by omega) (by omega)) ?_
  rintro _ rfl
  refine Rg.pure rfl rfl rfl (Pv.pickT rfl rfl) ?_
  refine Rg.pure rfl rfl rfl (Pv.move rfl) ?_
  refine Rg.split (t := 97) rfl (fun h97 => ?_) (fun h97 => absurd h97 (by simp))
  refine Rg.pure rfl rfl rfl (Pv.move rfl) ?_
  refine Rg.pure rfl rfl rfl (Pv.lenS rfl) ?_
  refine Rg.pure rfl rfl rfl (Pv.move rfl) ?_
  refine Rg.pure rfl rfl rfl (Pv.lenS rfl) ?_
  refine Rg.pure rfl rfl rfl (Pv.move rfl) ?_
  refine Rg.pure rfl rfl rfl (Pv.asI (xs.length + n1) (Pv.add rfl rfl (by omega)) (by omega)) ?_
  refine Rg.pure rfl rfl rfl (Pv.asI (xs.length + n1 - 1) (Pv.sub rfl rfl (by omega)) (by omega)) ?_
  refine Rg.pure rfl rfl rfl (Pv.move rfl) ?_
  refine Rg.pure rfl rfl rfl (Pv.asI ((xs.length + n1 - 1) / n1) (Pv.quo rfl rfl (by omega)) (by omega)) ?_
  refine Rg.pure rfl rfl rfl (Pv.eql rfl rfl) ?_
  refine Rg.pure rfl rfl rfl (Pv.pickT rfl rfl) ?_
  refine Rg.pure rfl rfl rfl (Pv.assign rfl) ?_
  refine Rg.nil ?_
  refine Vc.ret (Vc.rets rfl (.cons (.tmp rfl) (.nil)) ?_)
  exact congrArg Value.bool (by rw [hc1.1]; simp [nc])

theorem rises_at {l : List Rc} (h : Rises l) {j : Nat} (hj : j + 1 < l.length) : ltR l[j + 1]! l[j]! = false := rises_iff.1 h j hj
theorem keys_at {l : List Rc} (h : KeysUp l) {j : Nat} (hj : j + 1 < l.length) : l[j]!.key < l[j + 1]!.key := by
  have := List.pairwise_iff_getElem.1 h j (j + 1) (by omega) hj (by omega)
  rwa [getElem!_pos l j (by omega), getElem!_pos l (j + 1) hj]
theorem RunsOnce_spec (F : Fm) (v0 : Value) (xs0 : List Rc) (how : Int) (ha : Arg recE F v0 xs0) (hR0 : NR xs0) :
    Spec Try.prog 7 #[v0, .int .i64 how] F [] fun v _ => v = .bool true := by
  obtain ⟨p0, c0, rfl⟩ := ha.shape
  have hl := take100_len xs0
  have hl2 : (xs0.take 100).length = min xs0.length 100 := by rw [List.length_take]; omega
  have hR := hR0.take 100
  obtain ⟨h, hh⟩ : ∃ h, h = andN how 65535 % 3 := ⟨_, rfl⟩
  have hok : okHow (h : Int) = true := hh ▸ mod3 _
  refine Spec.of (n := 87) (vs := [.slice p0 xs0.length c0, .int .i64 how]) Try.func7 rfl Try.ntmps7 rfl ?_
  refine Vc.seq ?_
  refine Vc.text (List.range 1) (sd [(0, .pure)]) rfl ?_
  refine Rg.pure rfl rfl rfl (Pv.assign rfl) ?_
  refine Rg.nil ?_
  refine Vc.seq ?_
  refine Vc.text (List.range 2) (sd [(0, .eff), (1, .pure)]) rfl ?_
  refine Rg.callP rfl rfl rfl (run_callF rfl) (shown_spec _) ?_
  rintro _ rfl
  refine Rg.pure rfl rfl rfl (Pv.assign rfl) ?_
  refine Rg.nil ?_
  refine Vc.seq ?_
  refine Vc.text (List.range 4) (sd [(0, .pure), (1, .pure), (2, .pure), (3, .pure)]) rfl ?_
  refine Rg.pure rfl rfl rfl (Pv.move rfl) ?_
  refine Rg.pure rfl rfl rfl (Pv.and rfl rfl (by omega)) ?_
  refine Rg.pure rfl rfl rfl (Pv.asI (h) (Pv.rem rfl rfl (by omega)) (by omega)) ?_
  refine Rg.pure rfl rfl rfl (Pv.assign rfl) ?_
  refine Rg.nil ?_
  refine Vc.seq ?_
  refine Vc.text (List.range 9) (sd [(0, .pure), (1, .eff), (2, .pure), (3, .eff), (4, .pure), (5, .pure), (6, .pure), (7, .pure), (8, .pure)]) rfl ?_
  refine Rg.pure rfl rfl rfl (Pv.move rfl) ?_
  refine Rg.callA rfl rfl rfl (run_callF rfl) (few_spec (ha.mono fun b o h => Or.inr h)) ?_
  rintro _ s17 own
  generalize xs0.take 100 = xs at own hl hl2 hR
  obtain ⟨q, c, rfl⟩ := own.shape
  refine Rg.pure rfl rfl rfl (Pv.move rfl) ?_
  refine Rg.callA rfl rfl rfl (run_callF rfl) (sorted_ok (Arg.own own frz_sb) (by omega) hR hok) ?_
  rintro _ s19 ⟨u19, rfl, own19⟩
  have hsl := sortedG_length h xs
  have hri := sortedG_rises (how := h) hR.nn
  have hup : (h : Int) ≠ 0 → KeysUp (sortedG h xs) := fun h0 => (sortedG_spec h0 hR.nn).1
  have hid := sortedG_idem (how := h) hR.nn
  have hz : (h : Int) = 0 → (sortedG h xs).length = xs.length := fun h0 => by rw [h0, sortedG_zero, sortL_length]
  have hAr := sortedG_nr (how := h) hR
  generalize sortedG h xs = A at own19 hsl hri hup hid hz hAr
  obtain ⟨q19, c19, rfl⟩ := own19.shape
  refine Rg.pure rfl rfl rfl (Pv.move rfl) ?_
  refine Rg.pure rfl rfl rfl (Pv.extract rfl rfl) ?_
  refine Rg.pure rfl rfl rfl (Pv.extract rfl rfl) ?_
  refine Rg.pure rfl rfl rfl (Pv.assign rfl) ?_
  refine Rg.pure rfl rfl rfl (Pv.assign rfl) ?_
  refine Rg.nil ?_
  refine Vc.seq ?_
  refine Vc.text (List.range 8) (sd [(0, .pure), (1, .pure), (2, .eff), (3, .pure), (4, .pure), (5, .pure), (6, .pure), (7, .pure)]) rfl ?_
  refine Rg.pure rfl rfl rfl (Pv.move rfl) ?_
  refine Rg.pure rfl rfl rfl (Pv.move rfl) ?_
  refine Rg.callA rfl rfl rfl (run_callF rfl) (sorted_ok (Arg.own own19 frz_sb) (by omega) hAr hok) ?_
  rintro _ s25 ⟨u25, rfl, own25⟩
  rw [hid] at own25
  obtain ⟨q25, c25, rfl⟩ := own25.shape
  refine Rg.pure rfl rfl rfl (Pv.move rfl) ?_
  refine Rg.pure rfl rfl rfl (Pv.extract rfl rfl) ?_
  refine Rg.pure rfl rfl rfl (Pv.extract rfl rfl) ?_
  refine Rg.pure rfl rfl rfl (Pv.assign rfl) ?_
  refine Rg.pure rfl rfl rfl (Pv.assign rfl) ?_
  refine Rg.nil ?_
  refine Vc.seq ?_
  refine Vc.seq ?_
  refine Vc.text (List.range 12) (sd [(0, .pure), (1, .pure), (2, .pure), (3, .pure), (4, .pure), (5, .pure), (6, .pure), (7, .pure), (8, .pure), (9, .eff), (10, .pure), (11, .pure)]) rfl ?_
  refine Rg.pure rfl rfl rfl (Pv.move rfl) ?_
  refine Rg.pure rfl rfl rfl (Pv.neq rfl rfl) ?_
  refine Rg.pure rfl rfl rfl (Pv.move rfl) ?_
  refine Rg.split (t := 30) rfl (fun h30 => absurd h30 (by decide)) (fun h30 => ?_)
  refine Rg.pure rfl rfl rfl (Pv.move rfl) ?_
  refine Rg.pure rfl rfl rfl (Pv.neq rfl rfl) ?_
  refine Rg.pure rfl rfl rfl (Pv.pickF rfl rfl) ?_
  refine Rg.pure rfl rfl rfl (Pv.move rfl) ?_
  refine Rg.split (t := 34) rfl (fun h34 => absurd h34 (by decide)) (fun h34 => ?_)
  refine Rg.pure rfl rfl rfl (Pv.move rfl) ?_
  refine Rg.pure rfl rfl rfl (Pv.move rfl) ?_
  refine Rg.callP rfl rfl rfl (run_callF rfl) (rsameR_spec (Arg.own own19 frz_sb) (Arg.own own25 frz_sb) (by omega) (by omega)) ?_
  rintro _ rfl
  refine Rg.pure rfl rfl rfl (Pv.not rfl) ?_
  refine Rg.pure rfl rfl rfl (Pv.pickF rfl rfl) ?_
  refine Rg.nil ?_
  refine Vc.cond rfl (fun h39 => absurd h39 (by simp)) (fun h39 => ?_)
  refine Vc.skip ?_
  refine Vc.seq ?_
  refine Vc.seq ?_
  refine Vc.text (List.range 1) (sd [(0, .pure)]) rfl ?_
  refine Rg.pure rfl rfl rfl (Pv.assign rfl) ?_
  refine Rg.nil ?_
  refine Vc.block ?_
  refine Vc.loop1 (fun (i : Nat) => 1 ≤ i ∧ i ≤ A.length + 1) (fun i => [(0, .slice p0 xs0.length c0), (1, .int .i64 (h : Int)), (5, .bool true), (6, .slice q19 A.length c19), (10, .int .i64 (i : Int))]) (fun i => s19) (fun i => A.length + 1 - i) 1 ⟨Nat.le_refl _, by omega⟩ (.cons rfl (.cons rfl (.cons rfl (.cons rfl (.cons rfl .nil))))) pulled ?_
  rintro i ⟨hi1, hi2⟩
  refine Vc.seq ?_
  refine Vc.seq ?_
  refine Vc.text (List.range 4) (sd [(0, .pure), (1, .pure), (2, .pure), (3, .pure)]) rfl ?_
  refine Rg.pure rfl rfl rfl (Pv.move rfl) ?_
  refine Rg.pure rfl rfl rfl (Pv.move rfl) ?_
  refine Rg.pure rfl rfl rfl (Pv.lenS rfl) ?_
  refine Rg.pure rfl rfl rfl (Pv.lss rfl rfl) ?_
  refine Rg.nil ?_
  refine Vc.cond rfl (fun h43 => ?_) (fun h43 => ?_)
  ·
    simp only [decide_eq_true_eq] at h43
    obtain ⟨bz, cz, sp, e, rfl, _, _⟩ := own19.block (by omega)
    cases e
    obtain ⟨j, rfl⟩ : ∃ j, i = j + 1 := ⟨i - 1, by omega⟩
    have hrj := rises_at hri (j := j) (by omega)
    obtain ⟨x, hx⟩ : ∃ x, A[j]! = x := ⟨_, rfl⟩
    obtain ⟨y, hy⟩ : ∃ y, A[j + 1]! = y := ⟨_, rfl⟩
    have hkj := fun h0 => keys_at (hup h0) (j := j) (by omega)
    rw [hx, hy] at hrj hkj
    refine Vc.skip ?_
    refine Vc.seq ?_
    refine Vc.block ?_
    refine Vc.seq ?_
    refine Vc.draw [] (sd [(0, .pure), (1, .pure), (2, .pure), (3, .read), (4, .pure), (5, .pure), (6, .pure), (7, .pure), (8, .read), (9, .eff), (10, .pure), (11, .pure), (12, .pure), (13, .pure), (14, .pure), (15, .pure), (16, .pure), (17, .pure), (18, .read), (19, .pure), (20, .pure), (21, .pure), (22, .pure), (23, .pure), (24, .read), (25, .pure), (26, .pure), (27, .pure)]) mixed (by kernel_rfl) ?_
    refine Rg.pure rfl rfl rfl (Pv.move rfl) ?_
    refine Rg.pure rfl rfl rfl (Pv.move rfl) ?_
    refine Rg.pure rfl rfl rfl (Pv.ixA (j + 1) rfl rfl (by omega) (by omega)) ?_
    refine Rg.read rfl rfl rfl (Ev.as (recV y) (Ev.ldR (j + 1) rfl (Nat.zero_add _) (by omega)) (congrArg recV hy)) ?_
    refine Rg.pure rfl rfl rfl (Pv.move rfl) ?_
    refine Rg.pure rfl rfl rfl (Pv.move rfl) ?_
    refine Rg.pure rfl rfl rfl (Pv.asI (j) (Pv.sub rfl rfl (by omega)) (by omega)) ?_
    refine Rg.pure rfl rfl rfl (Pv.ixA (j) rfl rfl (by omega) (by omega)) ?_
    refine Rg.read rfl rfl rfl (Ev.as (recV x) (Ev.ldR j rfl (Nat.zero_add _) (by omega)) (congrArg recV hx)) ?_
    refine Rg.callP rfl rfl rfl (run_callF rfl) (less_spec _ _ _) ?_
    rintro _ rfl
    refine Rg.pure rfl rfl rfl (Pv.move rfl) ?_
    refine Rg.split (t := 56) rfl (fun h56 => absurd h56 (by rw [hrj]; decide)) (fun h56 => ?_)
    refine Rg.pure rfl rfl rfl (Pv.move rfl) ?_
    refine Rg.pure rfl rfl rfl (Pv.gtr rfl rfl) ?_
    refine Rg.pure rfl rfl rfl (Pv.move rfl) ?_
    refine Rg.split (t := 59) rfl (fun h59 => ?_) (fun h59 => ?_)
    ·
      simp only [decide_eq_true_eq] at h59
      have hk1 := hkj (by omega)
      refine Rg.pure rfl rfl rfl (Pv.move rfl) ?_
      refine Rg.pure rfl rfl rfl (Pv.move rfl) ?_
      refine Rg.pure rfl rfl rfl (Pv.ixA (j + 1) rfl rfl (by omega) (by omega)) ?_
      refine Rg.pure rfl rfl rfl (Pv.fa rfl) ?_
      refine Rg.read rfl rfl rfl (Ev.ldRf (E := recE) (u := .int .u64 y.key) (j + 1) 0 rfl (by rw [show recE.k = 2 from rfl]; omega) (by omega) (by rw [hy]; rfl)) ?_
      refine Rg.pure rfl rfl rfl (Pv.move rfl) ?_
      refine Rg.pure rfl rfl rfl (Pv.move rfl) ?_
      refine Rg.pure rfl rfl rfl (Pv.asI (j) (Pv.sub rfl rfl (by omega)) (by omega)) ?_
      refine Rg.pure rfl rfl rfl (Pv.ixA (j) rfl rfl (by omega) (by omega)) ?_
      refine Rg.pure rfl rfl rfl (Pv.fa rfl) ?_
      refine Rg.read rfl rfl rfl (Ev.ldRf (E := recE) (u := .int .u64 x.key) j 0 rfl (by rw [show recE.k = 2 from rfl]; omega) (by omega) (by rw [hx]; rfl)) ?_
      refine Rg.pure rfl rfl rfl (Pv.eql rfl rfl) ?_
      refine Rg.pure rfl rfl rfl (Pv.pickT rfl rfl) ?_
      refine Rg.pure rfl rfl rfl (Pv.pickF rfl rfl) ?_
      refine Rg.nil ?_
      refine Vc.cond rfl (fun h73 => absurd h73 (by simp only [beq_iff_eq]; omega)) (fun h73 => ?_)
      refine Vc.skip ?_
      refine Vc.blk ?_
      refine Vc.text (List.range 3) (sd [(0, .pure), (1, .pure), (2, .pure)]) rfl ?_
      refine Rg.pure rfl rfl rfl (Pv.move rfl) ?_
      refine Rg.pure rfl rfl rfl (Pv.asI (j + 1 + 1) (Pv.add rfl rfl (by omega)) (by omega)) ?_
      refine Rg.pure rfl rfl rfl (Pv.assign rfl) ?_
      refine Rg.nil ?_
      exact Vc.inv1 (j + 1 + 1) ⟨by omega, by omega⟩ (.cons rfl (.cons rfl (.cons rfl (.cons rfl (.cons rfl .nil))))) pulled
    ·
      iterate 12 (first | refine Rg.skipP rfl rfl rfl ?_ | refine Rg.skipR rfl rfl rfl ?_ | refine Rg.skipE rfl rfl rfl ?_)
      refine Rg.pure rfl rfl rfl (Pv.pickF rfl rfl) ?_
      refine Rg.pure rfl rfl rfl (Pv.pickF rfl rfl) ?_
      refine Rg.nil ?_
      refine Vc.condF rfl ?_
      refine Vc.skip ?_
      refine Vc.blk ?_
      refine Vc.text (List.range 3) (sd [(0, .pure), (1, .pure), (2, .pure)]) rfl ?_
      refine Rg.pure rfl rfl rfl (Pv.move rfl) ?_
      refine Rg.pure rfl rfl rfl (Pv.asI (j + 1 + 1) (Pv.add rfl rfl (by omega)) (by omega)) ?_
      refine Rg.pure rfl rfl rfl (Pv.assign rfl) ?_
      refine Rg.nil ?_
      exact Vc.inv1 (j + 1 + 1) ⟨by omega, by omega⟩ (.cons rfl (.cons rfl (.cons rfl (.cons rfl (.cons rfl .nil))))) pulled
  ·
    refine Vc.exit rfl ?_
    refine Vc.seq ?_
    refine Vc.text (List.range 14) (sd [(0, .pure), (1, .pure), (2, .pure), (3, .pure), (4, .pure), (5, .pure), (6, .pure), (7, .pure), (8, .pure), (9, .pure), (10, .pure), (11, .pure), (12, .pure), (13, .pure)]) rfl ?_
    refine Rg.pure rfl rfl rfl (Pv.move rfl) ?_
    refine Rg.pure rfl rfl rfl (Pv.move rfl) ?_
    refine Rg.split (t := 75) rfl (fun h75 => ?_) (fun h75 => absurd h75 (by decide))
    refine Rg.pure rfl rfl rfl (Pv.move rfl) ?_
    refine Rg.pure rfl rfl rfl (Pv.gtr rfl rfl) ?_
    refine Rg.pure rfl rfl rfl (Pv.move rfl) ?_
    refine Rg.split (t := 78) rfl (fun h78 => ?_) (fun h78 => ?_)
    ·
      iterate 6 (first | refine Rg.skipP rfl rfl rfl ?_ | refine Rg.skipR rfl rfl rfl ?_ | refine Rg.skipE rfl rfl rfl ?_)
      refine Rg.pure rfl rfl rfl (Pv.pickT rfl rfl) ?_
      refine Rg.pure rfl rfl rfl (Pv.pickT rfl rfl) ?_
      refine Rg.pure rfl rfl rfl (Pv.assign rfl) ?_
      refine Rg.nil ?_
      refine Vc.ret (Vc.rets rfl (.cons (.tmp rfl) (.nil)) ?_)
      rfl
    ·
      simp only [decide_eq_false_iff_not] at h78
      refine Rg.pure rfl rfl rfl (Pv.move rfl) ?_
      refine Rg.pure rfl rfl rfl (Pv.lenS rfl) ?_
      refine Rg.pure rfl rfl rfl (Pv.move rfl) ?_
      refine Rg.pure rfl rfl rfl (Pv.lenS rfl) ?_
      refine Rg.pure rfl rfl rfl (Pv.asI (min xs0.length 100) (Pv.min rfl rfl) (by omega)) ?_
      refine Rg.pure rfl rfl rfl (Pv.eql rfl rfl) ?_
      refine Rg.pure rfl rfl rfl (Pv.pickF rfl rfl) ?_
      refine Rg.pure rfl rfl rfl (Pv.pickT rfl rfl) ?_
      refine Rg.pure rfl rfl rfl (Pv.assign rfl) ?_
      refine Rg.nil ?_
      refine Vc.ret (Vc.rets rfl (.cons (.tmp rfl) (.nil)) ?_)
      exact congrArg Value.bool (by rw [hz (by omega), hl2]; simp)

theorem flat40 : ∀ {Y : List (List Rc)}, (∀ ys ∈ Y, ys.length ≤ 40) → Y.flatten.length ≤ 40 * Y.length
  | [], _ => Nat.le_refl _
  | y :: Y, h => by
    have h1 := h y (by simp)
    have h2 := flat40 (Y := Y) fun ys hy => h ys (by simp [hy])
    simp only [List.flatten_cons, List.length_append, List.length_cons]
    omega
set_option maxHeartbeats 1000000 in
theorem RunsMerge_spec (F : Fm) (v0 : Value) (ls : List Sv) (xss : List (List Rc)) (how : Int) (ha : ArgRR F v0 ls xss) (hR0 : ∀ xs ∈ xss, NR xs) :
    Spec Try.prog 4 #[v0, .int .i64 how] F [] fun v _ => v = .bool true := by
  obtain ⟨p0, c0, rfl⟩ := ha.top.shape
  have hll := ha.len
  have hra := ha.rows
  have hatop := ha.top
  obtain ⟨h, hh⟩ : ∃ h, h = andN how 65535 % 3 := ⟨_, rfl⟩
  have hok : okHow (h : Int) = true := hh ▸ mod3 _
  refine Spec.of (n := 58) (vs := [.slice p0 ls.length c0, .int .i64 how]) Try.func4 rfl Try.ntmps4 rfl ?_
  refine Vc.seq ?_
  refine Vc.text (List.range 1) (sd [(0, .pure)]) rfl ?_
  refine Rg.pure rfl rfl rfl (Pv.assign rfl) ?_
  refine Rg.nil ?_
  refine Vc.seq ?_
  refine Vc.text (List.range 2) (sd [(0, .eff), (1, .pure)]) rfl ?_
  refine Rg.callP rfl rfl rfl (run_callF rfl) (shown_spec _) ?_
  rintro _ rfl
  refine Rg.pure rfl rfl rfl (Pv.assign rfl) ?_
  refine Rg.nil ?_
  refine Vc.seq ?_
  refine Vc.text (List.range 4) (sd [(0, .pure), (1, .pure), (2, .pure), (3, .pure)]) rfl ?_
  refine Rg.pure rfl rfl rfl (Pv.move rfl) ?_
  refine Rg.pure rfl rfl rfl (Pv.and rfl rfl (by omega)) ?_
  refine Rg.pure rfl rfl rfl (Pv.asI (h) (Pv.rem rfl rfl (by omega)) (by omega)) ?_
  refine Rg.pure rfl rfl rfl (Pv.assign rfl) ?_
  refine Rg.nil ?_
  refine Vc.seq ?_
  refine Vc.text (List.range 1) (sd [(0, .pure)]) rfl ?_
  refine Rg.pure rfl rfl rfl (Pv.assign rfl) ?_
  refine Rg.nil ?_
  refine Vc.seq ?_
  refine Vc.seq ?_
  refine Vc.text (List.range 1) (sd [(0, .pure)]) rfl ?_
  refine Rg.pure rfl rfl rfl (Pv.assign rfl) ?_
  refine Rg.nil ?_
  refine Vc.block ?_
  refine Vc.loop5 (fun (i : Nat) (v : Value) (vs : List Sv) (r0 r1 : Hl) => i ≤ 8 ∧ i ≤ xss.length ∧ Own slE v vs r0 ∧ OwnsR vs ((xss.take i).map (·.take 40)) r1) (fun i v vs r0 r1 => [(0, .slice p0 ls.length c0), (1, .int .i64 (h : Int)), (5, .bool true), (6, v), (7, .int .i64 (i : Int))]) (fun i v vs r0 r1 => r0 ++ r1) (fun i v vs r0 r1 => 8 - i) 0 _ [] [] [] ⟨by omega, by omega, .nil, .nil⟩ (.cons rfl (.cons rfl (.cons rfl (.cons rfl (.cons rfl .nil))))) pulled ?_
  rintro i v vs r0 r1 ⟨hi8, hil, own, owns⟩
  have hvl : vs.length = i := by rw [owns.len]; simp; omega
  refine Vc.seq ?_
  refine Vc.seq ?_
  refine Vc.cut1 (fun (bb : Bool) => (bb = true → i < xss.length ∧ i < 8)) (fun bb => (21, .bool bb) :: [(0, .slice p0 ls.length c0), (1, .int .i64 (h : Int)), (5, .bool true), (6, v), (7, .int .i64 (i : Int))]) (fun bb => r0 ++ r1) ?_ ?_
  ·
    refine Vc.text (List.range 8) (sd [(0, .pure), (1, .pure), (2, .pure), (3, .pure), (4, .pure), (5, .pure), (6, .pure), (7, .pure)]) rfl ?_
    refine Rg.pure rfl rfl rfl (Pv.move rfl) ?_
    refine Rg.pure rfl rfl rfl (Pv.move rfl) ?_
    refine Rg.pure rfl rfl rfl (Pv.lenS rfl) ?_
    refine Rg.pure rfl rfl rfl (Pv.lss rfl rfl) ?_
    refine Rg.pure rfl rfl rfl (Pv.move rfl) ?_
    refine Rg.split (t := 18) rfl (fun h18 => ?_) (fun h18 => ?_)
    ·
      simp only [decide_eq_true_eq] at h18
      refine Rg.pure rfl rfl rfl (Pv.move rfl) ?_
      refine Rg.pure rfl rfl rfl (Pv.lss rfl rfl) ?_
      refine Rg.pure rfl rfl rfl (Pv.pickT rfl rfl) ?_
      refine Rg.nil ?_
      exact Vc.inv1 _ (fun hb => ⟨by omega, by have := of_decide_eq_true hb; omega⟩) (.cons rfl (.cons rfl (.cons rfl (.cons rfl (.cons rfl (.cons rfl .nil)))))) pulled
    ·
      simp only [decide_eq_false_iff_not] at h18
      iterate 2 (first | refine Rg.skipP rfl rfl rfl ?_ | refine Rg.skipR rfl rfl rfl ?_ | refine Rg.skipE rfl rfl rfl ?_)
      refine Rg.pure rfl rfl rfl (Pv.pickF rfl rfl) ?_
      refine Rg.nil ?_
      exact Vc.inv1 _ (fun hb => by cases hb) (.cons rfl (.cons rfl (.cons rfl (.cons rfl (.cons rfl (.cons rfl .nil)))))) pulled
  ·
    rintro bb hbb
    refine Vc.cond rfl (fun h21 => ?_) (fun h21 => ?_)
    ·
      obtain ⟨hix, hi8'⟩ := hbb h21
      obtain ⟨bl, off, c', e, _⟩ := hatop.block (by omega)
      cases e
      have hxi := hra i (by omega)
      obtain ⟨⟨pk, mk, ck⟩, hsk⟩ : ∃ s, ls[i]! = s := ⟨_, rfl⟩
      rw [hsk] at hxi
      obtain rfl : mk = xss[i]!.length := hxi.cap.1
      have hcap : xss[i]!.length ≤ ck := hxi.cap.2
      have htk : xss.take (i + 1) = xss.take i ++ [xss[i]!] := take_get xss (by omega)
      generalize xss[i]! = ys at hxi hsk hcap htk
      have ht := hxi.take (k := min ys.length 40) (Nat.min_le_left _ _)
      rw [show ys.take (min ys.length 40) = ys.take 40 by rw [List.take_eq_take_iff]; omega] at ht
      have hyl : (ys.take 40).length ≤ 40 := by simp; omega
      refine Vc.skip ?_
      refine Vc.seq ?_
      refine Vc.block ?_
      refine Vc.drawS [] (sd [(0, .pure), (2, .pure), (3, .pure), (4, .pure), (5, .read), (6, .pure), (7, .pure), (8, .pure), (9, .read), (10, .pure), (11, .pure), (12, .pure), (1, .eff), (13, .eff), (14, .eff), (15, .eff), (16, .pure)]) [] pulled mixed (by kernel_rfl) ?_
      refine Rg.pure rfl rfl rfl (Pv.move rfl) ?_
      refine Rg.pure rfl rfl rfl (Pv.move rfl) ?_
      refine Rg.pure rfl rfl rfl (Pv.move rfl) ?_
      refine Rg.pure rfl rfl rfl (Pv.ixA (i) rfl rfl (by omega) (by omega)) ?_
      refine Rg.read rfl rfl rfl (Ev.as (.slice pk ys.length ck) (Ev.ldS (E := slE) i hatop.src rfl rfl rfl (by omega)) (congrArg slE.val hsk)) ?_
      refine Rg.pure rfl rfl rfl (Pv.move rfl) ?_
      refine Rg.pure rfl rfl rfl (Pv.move rfl) ?_
      refine Rg.pure rfl rfl rfl (Pv.ixA (i) rfl rfl (by omega) (by omega)) ?_
      refine Rg.read rfl rfl rfl (Ev.as (.slice pk ys.length ck) (Ev.ldS (E := slE) i hatop.src rfl rfl rfl (by omega)) (congrArg slE.val hsk)) ?_
      refine Rg.pure rfl rfl rfl (Pv.lenS rfl) ?_
      refine Rg.pure rfl rfl rfl (Pv.asI (min ys.length 40) (Pv.min rfl rfl) (by omega)) ?_
      refine Rg.pure rfl rfl rfl (Pv.slTo (min ys.length 40) rfl rfl (by omega)) ?_
      refine Rg.bslice0N (E := recE) rfl rfl rfl (fun b25 own25 => ?_)
      refine Rg.appendN rfl rfl rfl rfl rfl own25 ht.src (by simp <;> omega) (by simp [maxLen] <;> omega) (fun v37 s37 own37 => ?_)
      obtain ⟨q37, c37, rfl⟩ := own37.shape
      refine Rg.bslice1N rfl rfl rfl rfl rfl rfl rfl (fun b38 => ?_)
      refine Rg.appendN rfl rfl rfl rfl rfl own (Src.one (y := (⟨q37, ([] ++ ys.take 40).length, c37⟩ : Sv)) rfl) (by simp <;> omega) (by simp [maxLen] <;> omega) (fun v39 s39 own39 => ?_)
      refine Rg.pure rfl rfl rfl (Pv.assign rfl) ?_
      refine Rg.nil ?_
      refine Vc.blk ?_
      refine Vc.text (List.range 3) (sd [(0, .pure), (1, .pure), (2, .pure)]) rfl ?_
      refine Rg.pure rfl rfl rfl (Pv.move rfl) ?_
      refine Rg.pure rfl rfl rfl (Pv.asI (i + 1) (Pv.add rfl rfl (by omega)) (by omega)) ?_
      refine Rg.pure rfl rfl rfl (Pv.assign rfl) ?_
      refine Rg.nil ?_
      exact Vc.inv5 (i + 1) _ _ s39 (s37 ++ r1) ⟨⟨by omega, by omega, own39, by rw [htk, List.map_append]; exact owns.snoc (s := ⟨q37, _, c37⟩) own37⟩, by omega⟩ (.cons rfl (.cons rfl (.cons rfl (.cons rfl (.cons rfl .nil))))) pulled
    ·
      have hrr : OwnRR v ((xss.take i).map (·.take 40)) (r0 ++ r1) := ⟨vs, r0, r1, own, owns, rfl⟩
      have hrl : ((xss.take i).map (·.take 40)).length ≤ 8 := by simp; omega
      have hfl := flat40 (Y := (xss.take i).map (·.take 40)) (fun ys hy => by obtain ⟨zs, _, rfl⟩ := List.mem_map.1 hy; simp; omega)
      have hRY : NR ((xss.take i).map (·.take 40)).flatten := fun r hr => by
        obtain ⟨ys, h1, h2⟩ := List.mem_flatten.1 hr
        obtain ⟨zs, h3, rfl⟩ := List.mem_map.1 h1
        exact hR0 zs (List.mem_of_mem_take h3) r (List.mem_of_mem_take h2)
      generalize (xss.take i).map (·.take 40) = Y at hrr hrl hfl hRY
      clear own owns
      generalize r0 ++ r1 = r at hrr
      obtain ⟨qr, cr, rfl⟩ := hrr.shape
      refine Vc.exit rfl ?_
      refine Vc.seq ?_
      refine Vc.text (List.range 8) (sd [(0, .pure), (1, .pure), (2, .eff), (3, .pure), (4, .pure), (5, .pure), (6, .pure), (7, .pure)]) rfl ?_
      refine Rg.pure rfl rfl rfl (Pv.move rfl) ?_
      refine Rg.pure rfl rfl rfl (Pv.move rfl) ?_
      refine Rg.callA rfl rfl rfl (run_callF rfl) (merge_own hrr frz_sb (by omega) (by omega) hRY hok) ?_
      rintro _ s43 ⟨u43, rfl, own43⟩
      have hsl := sortedG_length h Y.flatten
      refine Rg.pure rfl rfl rfl (Pv.move rfl) ?_
      refine Rg.pure rfl rfl rfl (Pv.extract rfl rfl) ?_
      refine Rg.pure rfl rfl rfl (Pv.extract rfl rfl) ?_
      refine Rg.pure rfl rfl rfl (Pv.assign rfl) ?_
      refine Rg.pure rfl rfl rfl (Pv.assign rfl) ?_
      refine Rg.nil ?_
      refine Vc.seq ?_
      refine Vc.text (List.range 13) (sd [(0, .pure), (1, .pure), (2, .pure), (3, .pure), (4, .pure), (5, .pure), (6, .pure), (7, .pure), (8, .pure), (9, .eff), (10, .eff), (11, .pure), (12, .pure)]) rfl ?_
      refine Rg.pure rfl rfl rfl (Pv.move rfl) ?_
      refine Rg.pure rfl rfl rfl (Pv.move rfl) ?_
      refine Rg.split (t := 47) rfl (fun h47 => ?_) (fun h47 => absurd h47 (by decide))
      refine Rg.pure rfl rfl rfl (Pv.move rfl) ?_
      refine Rg.pure rfl rfl rfl (Pv.eql rfl rfl) ?_
      refine Rg.pure rfl rfl rfl (Pv.pickT rfl rfl) ?_
      refine Rg.pure rfl rfl rfl (Pv.move rfl) ?_
      refine Rg.split (t := 51) rfl (fun h51 => ?_) (fun h51 => absurd h51 (by decide))
      refine Rg.pure rfl rfl rfl (Pv.move rfl) ?_
      refine Rg.pure rfl rfl rfl (Pv.move rfl) ?_
      refine Rg.pure rfl rfl rfl (Pv.move rfl) ?_
      refine Rg.callA rfl rfl rfl (run_callF rfl) (rmerge_own hrr frz_sb (by omega) (by omega) hRY h) ?_
      rintro _ s55 own55
      refine Rg.callP rfl rfl rfl (run_callF rfl) (rsameR_spec (Arg.own own43 frz_sb) (Arg.own own55 frz_sb) (by omega) (by omega)) ?_
      rintro _ rfl
      refine Rg.pure rfl rfl rfl (Pv.pickT rfl rfl) ?_
      refine Rg.pure rfl rfl rfl (Pv.assign rfl) ?_
      refine Rg.nil ?_
      refine Vc.ret (Vc.rets rfl (.cons (.tmp rfl) (.nil)) ?_)
      exact congrArg Value.bool (by simp)
end Go.Proofs.Ytkkbeljmloikkaa
