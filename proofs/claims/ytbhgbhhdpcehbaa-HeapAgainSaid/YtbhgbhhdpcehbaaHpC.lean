/- What the statements' functions lean on: the first look ('shown'), a heap and a rising row that hold the same. -/
import Derived.Test.YtbhgbhhdpcehbaaHpB
namespace Go.Proofs.Ytbhgbhhdpcehbaa
set_option linter.unusedVariables false

def hd (xs : List Rc) : Rc := xs.headD ⟨0, 0⟩
theorem peekV_eq (xs : List Rc) : peekV xs = .tuple #[recV (hd xs), .bool (decide (0 < xs.length))] := by
  cases xs with
  | nil => rfl
  | cons x l => simp [peekV, hd]
theorem hd_get {xs : List Rc} (h : 0 < xs.length) : hd xs = xs[0]! := by
  cases xs with
  | nil => simp at h
  | cons x l => rfl
theorem hd_nil {xs : List Rc} (h : ¬ 0 < xs.length) : hd xs = ⟨0, 0⟩ := by
  cases xs with
  | nil => rfl
  | cons x l => simp at h

theorem pop_hd (F : Fm) (hb : Nat) (xs : List Rc) (hl : Hl) (hh : HeapAt hb xs hl) (hn : xs.length < 4294967296) :
    Spec Try.prog 9 #[.pointer (some ⟨hb, 0, none⟩)] F hl fun v hl' => v = .tuple #[recV (hd xs), .bool (decide (0 < xs.length))] ∧ HeapAt hb (popL xs) hl' := by
  rw [← peekV_eq]; exact pop_at F hb xs hl hh hn
theorem peek_hd {F : Fm} {hb : Nat} {xs : List Rc} {s : Hl} (hh : HeapAt hb xs s) (hF : ∀ b o, (b, o) ∈ s → F.at_ b o) :
    Spec Try.prog 12 #[.pointer (some ⟨hb, 0, none⟩)] F [] fun v _ => v = .tuple #[recV (hd xs), .bool (decide (0 < xs.length))] := by
  rw [← peekV_eq]; exact peek_at hh hF

def pushL (xs : List Rc) (x : Rc) : List Rc := siftUp x (xs ++ [x]) xs.length
theorem push_at (F : Fm) (hb : Nat) (xs : List Rc) (x : Rc) (hl : Hl) (hh : HeapAt hb xs hl) (hn : xs.length < 4294967296) :
    Spec Try.prog 10 #[.pointer (some ⟨hb, 0, none⟩), recV x] F hl fun _ hl' => HeapAt hb (pushL xs x) hl' := push_spec F hb xs x hl hh hn
theorem pushL_length (xs : List Rc) (x : Rc) : (pushL xs x).length = xs.length + 1 := by rw [pushL, siftUp_length]; simp
theorem popL_length (xs : List Rc) : (popL xs).length = xs.length - 1 := by
  by_cases h : 0 < xs.length
  · have := (pop_perm xs h).length_eq
    simp only [List.length_cons] at this
    omega
  · rw [popL, if_pos (by omega)]; simp; omega

theorem shown_a : pushL [] ⟨3, 0⟩ = [⟨3, 0⟩] := by rw [pushL, siftUp_stop (by simp)]; rfl
theorem shown_b : pushL [⟨3, 0⟩] ⟨1, 5⟩ = [⟨1, 5⟩, ⟨3, 0⟩] := by
  rw [pushL, siftUp_go (by simp) (by rfl), siftUp_stop (by simp)]; rfl
theorem shown_c : pushL [⟨1, 5⟩, ⟨3, 0⟩] ⟨1, 2⟩ = [⟨1, 2⟩, ⟨3, 0⟩, ⟨1, 5⟩] := by
  rw [pushL, siftUp_go (by simp) (by rfl), siftUp_stop (by simp)]; rfl
theorem shown_d : popL [⟨1, 2⟩, ⟨3, 0⟩, ⟨1, 5⟩] = [⟨1, 5⟩, ⟨3, 0⟩] := by
  rw [popL, if_neg (by simp), siftDown_stop (by rintro ⟨_, h⟩; exact absurd h (by decide))]; rfl
theorem shown_e : popL [⟨1, 5⟩, ⟨3, 0⟩] = [⟨3, 0⟩] := by
  rw [popL, if_neg (by simp), siftDown_stop (by rintro ⟨h, _⟩; exact absurd h (by decide))]; rfl
theorem shown_f : popL [⟨3, 0⟩] = [] := by rw [popL, if_pos (by simp)]
theorem popL_nil : popL [] = [] := by rw [popL, if_pos (by simp)]

theorem heap_nil (hb : Nat) : HeapAt hb [] [(hb, cellsO [.slice none 0 0] 27)] := ⟨_, _, .nil, rfl⟩

theorem shown_spec (F : Fm) : Spec Try.prog 8 #[] F [] fun v _ => v = .bool true := by
  refine Spec.of (n := 65) (vs := []) Try.func8 rfl Try.ntmps8 rfl ?_
  refine Vc.seq ?_
  refine Vc.text (List.range 1) (sd [(0, .pure)]) rfl ?_
  refine Rg.pure rfl rfl rfl (Pv.assign rfl) ?_
  refine Rg.nil ?_
  refine Vc.seq ?_
  refine Vc.text (List.range 1) (sd [(0, .eff)]) rfl ?_
  refine Rg.alloc rfl rfl rfl rfl (fun b1 => ?_)
  refine Rg.nil ?_
  refine Vc.seq ?_
  refine Vc.text (List.range 2) (sd [(0, .pure), (1, .eff)]) rfl ?_
  refine Rg.pure rfl rfl rfl (Pv.build rfl rfl) ?_
  refine Rg.callH rfl rfl rfl (run_callF rfl) (fun F' hF' => push_at F' b1 [] ⟨3, 0⟩ _ (heap_nil b1) (by simp)) rfl ?_
  rintro v12 s1 h1
  rw [shown_a] at h1
  refine Rg.nil ?_
  refine Vc.seq ?_
  refine Vc.text (List.range 2) (sd [(0, .pure), (1, .eff)]) rfl ?_
  refine Rg.pure rfl rfl rfl (Pv.build rfl rfl) ?_
  refine Rg.callH rfl rfl rfl (run_callF rfl) (fun F' hF' => push_at F' b1 _ ⟨1, 5⟩ _ h1 (by simp)) rfl ?_
  rintro v14 s2 h2
  rw [shown_b] at h2
  refine Rg.nil ?_
  refine Vc.seq ?_
  refine Vc.text (List.range 2) (sd [(0, .pure), (1, .eff)]) rfl ?_
  refine Rg.pure rfl rfl rfl (Pv.build rfl rfl) ?_
  refine Rg.callH rfl rfl rfl (run_callF rfl) (fun F' hF' => push_at F' b1 _ ⟨1, 2⟩ _ h2 (by simp)) rfl ?_
  rintro v16 s3 h3
  rw [shown_c] at h3
  refine Rg.nil ?_
  refine Vc.seq ?_
  refine Vc.text (List.range 7) (sd [(0, .eff), (1, .pure), (2, .pure), (3, .pure), (4, .eff), (5, .eff), (6, .pure)]) rfl ?_
  refine Rg.callP rfl rfl rfl (run_callF rfl) (peek_at h3 frz_sb) ?_
  rintro _ rfl
  refine Rg.pure rfl rfl rfl (Pv.move rfl) ?_
  refine Rg.pure rfl rfl rfl (Pv.extract rfl rfl) ?_
  refine Rg.pure rfl rfl rfl (Pv.extract rfl rfl) ?_
  refine Rg.alloc rfl rfl rfl rfl (fun b2 => ?_)
  refine Rg.storeA rfl rfl rfl rfl rfl rfl rfl rfl ?_
  refine Rg.pure rfl rfl rfl (Pv.assign rfl) ?_
  refine Rg.nil ?_
  refine Vc.seq ?_
  refine Vc.text (List.range 7) (sd [(0, .eff), (1, .pure), (2, .pure), (3, .pure), (4, .eff), (5, .eff), (6, .pure)]) rfl ?_
  refine Rg.callH rfl rfl rfl (run_callF rfl) (fun F' hF' => pop_at F' b1 _ _ h3 (by simp)) rfl ?_
  rintro v22 s4 ⟨rfl, h4⟩
  rw [shown_d] at h4
  refine Rg.pure rfl rfl rfl (Pv.move rfl) ?_
  refine Rg.pure rfl rfl rfl (Pv.extract rfl rfl) ?_
  refine Rg.pure rfl rfl rfl (Pv.extract rfl rfl) ?_
  refine Rg.alloc rfl rfl rfl rfl (fun b4 => ?_)
  refine Rg.storeA rfl rfl rfl rfl rfl rfl rfl rfl ?_
  refine Rg.pure rfl rfl rfl (Pv.assign rfl) ?_
  refine Rg.nil ?_
  refine Vc.seq ?_
  refine Vc.text (List.range 7) (sd [(0, .eff), (1, .pure), (2, .pure), (3, .pure), (4, .eff), (5, .eff), (6, .pure)]) rfl ?_
  refine Rg.callH rfl rfl rfl (run_callF rfl) (fun F' hF' => pop_at F' b1 _ _ h4 (by simp)) rfl ?_
  rintro v26 s5 ⟨rfl, h5⟩
  rw [shown_e] at h5
  refine Rg.pure rfl rfl rfl (Pv.move rfl) ?_
  refine Rg.pure rfl rfl rfl (Pv.extract rfl rfl) ?_
  refine Rg.pure rfl rfl rfl (Pv.extract rfl rfl) ?_
  refine Rg.alloc rfl rfl rfl rfl (fun b6 => ?_)
  refine Rg.storeA rfl rfl rfl rfl rfl rfl rfl rfl ?_
  refine Rg.pure rfl rfl rfl (Pv.assign rfl) ?_
  refine Rg.nil ?_
  refine Vc.seq ?_
  refine Vc.text (List.range 2) (sd [(0, .eff), (1, .pure)]) rfl ?_
  refine Rg.callP rfl rfl rfl (run_callF rfl) (len_at h5 frz_sb) ?_
  rintro _ rfl
  refine Rg.pure rfl rfl rfl (Pv.assign rfl) ?_
  refine Rg.nil ?_
  refine Vc.seq ?_
  refine Vc.text (List.range 1) (sd [(0, .eff)]) rfl ?_
  refine Rg.callH rfl rfl rfl (run_callF rfl) (fun F' hF' => pop_at F' b1 _ _ h5 (by simp)) rfl ?_
  rintro v30 s6 ⟨rfl, h6⟩
  rw [shown_f] at h6
  refine Rg.nil ?_
  refine Vc.seq ?_
  refine Vc.text (List.range 7) (sd [(0, .eff), (1, .pure), (2, .pure), (3, .pure), (4, .eff), (5, .eff), (6, .pure)]) rfl ?_
  refine Rg.callH rfl rfl rfl (run_callF rfl) (fun F' hF' => pop_at F' b1 _ _ h6 (by simp)) rfl ?_
  rintro v32 s7 ⟨rfl, h7⟩
  refine Rg.pure rfl rfl rfl (Pv.move rfl) ?_
  refine Rg.pure rfl rfl rfl (Pv.extract rfl rfl) ?_
  refine Rg.pure rfl rfl rfl (Pv.extract rfl rfl) ?_
  refine Rg.alloc rfl rfl rfl rfl (fun b9 => ?_)
  refine Rg.storeA rfl rfl rfl rfl rfl rfl rfl rfl ?_
  refine Rg.pure rfl rfl rfl (Pv.assign rfl) ?_
  refine Rg.nil ?_
  refine Vc.seq ?_
  refine Vc.text (List.range 31) (sd [(0, .read), (1, .read), (2, .pure), (3, .pure), (4, .pure), (5, .pure), (6, .pure), (7, .pure), (8, .read), (9, .pure), (10, .pure), (11, .pure), (12, .pure), (13, .pure), (14, .pure), (15, .pure), (16, .read), (17, .pure), (18, .pure), (19, .pure), (20, .pure), (21, .pure), (22, .pure), (23, .pure), (24, .pure), (25, .pure), (26, .pure), (27, .pure), (28, .pure), (29, .pure), (30, .pure)]) rfl ?_
  refine Rg.read rfl rfl rfl (Ev.ldA rfl rfl) ?_
  refine Rg.read rfl rfl rfl (Ev.ldA rfl rfl) ?_
  refine Rg.pure rfl rfl rfl (Pv.eqlE recE ⟨1, 2⟩ ⟨1, 2⟩ rfl rfl) ?_
  refine Rg.pure rfl rfl rfl (Pv.move rfl) ?_
  refine Rg.split (t := 38) rfl (fun h38 => ?_) (fun h38 => absurd h38 (by simp))
  refine Rg.pure rfl rfl rfl (Pv.move rfl) ?_
  refine Rg.pure rfl rfl rfl (Pv.pickT rfl rfl) ?_
  refine Rg.pure rfl rfl rfl (Pv.move rfl) ?_
  refine Rg.split (t := 41) rfl (fun h41 => ?_) (fun h41 => absurd h41 (by simp))
  refine Rg.pure rfl rfl rfl (Pv.fa rfl) ?_
  refine Rg.read rfl rfl rfl (Ev.ld rfl rfl) ?_
  refine Rg.pure rfl rfl rfl (Pv.eql rfl rfl) ?_
  refine Rg.pure rfl rfl rfl (Pv.pickT rfl rfl) ?_
  refine Rg.pure rfl rfl rfl (Pv.move rfl) ?_
  refine Rg.split (t := 46) rfl (fun h46 => ?_) (fun h46 => absurd h46 (by simp))
  refine Rg.pure rfl rfl rfl (Pv.move rfl) ?_
  refine Rg.pure rfl rfl rfl (Pv.pickT rfl rfl) ?_
  refine Rg.pure rfl rfl rfl (Pv.move rfl) ?_
  refine Rg.split (t := 49) rfl (fun h49 => ?_) (fun h49 => absurd h49 (by simp))
  refine Rg.pure rfl rfl rfl (Pv.fa rfl) ?_
  refine Rg.read rfl rfl rfl (Ev.ld rfl rfl) ?_
  refine Rg.pure rfl rfl rfl (Pv.eql rfl rfl) ?_
  refine Rg.pure rfl rfl rfl (Pv.pickT rfl rfl) ?_
  refine Rg.pure rfl rfl rfl (Pv.move rfl) ?_
  refine Rg.split (t := 54) rfl (fun h54 => ?_) (fun h54 => absurd h54 (by simp))
  refine Rg.pure rfl rfl rfl (Pv.move rfl) ?_
  refine Rg.pure rfl rfl rfl (Pv.pickT rfl rfl) ?_
  refine Rg.pure rfl rfl rfl (Pv.move rfl) ?_
  refine Rg.split (t := 57) rfl (fun h57 => ?_) (fun h57 => absurd h57 (by simp))
  refine Rg.pure rfl rfl rfl (Pv.move rfl) ?_
  refine Rg.pure rfl rfl rfl (Pv.eql rfl rfl) ?_
  refine Rg.pure rfl rfl rfl (Pv.pickT rfl rfl) ?_
  refine Rg.pure rfl rfl rfl (Pv.move rfl) ?_
  refine Rg.split (t := 61) rfl (fun h61 => ?_) (fun h61 => absurd h61 (by simp))
  refine Rg.pure rfl rfl rfl (Pv.move rfl) ?_
  refine Rg.pure rfl rfl rfl (Pv.not rfl) ?_
  refine Rg.pure rfl rfl rfl (Pv.pickT rfl rfl) ?_
  refine Rg.pure rfl rfl rfl (Pv.assign rfl) ?_
  refine Rg.nil ?_
  refine Vc.ret (Vc.rets rfl (.cons (.tmp rfl) (.nil)) ?_)
  rfl
end Go.Proofs.Ytbhgbhhdpcehbaa
