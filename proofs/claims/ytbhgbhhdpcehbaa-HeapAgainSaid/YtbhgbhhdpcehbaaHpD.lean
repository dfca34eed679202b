/- The statements' functions: HeapTells. -/
import Derived.Test.YtbhgbhhdpcehbaaHpC
namespace Go.Proofs.Ytbhgbhhdpcehbaa
set_option linter.unusedVariables false

def boolE : Enc Bool where
  k := 1
  tid := 4
  cells := fun b => [.bool b]
  val := fun b => .bool b
  pos := by decide
  len := fun _ => rfl
  one := fun x v hv => by simp at hv; subst hv; rfl
  vc := fun _ => rfl
instance : RowTy Try.prog boolE 4 := ⟨Try.sizeOf4, .inr ⟨Try.isAgg4, rfl, fun _ => rfl⟩⟩

/-- A heap and a rising row of the same things. -/
structure Same (xs ys : List Rc) : Prop where
  perm : xs.Perm ys
  ok : HeapOK xs
  rises : Rises ys
theorem Same.nil : Same [] [] := ⟨.refl _, fun j _ h => by simp at h, .nil⟩
theorem Same.len {xs ys : List Rc} (h : Same xs ys) : xs.length = ys.length := h.perm.length_eq
theorem Same.first {xs ys : List Rc} (h : Same xs ys) (h0 : 0 < ys.length) : hd xs = ys[0]! := by
  rw [hd_get (by rw [h.len]; exact h0), first_same h.ok h.rises h.perm (by rw [h.len]; exact h0)]
theorem Same.push {xs ys : List Rc} (h : Same xs ys) (x : Rc) : Same (pushL xs x) (putL ys x) :=
  ⟨(push_perm xs x).trans ((h.perm.cons x).trans (put_perm ys x).symm), push_ok h.ok x, put_rises h.rises x⟩
theorem Same.pop {xs ys : List Rc} (h : Same xs ys) (h0 : 0 < ys.length) : Same (popL xs) (ys.drop 1) := by
  have hx : 0 < xs.length := by rw [h.len]; exact h0
  have hf := first_same h.ok h.rises h.perm hx
  have hp := pop_perm xs hx
  cases ys with
  | nil => simp at h0
  | cons y l =>
    have : xs[0]! = y := hf
    rw [this] at hp
    exact ⟨(hp.symm.trans h.perm).cons_inv, pop_ok h.ok, rises_tail h.rises⟩
theorem Same.pop0 {xs ys : List Rc} (h : Same xs ys) (h0 : ¬ 0 < xs.length) : Same (popL xs) ys := by
  have : xs = [] := List.eq_nil_of_length_eq_zero (by omega)
  subst this
  rw [popL_nil]; exact h

theorem HeapTells_spec (F : Fm) (v0 v1 : Value) (xs : List Rc) (bs : List Bool) (ha : Arg recE F v0 xs) (hB : Arg boolE F v1 bs) :
    Spec Try.prog 3 #[v0, v1] F [] fun v _ => v = .bool true := by
  obtain ⟨p0, c0, rfl⟩ := ha.shape
  obtain ⟨p1, c1, rfl⟩ := hB.shape
  refine Spec.of (n := 134) (vs := [.slice p0 xs.length c0, .slice p1 bs.length c1]) Try.func3 rfl Try.ntmps3 rfl ?_
  refine Vc.seq ?_
  refine Vc.text (List.range 1) (sd [(0, .pure)]) rfl ?_
  refine Rg.pure rfl rfl rfl (Pv.assign rfl) ?_
  refine Rg.nil ?_
  refine Vc.seq ?_
  refine Vc.text (List.range 2) (sd [(0, .eff), (1, .pure)]) rfl ?_
  refine Rg.callP rfl rfl rfl (run_callF rfl) (shown_spec _) ?_
  rintro _ rfl
  refine Rg.pure rfl rfl rfl (Pv.assign rfl) ?_
  refine Rg.nil ?_
  refine Vc.seq ?_
  refine Vc.text (List.range 3) (sd [(0, .pure), (1, .eff), (2, .pure)]) rfl ?_
  refine Rg.pure rfl rfl rfl (Pv.build rfl rfl) ?_
  refine Rg.box rfl rfl rfl rfl rfl (fun b17 => ?_)
  refine Rg.pure rfl rfl rfl (Pv.assign rfl) ?_
  refine Rg.nil ?_
  refine Vc.seq ?_
  refine Vc.text (List.range 1) (sd [(0, .pure)]) rfl ?_
  refine Rg.pure rfl rfl rfl (Pv.assign rfl) ?_
  refine Rg.nil ?_
  refine Vc.seq ?_
  refine Vc.seq ?_
  refine Vc.text (List.range 1) (sd [(0, .pure)]) rfl ?_
  refine Rg.pure rfl rfl rfl (Pv.assign rfl) ?_
  refine Rg.nil ?_
  refine Vc.block ?_
  refine Vc.loop6 (fun (i : Nat) (X Y : List Rc) (v : Value) (sx sy : Hl) => i ≤ 100 ∧ X.length ≤ i ∧ Same X Y ∧ HeapAt b17 X sx ∧ Tl recE v Y sy) (fun i X Y v sx sy => [(0, .slice p0 xs.length c0), (1, .slice p1 bs.length c1), (4, .bool false), (5, .bool true), (6, .pointer (some ⟨b17, 0, none⟩)), (7, v), (8, .int .i64 (i : Int))]) (fun i X Y v sx sy => sx ++ sy) (fun i X Y v sx sy => 100 - i) 0 [] [] _ _ [] ⟨by omega, by simp, .nil, heap_nil b17, .nil⟩ (.cons rfl (.cons rfl (.cons rfl (.cons rfl (.cons rfl (.cons rfl (.cons rfl .nil))))))) pulled ?_
  rintro i X Y v sx sy ⟨h1, h2, hS, hX, hY⟩
  obtain ⟨py, cy, rfl⟩ := hY.shape
  have hlen := hS.len
  refine Vc.seq ?_
  refine Vc.seq ?_
  refine Vc.cut1 (fun (b : Bool) => b = true → i < xs.length ∧ i < 100) (fun b => (25, .bool b) :: [(0, .slice p0 xs.length c0), (1, .slice p1 bs.length c1), (4, .bool false), (5, .bool true), (6, .pointer (some ⟨b17, 0, none⟩)), (7, .slice py Y.length cy), (8, .int .i64 (i : Int))]) (fun b => sx ++ sy) ?_ ?_
  ·
    refine Vc.text (List.range 8) (sd [(0, .pure), (1, .pure), (2, .pure), (3, .pure), (4, .pure), (5, .pure), (6, .pure), (7, .pure)]) rfl ?_
    refine Rg.pure rfl rfl rfl (Pv.move rfl) ?_
    refine Rg.pure rfl rfl rfl (Pv.move rfl) ?_
    refine Rg.pure rfl rfl rfl (Pv.lenS rfl) ?_
    refine Rg.pure rfl rfl rfl (Pv.lss rfl rfl) ?_
    refine Rg.pure rfl rfl rfl (Pv.move rfl) ?_
    refine Rg.split (t := 22) rfl (fun h22 => ?_) (fun h22 => ?_)
    ·
      simp only [decide_eq_true_eq] at h22
      refine Rg.pure rfl rfl rfl (Pv.move rfl) ?_
      refine Rg.pure rfl rfl rfl (Pv.lss rfl rfl) ?_
      refine Rg.pure rfl rfl rfl (Pv.pickT rfl rfl) ?_
      refine Rg.nil ?_
      exact Vc.inv1 _ (fun hb => by first | (simp only [decide_eq_true_eq] at hb; omega) | cases hb) (.cons rfl (.cons rfl (.cons rfl (.cons rfl (.cons rfl (.cons rfl (.cons rfl (.cons rfl .nil)))))))) pulled
    ·
      iterate 2 (first | refine Rg.skipP rfl rfl rfl ?_ | refine Rg.skipR rfl rfl rfl ?_ | refine Rg.skipE rfl rfl rfl ?_)
      refine Rg.pure rfl rfl rfl (Pv.pickF rfl rfl) ?_
      refine Rg.nil ?_
      exact Vc.inv1 _ (fun hb => by first | (simp only [decide_eq_true_eq] at hb; omega) | cases hb) (.cons rfl (.cons rfl (.cons rfl (.cons rfl (.cons rfl (.cons rfl (.cons rfl (.cons rfl .nil)))))))) pulled
  ·
    rintro bb hbb
    refine Vc.cond rfl (fun h25 => ?_) (fun h25 => ?_)
    ·
      obtain ⟨h3, h4⟩ := hbb h25
      obtain ⟨b0, o0, cc0, e0, _⟩ := ha.block (by omega)
      cases e0
      refine Vc.skip ?_
      refine Vc.seq ?_
      refine Vc.block ?_
      refine Vc.seq ?_
      refine Vc.seq ?_
      refine Vc.cut1 (fun (_ : Bool) => True) (fun b => (37, .bool b) :: [(0, .slice (some ⟨b0, o0, none⟩) xs.length c0), (1, .slice p1 bs.length c1), (4, .bool false), (5, .bool true), (6, .pointer (some ⟨b17, 0, none⟩)), (7, .slice py Y.length cy), (8, .int .i64 (i : Int))]) (fun b => sx ++ sy) ?_ ?_
      ·
        refine Vc.text (List.range 10) (sd [(0, .pure), (1, .pure), (2, .pure), (3, .pure), (4, .pure), (5, .pure), (6, .pure), (7, .pure), (8, .read), (9, .pure)]) rfl ?_
        refine Rg.pure rfl rfl rfl (Pv.move rfl) ?_
        refine Rg.pure rfl rfl rfl (Pv.move rfl) ?_
        refine Rg.pure rfl rfl rfl (Pv.lenS rfl) ?_
        refine Rg.pure rfl rfl rfl (Pv.lss rfl rfl) ?_
        refine Rg.pure rfl rfl rfl (Pv.move rfl) ?_
        refine Rg.split (t := 32) rfl (fun h32 => ?_) (fun h32 => ?_)
        ·
          simp only [decide_eq_true_eq] at h32
          obtain ⟨b1, o1, cc1, e1, _⟩ := hB.block (by omega)
          cases e1
          refine Rg.pure rfl rfl rfl (Pv.move rfl) ?_
          refine Rg.pure rfl rfl rfl (Pv.move rfl) ?_
          refine Rg.pure rfl rfl rfl (Pv.ixA (i) rfl rfl (by omega) (by omega)) ?_
          refine Rg.read rfl rfl rfl (Ev.ldS (i) (hB.src) rfl rfl rfl (by omega)) ?_
          refine Rg.pure rfl rfl rfl (Pv.pickT rfl rfl) ?_
          refine Rg.nil ?_
          exact Vc.inv1 _ trivial (.cons rfl (.cons rfl (.cons rfl (.cons rfl (.cons rfl (.cons rfl (.cons rfl (.cons rfl .nil)))))))) pulled
        ·
          iterate 4 (first | refine Rg.skipP rfl rfl rfl ?_ | refine Rg.skipR rfl rfl rfl ?_ | refine Rg.skipE rfl rfl rfl ?_)
          refine Rg.pure rfl rfl rfl (Pv.pickF rfl rfl) ?_
          refine Rg.nil ?_
          exact Vc.inv1 _ trivial (.cons rfl (.cons rfl (.cons rfl (.cons rfl (.cons rfl (.cons rfl (.cons rfl (.cons rfl .nil)))))))) pulled
      ·
        rintro bp _
        refine Vc.cut5 (fun (X Y : List Rc) (v : Value) (sx sy : Hl) => X.length ≤ i + 1 ∧ Same X Y ∧ HeapAt b17 X sx ∧ Tl recE v Y sy) (fun X Y v sx sy => [(0, .slice (some ⟨b0, o0, none⟩) xs.length c0), (1, .slice p1 bs.length c1), (4, .bool false), (5, .bool true), (6, .pointer (some ⟨b17, 0, none⟩)), (7, v), (8, .int .i64 (i : Int))]) (fun X Y v sx sy => sx ++ sy) ?_ ?_
        ·
          refine Vc.cond rfl (fun h37 => ?_) (fun h37 => ?_)
          ·
            refine Vc.seq ?_
            refine Vc.text (List.range 8) (sd [(0, .pure), (1, .eff), (2, .pure), (3, .pure), (4, .pure), (5, .eff), (6, .eff), (7, .pure)]) rfl ?_
            refine Rg.pure rfl rfl rfl (Pv.move rfl) ?_
            refine Rg.callH rfl rfl rfl (run_callF rfl) (fun F' hF' => pop_hd F' b17 X _ hX (by omega)) rfl ?_
            rintro _ sx' ⟨rfl, hX'⟩
            refine Rg.pure rfl rfl rfl (Pv.move rfl) ?_
            refine Rg.pure rfl rfl rfl (Pv.extract rfl rfl) ?_
            refine Rg.pure rfl rfl rfl (Pv.extract rfl rfl) ?_
            refine Rg.alloc rfl rfl rfl rfl (fun b9 => ?_)
            refine Rg.storeA rfl rfl rfl rfl rfl rfl rfl rfl ?_
            refine Rg.pure rfl rfl rfl (Pv.assign rfl) ?_
            refine Rg.nil ?_
            refine Vc.seq ?_
            refine Vc.seq ?_
            refine Vc.draw [] (sd [(0, .pure), (1, .pure), (2, .pure), (3, .pure), (4, .pure), (5, .pure), (6, .pure), (7, .pure), (8, .read), (9, .pure), (10, .pure), (11, .read), (12, .pure), (13, .pure), (14, .pure), (15, .pure), (16, .pure), (17, .pure), (18, .pure), (19, .read), (20, .pure), (21, .pure), (22, .pure), (23, .pure)]) mixed (by kernel_rfl) ?_
            refine Rg.pure rfl rfl rfl (Pv.move rfl) ?_
            refine Rg.pure rfl rfl rfl (Pv.move rfl) ?_
            refine Rg.pure rfl rfl rfl (Pv.lenS rfl) ?_
            refine Rg.pure rfl rfl rfl (Pv.gtr rfl rfl) ?_
            refine Rg.pure rfl rfl rfl (Pv.neqB rfl rfl) ?_
            refine Rg.pure rfl rfl rfl (Pv.move rfl) ?_
            refine Rg.split (t := 48) rfl (fun h48 => absurd h48 (by simp [hlen])) (fun h48 => ?_)
            refine Rg.pure rfl rfl rfl (Pv.move rfl) ?_
            refine Rg.pure rfl rfl rfl (Pv.move rfl) ?_
            refine Rg.split (t := 50) rfl (fun h50 => ?_) (fun h50 => ?_)
            ·
              simp only [decide_eq_true_eq] at h50
              obtain ⟨b, j, c, zs, sp, e, rfl, hzs, hcY⟩ := hY.block (by omega)
              cases e
              refine Rg.read rfl rfl rfl (Ev.ldA rfl rfl) ?_
              refine Rg.pure rfl rfl rfl (Pv.move rfl) ?_
              refine Rg.pure rfl rfl rfl (Pv.ixA (0) rfl rfl (by omega) (by omega)) ?_
              refine Rg.read rfl rfl rfl (Ev.ldS (0) (Src.tl hY) rfl rfl rfl (by omega)) ?_
              refine Rg.pure rfl rfl rfl (Pv.neqE recE _ _ rfl rfl) ?_
              refine Rg.pure rfl rfl rfl (Pv.pickT rfl rfl) ?_
              refine Rg.pure rfl rfl rfl (Pv.pickF rfl rfl) ?_
              refine Rg.pure rfl rfl rfl (Pv.move rfl) ?_
              refine Rg.split (t := 58) rfl (fun h58 => absurd h58 (by simp [hS.first (by omega)])) (fun h58 => ?_)
              refine Rg.pure rfl rfl rfl (Pv.move rfl) ?_
              refine Rg.pure rfl rfl rfl (Pv.not rfl) ?_
              refine Rg.pure rfl rfl rfl (Pv.move rfl) ?_
              refine Rg.split (t := 61) rfl (fun h61 => absurd h61 (by simp [h50])) (fun h61 => ?_)
              iterate 3 (first | refine Rg.skipP rfl rfl rfl ?_ | refine Rg.skipR rfl rfl rfl ?_ | refine Rg.skipE rfl rfl rfl ?_)
              refine Rg.pure rfl rfl rfl (Pv.pickF rfl rfl) ?_
              refine Rg.pure rfl rfl rfl (Pv.pickF rfl rfl) ?_
              refine Rg.nil ?_
              refine Vc.cond rfl (fun h66 => absurd h66 (by simp)) (fun h66 => ?_)
              refine Vc.skip ?_
              refine Vc.seq ?_
              refine Vc.text (List.range 1) (sd [(0, .pure)]) rfl ?_
              refine Rg.pure rfl rfl rfl (Pv.move rfl) ?_
              refine Rg.nil ?_
              refine Vc.cond rfl (fun h67 => ?_) (fun h67 => absurd h67 (by simp [h50]))
              refine Vc.text (List.range 3) (sd [(0, .pure), (1, .pure), (2, .pure)]) rfl ?_
              refine Rg.pure rfl rfl rfl (Pv.move rfl) ?_
              refine Rg.pure rfl rfl rfl (Pv.slFrom (1) rfl rfl (by omega) (by omega)) ?_
              refine Rg.pure rfl rfl rfl (Pv.assign rfl) ?_
              refine Rg.nil ?_
              exact Vc.inv5 (popL X) (Y.drop 1) _ sx' [(b, rowS recE zs sp)] ⟨by rw [popL_length]; omega, hS.pop (by omega), hX', Tl.tail hzs (by omega) hcY⟩ (.cons rfl (.cons rfl (.cons rfl (.cons rfl (.cons rfl (.cons rfl (.cons rfl .nil))))))) pulled
            ·
              iterate 5 (first | refine Rg.skipP rfl rfl rfl ?_ | refine Rg.skipR rfl rfl rfl ?_ | refine Rg.skipE rfl rfl rfl ?_)
              refine Rg.pure rfl rfl rfl (Pv.pickF rfl rfl) ?_
              refine Rg.pure rfl rfl rfl (Pv.pickF rfl rfl) ?_
              refine Rg.pure rfl rfl rfl (Pv.move rfl) ?_
              refine Rg.pure rfl rfl rfl (Pv.move rfl) ?_
              refine Rg.pure rfl rfl rfl (Pv.not rfl) ?_
              refine Rg.pure rfl rfl rfl (Pv.move rfl) ?_
              refine Rg.split (t := 61) rfl (fun h61 => ?_) (fun h61 => absurd h61 (by simp [h50]))
              refine Rg.read rfl rfl rfl (Ev.ldA rfl rfl) ?_
              refine Rg.pure rfl rfl rfl (Pv.build rfl rfl) ?_
              refine Rg.pure rfl rfl rfl (Pv.neqE recE _ ⟨0, 0⟩ rfl rfl) ?_
              refine Rg.pure rfl rfl rfl (Pv.pickT rfl rfl) ?_
              refine Rg.pure rfl rfl rfl (Pv.pickF rfl rfl) ?_
              refine Rg.nil ?_
              refine Vc.cond rfl (fun h66 => absurd h66 (by simp [hd_nil (xs := X) (by simpa using h50)])) (fun h66 => ?_)
              refine Vc.skip ?_
              refine Vc.seq ?_
              refine Vc.text (List.range 1) (sd [(0, .pure)]) rfl ?_
              refine Rg.pure rfl rfl rfl (Pv.move rfl) ?_
              refine Rg.nil ?_
              refine Vc.cond rfl (fun h67 => absurd h67 (by simp [h50])) (fun h67 => ?_)
              refine Vc.skip ?_
              exact Vc.inv5 (popL X) Y _ sx' sy ⟨by rw [popL_length]; omega, hS.pop0 (by simpa using h50), hX', hY⟩ (.cons rfl (.cons rfl (.cons rfl (.cons rfl (.cons rfl (.cons rfl (.cons rfl .nil))))))) pulled
          ·
            refine Vc.seq ?_
            refine Vc.text (List.range 6) (sd [(0, .pure), (1, .pure), (2, .pure), (3, .pure), (4, .read), (5, .eff)]) rfl ?_
            refine Rg.pure rfl rfl rfl (Pv.move rfl) ?_
            refine Rg.pure rfl rfl rfl (Pv.move rfl) ?_
            refine Rg.pure rfl rfl rfl (Pv.move rfl) ?_
            refine Rg.pure rfl rfl rfl (Pv.ixA (i) rfl rfl (by omega) (by omega)) ?_
            refine Rg.read rfl rfl rfl (Ev.ldS (i) (ha.src) rfl rfl rfl (by omega)) ?_
            refine Rg.callH rfl rfl rfl (run_callF rfl) (fun F' hF' => push_at F' b17 X xs[i]! _ hX (by omega)) rfl ?_
            rintro v75 sx' hX'
            refine Rg.nil ?_
            refine Vc.text (List.range 7) (sd [(0, .pure), (1, .pure), (2, .pure), (3, .pure), (4, .read), (5, .eff), (6, .pure)]) rfl ?_
            refine Rg.pure rfl rfl rfl (Pv.move rfl) ?_
            refine Rg.pure rfl rfl rfl (Pv.move rfl) ?_
            refine Rg.pure rfl rfl rfl (Pv.move rfl) ?_
            refine Rg.pure rfl rfl rfl (Pv.ixA (i) rfl rfl (by omega) (by omega)) ?_
            refine Rg.read rfl rfl rfl (Ev.ldS (i) (ha.src) rfl rfl rfl (by omega)) ?_
            refine Rg.callH rfl rfl rfl (run_callF rfl) (fun F' hF' => put_spec F' _ Y xs[i]! (Arg.of_tl hY hF') (by omega)) rfl ?_
            rintro v81 sy' hY'
            refine Rg.pure rfl rfl rfl (Pv.assign rfl) ?_
            refine Rg.nil ?_
            exact Vc.inv5 (pushL X xs[i]!) (putL Y xs[i]!) _ sx' sy' ⟨by rw [pushL_length]; omega, hS.push _, hX', hY'.tl⟩ (.cons rfl (.cons rfl (.cons rfl (.cons rfl (.cons rfl (.cons rfl (.cons rfl .nil))))))) pulled
        ·
          rintro X Y v sx sy ⟨h2', hS, hX, hY⟩
          obtain ⟨py, cy, rfl⟩ := hY.shape
          have hlen := hS.len
          refine Vc.seq ?_
          refine Vc.text (List.range 8) (sd [(0, .pure), (1, .eff), (2, .pure), (3, .pure), (4, .pure), (5, .eff), (6, .eff), (7, .pure)]) rfl ?_
          refine Rg.pure rfl rfl rfl (Pv.move rfl) ?_
          refine Rg.callP rfl rfl rfl (run_callF rfl) (peek_hd hX frz_sb) ?_
          rintro _ rfl
          refine Rg.pure rfl rfl rfl (Pv.move rfl) ?_
          refine Rg.pure rfl rfl rfl (Pv.extract rfl rfl) ?_
          refine Rg.pure rfl rfl rfl (Pv.extract rfl rfl) ?_
          refine Rg.alloc rfl rfl rfl rfl (fun b11 => ?_)
          refine Rg.storeA rfl rfl rfl rfl rfl rfl rfl rfl ?_
          refine Rg.pure rfl rfl rfl (Pv.assign rfl) ?_
          refine Rg.nil ?_
          refine Vc.seq ?_
          refine Vc.draw [] (sd [(0, .pure), (2, .pure), (3, .pure), (1, .eff), (4, .pure), (5, .pure), (6, .pure), (7, .pure), (8, .pure), (9, .pure), (10, .pure), (11, .pure), (12, .pure), (13, .pure), (14, .pure), (15, .read), (16, .pure), (17, .pure), (18, .read), (19, .pure), (20, .pure), (21, .pure)]) mixed (by kernel_rfl) ?_
          refine Rg.pure rfl rfl rfl (Pv.move rfl) ?_
          refine Rg.pure rfl rfl rfl (Pv.move rfl) ?_
          refine Rg.pure rfl rfl rfl (Pv.lenS rfl) ?_
          refine Rg.callP rfl rfl rfl (run_callF rfl) (len_at hX frz_sb) ?_
          rintro _ rfl
          refine Rg.pure rfl rfl rfl (Pv.neq rfl rfl) ?_
          refine Rg.pure rfl rfl rfl (Pv.move rfl) ?_
          refine Rg.split (t := 92) rfl (fun h92 => absurd h92 (by simp [hlen])) (fun h92 => ?_)
          refine Rg.pure rfl rfl rfl (Pv.move rfl) ?_
          refine Rg.pure rfl rfl rfl (Pv.move rfl) ?_
          refine Rg.pure rfl rfl rfl (Pv.lenS rfl) ?_
          refine Rg.pure rfl rfl rfl (Pv.gtr rfl rfl) ?_
          refine Rg.pure rfl rfl rfl (Pv.neqB rfl rfl) ?_
          refine Rg.pure rfl rfl rfl (Pv.pickF rfl rfl) ?_
          refine Rg.pure rfl rfl rfl (Pv.move rfl) ?_
          refine Rg.split (t := 99) rfl (fun h99 => absurd h99 (by simp [hlen])) (fun h99 => ?_)
          refine Rg.pure rfl rfl rfl (Pv.move rfl) ?_
          refine Rg.pure rfl rfl rfl (Pv.move rfl) ?_
          refine Rg.split (t := 101) rfl (fun h101 => ?_) (fun h101 => ?_)
          ·
            simp only [decide_eq_true_eq] at h101
            obtain ⟨b, j, c, zs, sp, e, rfl, hzs, hcY⟩ := hY.block (by omega)
            cases e
            refine Rg.read rfl rfl rfl (Ev.ldA rfl rfl) ?_
            refine Rg.pure rfl rfl rfl (Pv.move rfl) ?_
            refine Rg.pure rfl rfl rfl (Pv.ixA (0) rfl rfl (by omega) (by omega)) ?_
            refine Rg.read rfl rfl rfl (Ev.ldS (0) (Src.tl hY) rfl rfl rfl (by omega)) ?_
            refine Rg.pure rfl rfl rfl (Pv.neqE recE _ _ rfl rfl) ?_
            refine Rg.pure rfl rfl rfl (Pv.pickT rfl rfl) ?_
            refine Rg.pure rfl rfl rfl (Pv.pickF rfl rfl) ?_
            refine Rg.nil ?_
            refine Vc.cond rfl (fun h108 => absurd h108 (by simp [hS.first (by omega)])) (fun h108 => ?_)
            refine Vc.skip ?_
            refine Vc.blk ?_
            refine Vc.text (List.range 3) (sd [(0, .pure), (1, .pure), (2, .pure)]) rfl ?_
            refine Rg.pure rfl rfl rfl (Pv.move rfl) ?_
            refine Rg.pure rfl rfl rfl (Pv.asI (i + 1) (Pv.add rfl rfl (by omega)) (by omega)) ?_
            refine Rg.pure rfl rfl rfl (Pv.assign rfl) ?_
            refine Rg.nil ?_
            exact Vc.inv6 (i + 1) X Y _ sx _ ⟨⟨by omega, h2', hS, hX, hY⟩, by omega⟩ (.cons rfl (.cons rfl (.cons rfl (.cons rfl (.cons rfl (.cons rfl (.cons rfl .nil))))))) pulled
          ·
            iterate 5 (first | refine Rg.skipP rfl rfl rfl ?_ | refine Rg.skipR rfl rfl rfl ?_ | refine Rg.skipE rfl rfl rfl ?_)
            refine Rg.pure rfl rfl rfl (Pv.pickF rfl rfl) ?_
            refine Rg.pure rfl rfl rfl (Pv.pickF rfl rfl) ?_
            refine Rg.nil ?_
            refine Vc.condF rfl ?_
            refine Vc.skip ?_
            refine Vc.blk ?_
            refine Vc.text (List.range 3) (sd [(0, .pure), (1, .pure), (2, .pure)]) rfl ?_
            refine Rg.pure rfl rfl rfl (Pv.move rfl) ?_
            refine Rg.pure rfl rfl rfl (Pv.asI (i + 1) (Pv.add rfl rfl (by omega)) (by omega)) ?_
            refine Rg.pure rfl rfl rfl (Pv.assign rfl) ?_
            refine Rg.nil ?_
            exact Vc.inv6 (i + 1) X Y _ sx _ ⟨⟨by omega, h2', hS, hX, hY⟩, by omega⟩ (.cons rfl (.cons rfl (.cons rfl (.cons rfl (.cons rfl (.cons rfl (.cons rfl .nil))))))) pulled
    ·
      refine Vc.exit rfl ?_
      refine Vc.seq ?_
      refine Vc.block ?_
      refine Vc.loop5 (fun (X Y : List Rc) (v : Value) (sx sy : Hl) => X.length ≤ 100 ∧ Same X Y ∧ HeapAt b17 X sx ∧ Tl recE v Y sy) (fun X Y v sx sy => [(5, .bool true), (6, .pointer (some ⟨b17, 0, none⟩)), (7, v)]) (fun X Y v sx sy => sx ++ sy) (fun X Y v sx sy => Y.length) X Y _ sx sy ⟨by omega, hS, hX, hY⟩ (.cons rfl (.cons rfl (.cons rfl .nil))) pulled ?_
      rintro X Y v sx sy ⟨h2', hS, hX, hY⟩
      obtain ⟨py, cy, rfl⟩ := hY.shape
      have hlen := hS.len
      refine Vc.seq ?_
      refine Vc.seq ?_
      refine Vc.text (List.range 3) (sd [(0, .pure), (1, .pure), (2, .pure)]) rfl ?_
      refine Rg.pure rfl rfl rfl (Pv.move rfl) ?_
      refine Rg.pure rfl rfl rfl (Pv.lenS rfl) ?_
      refine Rg.pure rfl rfl rfl (Pv.gtr rfl rfl) ?_
      refine Rg.nil ?_
      refine Vc.cond rfl (fun h111 => ?_) (fun h111 => ?_)
      ·
        simp only [decide_eq_true_eq] at h111
        obtain ⟨b, j, c, zs, sp, e, rfl, hzs, hcY⟩ := hY.block (by omega)
        cases e
        refine Vc.skip ?_
        refine Vc.block ?_
        refine Vc.seq ?_
        refine Vc.text (List.range 8) (sd [(0, .pure), (1, .eff), (2, .pure), (3, .pure), (4, .pure), (5, .eff), (6, .eff), (7, .pure)]) rfl ?_
        refine Rg.pure rfl rfl rfl (Pv.move rfl) ?_
        refine Rg.callH rfl rfl rfl (run_callF rfl) (fun F' hF' => pop_hd F' b17 X _ hX (by omega)) rfl ?_
        rintro _ sx' ⟨rfl, hX'⟩
        refine Rg.pure rfl rfl rfl (Pv.move rfl) ?_
        refine Rg.pure rfl rfl rfl (Pv.extract rfl rfl) ?_
        refine Rg.pure rfl rfl rfl (Pv.extract rfl rfl) ?_
        refine Rg.alloc rfl rfl rfl rfl (fun b13 => ?_)
        refine Rg.storeA rfl rfl rfl rfl rfl rfl rfl rfl ?_
        refine Rg.pure rfl rfl rfl (Pv.assign rfl) ?_
        refine Rg.nil ?_
        refine Vc.seq ?_
        refine Vc.seq ?_
        refine Vc.draw [] (sd [(0, .pure), (1, .pure), (2, .pure), (3, .read), (4, .pure), (5, .pure), (6, .read), (7, .pure), (8, .pure)]) mixed (by kernel_rfl) ?_
        refine Rg.pure rfl rfl rfl (Pv.move rfl) ?_
        refine Rg.pure rfl rfl rfl (Pv.not rfl) ?_
        refine Rg.pure rfl rfl rfl (Pv.move rfl) ?_
        refine Rg.split (t := 119) rfl (fun h119 => absurd h119 (by rw [decide_eq_true (show 0 < X.length by omega)]; simp)) (fun h119 => ?_)
        refine Rg.read rfl rfl rfl (Ev.ldA rfl rfl) ?_
        refine Rg.pure rfl rfl rfl (Pv.move rfl) ?_
        refine Rg.pure rfl rfl rfl (Pv.ixA (0) rfl rfl (by omega) (by omega)) ?_
        refine Rg.read rfl rfl rfl (Ev.ldS (0) (Src.tl hY) rfl rfl rfl (by omega)) ?_
        refine Rg.pure rfl rfl rfl (Pv.neqE recE _ _ rfl rfl) ?_
        refine Rg.pure rfl rfl rfl (Pv.pickF rfl rfl) ?_
        refine Rg.nil ?_
        refine Vc.cond rfl (fun h125 => absurd h125 (by simp [hS.first (by omega)])) (fun h125 => ?_)
        refine Vc.skip ?_
        refine Vc.text (List.range 3) (sd [(0, .pure), (1, .pure), (2, .pure)]) rfl ?_
        refine Rg.pure rfl rfl rfl (Pv.move rfl) ?_
        refine Rg.pure rfl rfl rfl (Pv.slFrom (1) rfl rfl (by omega) (by omega)) ?_
        refine Rg.pure rfl rfl rfl (Pv.assign rfl) ?_
        refine Rg.nil ?_
        refine Vc.blk ?_
        exact Vc.inv5 (popL X) (Y.drop 1) _ sx' [(b, rowS recE zs sp)] ⟨⟨by rw [popL_length]; omega, hS.pop (by omega), hX', Tl.tail hzs (by omega) hcY⟩, by simp; omega⟩ (.cons rfl (.cons rfl (.cons rfl .nil))) pulled
      ·
        simp only [decide_eq_false_iff_not] at h111
        refine Vc.exit rfl ?_
        refine Vc.seq ?_
        refine Vc.text (List.range 7) (sd [(0, .pure), (1, .pure), (2, .pure), (3, .eff), (4, .pure), (5, .pure), (6, .pure)]) rfl ?_
        refine Rg.pure rfl rfl rfl (Pv.move rfl) ?_
        refine Rg.pure rfl rfl rfl (Pv.move rfl) ?_
        refine Rg.split (t := 129) rfl (fun h129 => ?_) (fun h129 => absurd h129 (by simp))
        refine Rg.pure rfl rfl rfl (Pv.move rfl) ?_
        refine Rg.callP rfl rfl rfl (run_callF rfl) (len_at hX frz_sb) ?_
        rintro _ rfl
        refine Rg.pure rfl rfl rfl (Pv.eql rfl rfl) ?_
        refine Rg.pure rfl rfl rfl (Pv.pickT rfl rfl) ?_
        refine Rg.pure rfl rfl rfl (Pv.assign rfl) ?_
        refine Rg.nil ?_
        refine Vc.ret (Vc.rets rfl (.cons (.tmp rfl) (.nil)) ?_)
        exact congrArg Value.bool (by have e0 : X.length = 0 := (by omega); rw [e0]; rfl)
end Go.Proofs.Ytbhgbhhdpcehbaa
