/- The statements' functions: DiskSynced. -/
import Derived.Test.YtmocncadncgaaaaDk3
namespace Go.Proofs.Ytmocncadncgaaaa
set_option linter.unusedVariables false

/-! ### A row of rows of bytes -/
structure Sv where
  p : Option Addr
  m : Nat
  c : Nat
  deriving Inhabited
abbrev Sv.v (s : Sv) : Value := .slice s.p s.m s.c
def slE : Enc Sv where
  k := 1
  tid := 29
  cells := fun s => [s.v]
  val := fun s => s.v
  pos := by decide
  len := fun _ => rfl
  one := fun x v hv => by simp at hv; subst hv; rfl
  vc := fun _ => rfl
instance : RowTy Try.prog slE 29 := ⟨Try.sizeOf29, .inr ⟨Try.isAgg29, rfl, fun _ => rfl⟩⟩
/-- A row of rows that may be read. -/
structure ArgRB (F : Fm) (v : Value) (vs : List Sv) (xss : List (List UInt8)) : Prop where
  top : Arg slE F v vs
  len : vs.length = xss.length
  rows : ∀ i, i < xss.length → Arg byteE F vs[i]!.v xss[i]!
/-- what the i-th piece is, cut -/
theorem ArgRB.piece {F : Fm} {v : Value} {vs : List Sv} {xss : List (List UInt8)} (h : ArgRB F v vs xss) {i : Nat} (hi : i < vs.length) : ∃ pk ck ys b, vs[i]! = (⟨pk, ys, ck⟩ : Sv) ∧ b.length = min ys 60 ∧ b = xss[i]!.take 60 ∧ b.length ≤ ck ∧ Arg byteE F (.slice pk b.length ck) b := by
  have hr := h.rows i (by rw [← h.len]; exact hi)
  obtain ⟨⟨pk, mk, ck⟩, hs⟩ : ∃ s, vs[i]! = s := ⟨_, rfl⟩
  rw [hs] at hr
  obtain rfl : mk = xss[i]!.length := hr.cap.1
  obtain ⟨b, h1, h2, h3, h4⟩ := hr.upTo 60
  rw [← h1] at h3 h4
  exact ⟨pk, ck, xss[i]!.length, b, hs, h1, h2, h3, h4⟩

/-! ### Strings -/
section
variable {P : Program} {n : Nf} {F : Fm} {l : Env} {hl : Hl} {d : Option Tmp} {ty : TypeId} {pos : String} {af : Array Edge} {g : Option (Nat × Bool)}
theorem Pv.addS {t t' : TypeId} {x y : Operand} {p q : ByteArray} (hx : ev l x = some (.string p)) (hy : ev l y = some (.string q)) (h : p.size + q.size ≤ 9223372036854775807) : Pv P n l ⟨d, .binOp .add t x y t', ty, pos, af, g⟩ (.string (p ++ q)) := fun a w hf => by
  have : ¬ (((p.size + q.size : Nat) : Int) > IntKind.i64.max) := by show ¬ (_ > (9223372036854775807 : Int)); omega
  simp [execOp, hf.ev hx, hf.ev hy, eqGuard, binOp, Op.stringOp]
  omega
end
theorem str_app (a b : List UInt8) : (⟨a.toArray⟩ : ByteArray) ++ ⟨b.toArray⟩ = ⟨(a ++ b).toArray⟩ := by
  apply ByteArray.ext
  simp

/-! ### What a crash leaves of a file whose front was synced -/
theorem putAt_get {l bs : List UInt8} {k j : Nat} (hk : k ≤ l.length) : (putAt l k bs)[j]? = if j < k then l[j]? else if j < k + bs.length then bs[j - k]? else l[j]? := by
  unfold putAt
  have hlt : (l.take k).length = k := by simp; omega
  by_cases h1 : j < k
  · rw [if_pos h1, List.append_assoc, List.getElem?_append_left (by omega), List.getElem?_take_of_lt h1]
  · rw [if_neg h1]
    by_cases h2 : j < k + bs.length
    · rw [if_pos h2, List.getElem?_append_left (by simp; omega), List.getElem?_append_right (by omega), hlt]
    · rw [if_neg h2, List.getElem?_append_right (by simp; omega), List.getElem?_drop]
      congr 1
      simp
      omega
theorem piece_get {l : List UInt8} {a b j : Nat} (h : j < b - a) : (piece l a b)[j]? = l[a + j]? := by
  unfold piece
  rw [List.getElem?_take_of_lt h, List.getElem?_drop]
/-- each byte is as it was written, or behind what was synced and 0 -/
def Kept (now synced st : List UInt8) : Prop := synced.length ≤ st.length ∧ ∀ j, j < st.length → st[j]? = now[j]? ∨ (synced.length ≤ j ∧ st[j]? = some 0)
theorem torn_kept {now synced : List UInt8} {ks : List Bool} (hpre : ∀ j, j < synced.length → synced[j]? = now[j]?) : ∀ n, 16 * n < now.length + 16 → Kept now synced (tornG now synced ks n).1
  | 0, _ => ⟨Nat.le_refl _, fun j hj => .inl (hpre j hj)⟩
  | n + 1, hn => by
    obtain ⟨h1, h2⟩ := torn_kept hpre (ks := ks) n (by omega)
    rw [tornG_succ, tornStep]
    split
    · exact ⟨h1, h2⟩
    · split
      · have ht : 16 * n ≤ secTo now n ∧ secTo now n ≤ now.length := by unfold secTo; omega
        have hp : (piece now (16 * n) (secTo now n)).length = secTo now n - 16 * n := by simp [piece]; omega
        have hpl : (padTo (tornG now synced ks n).1 (secTo now n)).length = max (tornG now synced ks n).1.length (secTo now n) := by simp [padTo]; omega
        have hle : 16 * n ≤ (padTo (tornG now synced ks n).1 (secTo now n)).length := by omega
        have hl := putAt_length (bs := piece now (16 * n) (secTo now n)) hle
        refine ⟨by show synced.length ≤ (putAt _ _ _).length; rw [hl]; omega, fun j hj => ?_⟩
        have hj' : j < max (tornG now synced ks n).1.length (secTo now n) := by
          have hj2 : j < (putAt (padTo (tornG now synced ks n).1 (secTo now n)) (16 * n) (piece now (16 * n) (secTo now n))).length := hj
          rw [hl] at hj2
          omega
        show (putAt (padTo (tornG now synced ks n).1 (secTo now n)) (16 * n) (piece now (16 * n) (secTo now n)))[j]? = _ ∨ _ ∧ (putAt (padTo (tornG now synced ks n).1 (secTo now n)) (16 * n) (piece now (16 * n) (secTo now n)))[j]? = _
        rw [putAt_get hle]
        have old : (padTo (tornG now synced ks n).1 (secTo now n))[j]? = now[j]? ∨ synced.length ≤ j ∧ (padTo (tornG now synced ks n).1 (secTo now n))[j]? = some 0 := by
          unfold padTo
          by_cases hjl : j < (tornG now synced ks n).1.length
          · rw [List.getElem?_append_left hjl]
            exact h2 j hjl
          · rw [List.getElem?_append_right (by omega), List.getElem?_replicate]
            exact .inr ⟨by omega, by rw [if_pos (by omega)]⟩
        by_cases c1 : j < 16 * n
        · rw [if_pos c1]; exact old
        · rw [if_neg c1]
          by_cases c2 : j < 16 * n + (piece now (16 * n) (secTo now n)).length
          · rw [if_pos c2, piece_get (by omega)]
            left
            congr 1
            omega
          · rw [if_neg c2]; exact old
      · exact ⟨h1, h2⟩
theorem Kept.front {now synced st : List UInt8} (h : Kept now synced st) (hpre : ∀ j, j < synced.length → synced[j]? = now[j]?) : st.take synced.length = synced := by
  apply List.ext_getElem?
  intro j
  by_cases hj : j < synced.length
  · rw [List.getElem?_take_of_lt hj, hpre j hj]
    rcases h.2 j (by have := h.1; omega) with h | ⟨h, _⟩
    · exact h
    · omega
  · rw [List.getElem?_eq_none (by simp; omega), List.getElem?_eq_none (by omega)]
theorem read1to {k : List UInt8} {now sy : List UInt8} {room ops : Int} {m : Nat} (h : m ≤ now.length) : readD (d1 k ⟨now, sy⟩ room ops false) k 0 (m : Nat) = (now.take m, 0) := by
  simp only [readD, begins1, find1]
  rw [if_neg (by decide), if_neg (by omega), Int.toNat_natCast, Int.toNat_zero, List.drop_zero]

set_option maxHeartbeats 1000000 in
theorem DiskSynced_spec (F : Fm) (v0 v1 v2 : Value) (xs : List UInt8) (ls : List Sv) (xss : List (List UInt8)) (ks : List Bool) (h0 : Arg byteE F v0 xs) (hr : ArgRB F v1 ls xss) (h2 : Arg boolE F v2 ks) :
    Spec Try.prog 7 #[v0, v1, v2] F [] fun v _ => v = .bool true := by
  obtain ⟨p0, c0, rfl⟩ := h0.shape
  obtain ⟨p1, c1, rfl⟩ := hr.top.shape
  obtain ⟨p2, c2, rfl⟩ := h2.shape
  obtain ⟨b, hbl, _, hbc, hb⟩ := h0.upTo 60
  obtain ⟨q, hq, _, hqc, hqa⟩ := h2.upTo 60
  rw [← hbl] at hb hbc
  rw [← hq] at hqa hqc
  have hrt := hr.top
  refine Spec.of (n := 165) (vs := [.slice p0 xs.length c0, .slice p1 ls.length c1, .slice p2 ks.length c2]) Try.func7 rfl Try.ntmps7 rfl ?_
  refine Vc.seq ?_
  refine Vc.text (List.range 1) (sd [(0, .pure)]) rfl ?_
  refine Rg.pure rfl rfl rfl (Pv.assign rfl) ?_
  refine Rg.nil ?_
  refine Vc.seq ?_
  refine Vc.text (List.range 2) (sd [(0, .eff), (1, .pure)]) rfl ?_
  refine Rg.callP rfl rfl rfl (run_callF rfl) (shown_spec _) ?_
  rintro _ rfl
  refine Rg.pure rfl rfl rfl (Pv.assign rfl) ?_
  refine Rg.nil ?_
  refine Vc.seq ?_
  refine Vc.text (List.range 6) (sd [(0, .pure), (1, .pure), (2, .pure), (3, .pure), (4, .pure), (5, .pure)]) rfl ?_
  refine Rg.pure rfl rfl rfl (Pv.move rfl) ?_
  refine Rg.pure rfl rfl rfl (Pv.move rfl) ?_
  refine Rg.pure rfl rfl rfl (Pv.lenS rfl) ?_
  refine Rg.pure rfl rfl rfl (Pv.asI (b.length) (Pv.min rfl rfl) (by omega)) ?_
  refine Rg.pure rfl rfl rfl (Pv.slTo (b.length) rfl rfl (by omega)) ?_
  refine Rg.pure rfl rfl rfl (Pv.assign rfl) ?_
  refine Rg.nil ?_
  refine Vc.seq ?_
  refine Vc.text (List.range 6) (sd [(0, .pure), (1, .pure), (2, .pure), (3, .pure), (4, .pure), (5, .pure)]) rfl ?_
  refine Rg.pure rfl rfl rfl (Pv.move rfl) ?_
  refine Rg.pure rfl rfl rfl (Pv.move rfl) ?_
  refine Rg.pure rfl rfl rfl (Pv.lenS rfl) ?_
  refine Rg.pure rfl rfl rfl (Pv.asI (q.length) (Pv.min rfl rfl) (by omega)) ?_
  refine Rg.pure rfl rfl rfl (Pv.slTo (q.length) rfl rfl (by omega)) ?_
  refine Rg.pure rfl rfl rfl (Pv.assign rfl) ?_
  refine Rg.nil ?_
  refine Vc.seq ?_
  refine Vc.text (List.range 2) (sd [(0, .eff), (1, .pure)]) rfl ?_
  refine Rg.callA rfl rfl rfl (run_callF rfl) (new_w _ 1000 1000 (by decide)) ?_
  rintro _ s33 ⟨db, rfl, hD33, hw33⟩
  refine Rg.pure rfl rfl rfl (Pv.assign rfl) ?_
  refine Rg.nil ?_
  refine Vc.seq ?_
  refine Vc.seq ?_
  refine Vc.text (List.range 2) (sd [(0, .pure), (1, .pure)]) rfl ?_
  refine Rg.pure rfl rfl rfl (Pv.move rfl) ?_
  refine Rg.pure rfl rfl rfl (Pv.eqlNil rfl rfl) ?_
  refine Rg.nil ?_
  refine Vc.cond rfl (fun h35 => absurd h35 (by (cases h35))) (fun h35 => ?_)
  refine Vc.skip ?_
  refine Vc.seq ?_
  refine Vc.text (List.range 3) (sd [(0, .pure), (1, .eff), (2, .pure)]) rfl ?_
  refine Rg.pure rfl rfl rfl (Pv.move rfl) ?_
  refine Rg.callH rfl rfl rfl (run_callF rfl) (fun F' hF' => create_w (F := F') hD33 hw33 (by omega) (by omega) [102] (create1 (by decide))) rfl ?_
  rintro _ s37 ⟨rfl, hD37, hw37⟩
  refine Rg.pure rfl rfl rfl (Pv.assign rfl) ?_
  refine Rg.nil ?_
  refine Vc.seq ?_
  refine Vc.text (List.range 4) (sd [(0, .pure), (1, .pure), (2, .eff), (3, .pure)]) rfl ?_
  refine Rg.pure rfl rfl rfl (Pv.move rfl) ?_
  refine Rg.pure rfl rfl rfl (Pv.move rfl) ?_
  refine Rg.callH rfl rfl rfl (run_callF rfl) (fun F' hF' => append_w (F := F') hD37 hw37 (by omega) (by omega) [102] (hb.mono fun b o h => hF' b o (.inr h)) (by omega) (app1 b (by simp [secs]; omega))) rfl ?_
  rintro _ s40 ⟨rfl, hD40, hw40⟩
  rw [List.nil_append] at hD40 hw40
  refine Rg.pure rfl rfl rfl (Pv.assign rfl) ?_
  refine Rg.nil ?_
  refine Vc.seq ?_
  refine Vc.text (List.range 3) (sd [(0, .pure), (1, .eff), (2, .pure)]) rfl ?_
  refine Rg.pure rfl rfl rfl (Pv.move rfl) ?_
  refine Rg.callH rfl rfl rfl (run_callF rfl) (fun F' hF' => sync_w (F := F') hD40 hw40 (by omega) (by omega) [102] sync1) rfl ?_
  rintro _ s42 ⟨rfl, hD42, hw42⟩
  refine Rg.pure rfl rfl rfl (Pv.assign rfl) ?_
  refine Rg.nil ?_
  refine Vc.seq ?_
  refine Vc.text (List.range 3) (sd [(0, .pure), (1, .read), (2, .pure)]) rfl ?_
  refine Rg.pure rfl rfl rfl (Pv.move rfl) ?_
  refine Rg.read rfl rfl rfl (Ev.str (hb.src) rfl) ?_
  refine Rg.pure rfl rfl rfl (Pv.assign rfl) ?_
  refine Rg.nil ?_
  refine Vc.seq ?_
  refine Vc.seq ?_
  refine Vc.text (List.range 1) (sd [(0, .pure)]) rfl ?_
  refine Rg.pure rfl rfl rfl (Pv.assign rfl) ?_
  refine Rg.nil ?_
  refine Vc.block ?_
  refine Vc.loop3 (fun (i : Nat) (pp : List UInt8) (s : Hl) => i ≤ 10 ∧ i ≤ ls.length ∧ pp.length ≤ 60 * i ∧ DiskAt db (d1 [102] ⟨b ++ pp, b⟩ 1000 ((3 + i : Nat) : Int) false) s ∧ Dw (3 + i) (b.length + 60 * i) (d1 [102] ⟨b ++ pp, b⟩ 1000 ((3 + i : Nat) : Int) false)) (fun i pp s => [(0, .slice p0 b.length c0), (1, .slice p1 ls.length c1), (2, .slice p2 q.length c2), (7, .bool true), (8, .pointer (some ⟨db, 0, none⟩)), (9, .int .i64 0), (10, .int .i64 0), (11, .int .i64 0), (12, .string ⟨(b ++ pp).toArray⟩), (13, .int .i64 (i : Int))]) (fun i pp s => s) (fun i pp s => 10 - i) 0 [] s42 ⟨by omega, by omega, Nat.zero_le _, by rw [List.append_nil]; exact hD42, by rw [List.append_nil]; exact hw42.mono (by omega) (by omega)⟩ (.cons rfl (.cons rfl (.cons rfl (.cons rfl (.cons rfl (.cons rfl (.cons rfl (.cons rfl (.cons (congrArg (fun x : List UInt8 => some (Value.string ⟨x.toArray⟩)) (List.append_nil b).symm) (.cons rfl .nil)))))))))) pulled ?_
  rintro i pp s ⟨hi10, hil, hpl, hD, hw⟩
  refine Vc.seq ?_
  refine Vc.seq ?_
  refine Vc.cut1 (fun (bb : Bool) => (bb = true → i < ls.length ∧ i < 10)) (fun bb => [(52, .bool bb), (0, .slice p0 b.length c0), (1, .slice p1 ls.length c1), (2, .slice p2 q.length c2), (7, .bool true), (8, .pointer (some ⟨db, 0, none⟩)), (9, .int .i64 0), (10, .int .i64 0), (11, .int .i64 0), (12, .string ⟨(b ++ pp).toArray⟩), (13, .int .i64 (i : Int))]) (fun bb => s) ?_ ?_
  ·
    refine Vc.text (List.range 8) (sd [(0, .pure), (1, .pure), (2, .pure), (3, .pure), (4, .pure), (5, .pure), (6, .pure), (7, .pure)]) rfl ?_
    refine Rg.pure rfl rfl rfl (Pv.move rfl) ?_
    refine Rg.pure rfl rfl rfl (Pv.move rfl) ?_
    refine Rg.pure rfl rfl rfl (Pv.lenS rfl) ?_
    refine Rg.pure rfl rfl rfl (Pv.lss rfl rfl) ?_
    refine Rg.pure rfl rfl rfl (Pv.move rfl) ?_
    refine Rg.split (t := 49) rfl (fun h49 => ?_) (fun h49 => ?_)
    ·
      simp only [decide_eq_true_eq] at h49
      refine Rg.pure rfl rfl rfl (Pv.move rfl) ?_
      refine Rg.pure rfl rfl rfl (Pv.lss rfl rfl) ?_
      refine Rg.pure rfl rfl rfl (Pv.pickT rfl rfl) ?_
      refine Rg.nil ?_
      exact Vc.inv1 _ (fun hb => ⟨by omega, by have := of_decide_eq_true hb; omega⟩) (.cons rfl (.cons rfl (.cons rfl (.cons rfl (.cons rfl (.cons rfl (.cons rfl (.cons rfl (.cons rfl (.cons rfl (.cons rfl .nil))))))))))) pulled
    ·
      simp only [decide_eq_false_iff_not] at h49
      iterate 2 (first | refine Rg.skipP rfl rfl rfl ?_ | refine Rg.skipR rfl rfl rfl ?_ | refine Rg.skipE rfl rfl rfl ?_)
      refine Rg.pure rfl rfl rfl (Pv.pickF rfl rfl) ?_
      refine Rg.nil ?_
      exact Vc.inv1 _ (fun hb => by cases hb) (.cons rfl (.cons rfl (.cons rfl (.cons rfl (.cons rfl (.cons rfl (.cons rfl (.cons rfl (.cons rfl (.cons rfl (.cons rfl .nil))))))))))) pulled
  ·
    rintro bb hbb
    refine Vc.cond rfl (fun h52 => ?_) (fun h52 => ?_)
    ·
      obtain ⟨hix, hi10'⟩ := hbb h52
      obtain ⟨pk, ck, ys, pc, hsk, hpcl, _, hpcc, hpca⟩ := hr.piece hix
      obtain ⟨bl, off, c', e, _⟩ := hrt.block (by omega)
      cases e
      refine Vc.skip ?_
      refine Vc.seq ?_
      refine Vc.block ?_
      refine Vc.seq ?_
      refine Vc.drawS [] (sd [(0, .pure), (1, .pure), (2, .pure), (3, .read), (4, .pure), (5, .pure), (6, .pure), (7, .read), (8, .pure), (9, .pure), (10, .pure), (11, .pure)]) [] pulled mixed (by kernel_rfl) ?_
      refine Rg.pure rfl rfl rfl (Pv.move rfl) ?_
      refine Rg.pure rfl rfl rfl (Pv.move rfl) ?_
      refine Rg.pure rfl rfl rfl (Pv.ixA (i) rfl rfl (by omega) (by omega)) ?_
      refine Rg.read rfl rfl rfl (Ev.as (.slice pk ys ck) (Ev.ldS (E := slE) i hrt.src rfl rfl rfl (by omega)) (congrArg slE.val hsk)) ?_
      refine Rg.pure rfl rfl rfl (Pv.move rfl) ?_
      refine Rg.pure rfl rfl rfl (Pv.move rfl) ?_
      refine Rg.pure rfl rfl rfl (Pv.ixA (i) rfl rfl (by omega) (by omega)) ?_
      refine Rg.read rfl rfl rfl (Ev.as (.slice pk ys ck) (Ev.ldS (E := slE) i hrt.src rfl rfl rfl (by omega)) (congrArg slE.val hsk)) ?_
      refine Rg.pure rfl rfl rfl (Pv.lenS rfl) ?_
      refine Rg.pure rfl rfl rfl (Pv.asI (pc.length) (Pv.min rfl rfl) (by omega)) ?_
      refine Rg.pure rfl rfl rfl (Pv.slTo (pc.length) rfl rfl (by omega)) ?_
      refine Rg.pure rfl rfl rfl (Pv.assign rfl) ?_
      refine Rg.nil ?_
      refine Vc.seq ?_
      refine Vc.seq ?_
      refine Vc.text (List.range 4) (sd [(0, .pure), (1, .pure), (2, .eff), (3, .pure)]) rfl ?_
      refine Rg.pure rfl rfl rfl (Pv.move rfl) ?_
      refine Rg.pure rfl rfl rfl (Pv.move rfl) ?_
      refine Rg.callH rfl rfl rfl (run_callF rfl) (fun F' hF' => append_w (F := F') hD hw (by omega) (by omega) [102] (hpca.mono fun b o h => hF' b o (.inr h)) (by omega) (app1 pc (by simp [secs]; omega))) rfl ?_
      rintro _ s68 ⟨rfl, hD68, hw68⟩
      rw [List.append_assoc] at hD68 hw68
      refine Rg.pure rfl rfl rfl (Pv.neq rfl rfl) ?_
      refine Rg.nil ?_
      refine Vc.cond rfl (fun h69 => absurd h69 (by decide)) (fun h69 => ?_)
      refine Vc.skip ?_
      refine Vc.text (List.range 5) (sd [(0, .pure), (1, .pure), (2, .read), (3, .pure), (4, .pure)]) rfl ?_
      refine Rg.pure rfl rfl rfl (Pv.move rfl) ?_
      refine Rg.pure rfl rfl rfl (Pv.move rfl) ?_
      refine Rg.read rfl rfl rfl (Ev.str (hpca.src) rfl) ?_
      refine Rg.pure rfl rfl rfl (Pv.as (.string ⟨(b ++ (pp ++ pc)).toArray⟩) (Pv.addS rfl rfl (by show (b ++ pp).toArray.size + pc.toArray.size ≤ _; simp; omega)) (by rw [str_app, List.append_assoc])) ?_
      refine Rg.pure rfl rfl rfl (Pv.assign rfl) ?_
      refine Rg.nil ?_
      refine Vc.blk ?_
      refine Vc.text (List.range 3) (sd [(0, .pure), (1, .pure), (2, .pure)]) rfl ?_
      refine Rg.pure rfl rfl rfl (Pv.move rfl) ?_
      refine Rg.pure rfl rfl rfl (Pv.asI (i + 1) (Pv.add rfl rfl (by omega)) (by omega)) ?_
      refine Rg.pure rfl rfl rfl (Pv.assign rfl) ?_
      refine Rg.nil ?_
      exact Vc.inv3 (i + 1) (pp ++ pc) s68 ⟨⟨by omega, by omega, by simp; omega, hD68, hw68.mono (by omega) (by omega)⟩, by omega⟩ (.cons rfl (.cons rfl (.cons rfl (.cons rfl (.cons rfl (.cons rfl (.cons rfl (.cons rfl (.cons rfl (.cons rfl .nil)))))))))) pulled
    ·
      have hpre : ∀ j, j < b.length → b[j]? = (b ++ pp)[j]? := fun j hj => (List.getElem?_append_left hj).symm
      have hkp := torn_kept (ks := q) hpre (secs (b ++ pp).length) (by unfold secs; omega)
      have hfr := hkp.front hpre
      have htl : (tornG (b ++ pp) b q (secs (b ++ pp).length)).1.length ≤ (b ++ pp).length := tornG_len (by simp) (Nat.le_refl _) _ (by unfold secs; omega)
      refine Vc.exit rfl ?_
      refine Vc.seq ?_
      refine Vc.text (List.range 3) (sd [(0, .pure), (1, .pure), (2, .eff)]) rfl ?_
      refine Rg.pure rfl rfl rfl (Pv.move rfl) ?_
      refine Rg.pure rfl rfl rfl (Pv.move rfl) ?_
      refine Rg.callH rfl rfl rfl (run_callF rfl) (fun F' hF' => crash_w (F := F') hD hw (by omega) (by omega) (hqa.mono fun b o h => hF' b o (.inr h)) (crash1 q)) rfl ?_
      rintro v76 s76 ⟨hD76, hw76⟩
      generalize (tornG (b ++ pp) b q (secs (b ++ pp).length)).1 = t at hD76 hw76 hkp hfr htl
      obtain ⟨hk1, hk2⟩ := hkp
      have hal : (b ++ pp).length = b.length + pp.length := by simp
      refine Rg.nil ?_
      refine Vc.seq ?_
      refine Vc.text (List.range 2) (sd [(0, .pure), (1, .eff)]) rfl ?_
      refine Rg.pure rfl rfl rfl (Pv.move rfl) ?_
      refine Rg.callH rfl rfl rfl (run_callF rfl) (fun F' hF' => restart_w (F := F') hD76 hw76) rfl ?_
      rintro v78 s78 ⟨hD78, hw78⟩
      refine Rg.nil ?_
      refine Vc.seq ?_
      refine Vc.text (List.range 7) (sd [(0, .pure), (1, .eff), (2, .pure), (3, .pure), (4, .pure), (5, .pure), (6, .pure)]) rfl ?_
      refine Rg.pure rfl rfl rfl (Pv.move rfl) ?_
      refine Rg.callH rfl rfl rfl (run_callF rfl) (fun F' hF' => size_w (F := F') hD78 hw78 (by omega) (by omega) [102] size1 (congrArg Prod.snd begins1)) rfl ?_
      rintro _ s81 ⟨rfl, hD81, hw81⟩
      refine Rg.pure rfl rfl rfl (Pv.move rfl) ?_
      refine Rg.pure rfl rfl rfl (Pv.extract rfl rfl) ?_
      refine Rg.pure rfl rfl rfl (Pv.extract rfl rfl) ?_
      refine Rg.pure rfl rfl rfl (Pv.assign rfl) ?_
      refine Rg.pure rfl rfl rfl (Pv.assign rfl) ?_
      refine Rg.nil ?_
      refine Vc.seq ?_
      refine Vc.text (List.range 9) (sd [(0, .pure), (1, .pure), (2, .pure), (3, .eff), (4, .pure), (5, .pure), (6, .pure), (7, .pure), (8, .pure)]) rfl ?_
      refine Rg.pure rfl rfl rfl (Pv.move rfl) ?_
      refine Rg.pure rfl rfl rfl (Pv.move rfl) ?_
      refine Rg.pure rfl rfl rfl (Pv.lenS rfl) ?_
      refine Rg.callH rfl rfl rfl (run_callF rfl) (fun F' hF' => readAt_w (F := F') hD81 hw81 (by omega) (by omega) [102] 0 (b.length : Nat) (read1to hk1) (congrArg Prod.snd begins1)) rfl ?_
      rintro _ _ ⟨u88, q88, s88, rfl, own88, hD88, hw88, rfl⟩
      rw [List.append_assoc]
      refine Rg.pure rfl rfl rfl (Pv.move rfl) ?_
      refine Rg.pure rfl rfl rfl (Pv.extract rfl rfl) ?_
      refine Rg.pure rfl rfl rfl (Pv.extract rfl rfl) ?_
      refine Rg.pure rfl rfl rfl (Pv.assign rfl) ?_
      refine Rg.pure rfl rfl rfl (Pv.assign rfl) ?_
      refine Rg.nil ?_
      refine Vc.seq ?_
      refine Vc.seq ?_
      refine Vc.text (List.range 37) (sd [(0, .pure), (1, .pure), (2, .pure), (3, .pure), (4, .pure), (5, .pure), (6, .pure), (7, .pure), (8, .pure), (9, .pure), (10, .pure), (11, .pure), (12, .pure), (13, .pure), (14, .pure), (15, .pure), (16, .pure), (17, .pure), (18, .pure), (19, .pure), (20, .read), (21, .pure), (22, .read), (23, .pure), (24, .pure), (25, .pure), (26, .pure), (27, .pure), (28, .pure), (29, .pure), (30, .pure), (31, .pure), (32, .pure), (33, .pure), (34, .pure), (35, .pure), (36, .pure)]) rfl ?_
      refine Rg.pure rfl rfl rfl (Pv.move rfl) ?_
      refine Rg.pure rfl rfl rfl (Pv.neq rfl rfl) ?_
      refine Rg.pure rfl rfl rfl (Pv.move rfl) ?_
      refine Rg.split (t := 93) rfl (fun h93 => absurd h93 (by decide)) (fun h93 => ?_)
      refine Rg.pure rfl rfl rfl (Pv.move rfl) ?_
      refine Rg.pure rfl rfl rfl (Pv.neq rfl rfl) ?_
      refine Rg.pure rfl rfl rfl (Pv.pickF rfl rfl) ?_
      refine Rg.pure rfl rfl rfl (Pv.move rfl) ?_
      refine Rg.split (t := 97) rfl (fun h97 => absurd h97 (by decide)) (fun h97 => ?_)
      refine Rg.pure rfl rfl rfl (Pv.move rfl) ?_
      refine Rg.pure rfl rfl rfl (Pv.neq rfl rfl) ?_
      refine Rg.pure rfl rfl rfl (Pv.pickF rfl rfl) ?_
      refine Rg.pure rfl rfl rfl (Pv.move rfl) ?_
      refine Rg.split (t := 101) rfl (fun h101 => absurd h101 (by decide)) (fun h101 => ?_)
      refine Rg.pure rfl rfl rfl (Pv.move rfl) ?_
      refine Rg.pure rfl rfl rfl (Pv.neq rfl rfl) ?_
      refine Rg.pure rfl rfl rfl (Pv.pickF rfl rfl) ?_
      refine Rg.pure rfl rfl rfl (Pv.move rfl) ?_
      refine Rg.split (t := 105) rfl (fun h105 => absurd h105 (by decide)) (fun h105 => ?_)
      refine Rg.pure rfl rfl rfl (Pv.move rfl) ?_
      refine Rg.pure rfl rfl rfl (Pv.neq rfl rfl) ?_
      refine Rg.pure rfl rfl rfl (Pv.pickF rfl rfl) ?_
      refine Rg.pure rfl rfl rfl (Pv.move rfl) ?_
      refine Rg.split (t := 109) rfl (fun h109 => absurd h109 (by decide)) (fun h109 => ?_)
      refine Rg.pure rfl rfl rfl (Pv.move rfl) ?_
      refine Rg.read rfl rfl rfl (Ev.str ((Arg.own (F := frz F q88) own88 fun b o hb => Or.inl hb).srcF) rfl) ?_
      refine Rg.pure rfl rfl rfl (Pv.move rfl) ?_
      refine Rg.read rfl rfl rfl (Ev.str (hb.src) rfl) ?_
      refine Rg.pure rfl rfl rfl (Pv.neqS rfl rfl) ?_
      refine Rg.pure rfl rfl rfl (Pv.pickF rfl rfl) ?_
      refine Rg.pure rfl rfl rfl (Pv.move rfl) ?_
      refine Rg.split (t := 116) rfl (fun h116 => absurd h116 (by simp [hfr])) (fun h116 => ?_)
      refine Rg.pure rfl rfl rfl (Pv.move rfl) ?_
      refine Rg.pure rfl rfl rfl (Pv.move rfl) ?_
      refine Rg.pure rfl rfl rfl (Pv.lenS rfl) ?_
      refine Rg.pure rfl rfl rfl (Pv.lss rfl rfl) ?_
      refine Rg.pure rfl rfl rfl (Pv.pickF rfl rfl) ?_
      refine Rg.pure rfl rfl rfl (Pv.move rfl) ?_
      refine Rg.split (t := 122) rfl (fun h122 => absurd h122 (by simp; omega)) (fun h122 => ?_)
      refine Rg.pure rfl rfl rfl (Pv.move rfl) ?_
      refine Rg.pure rfl rfl rfl (Pv.move rfl) ?_
      refine Rg.pure rfl rfl rfl (Pv.as (.int .i64 ((b ++ pp).length : Int)) (Pv.lenStr rfl) rfl) ?_
      refine Rg.pure rfl rfl rfl (Pv.gtr rfl rfl) ?_
      refine Rg.pure rfl rfl rfl (Pv.pickF rfl rfl) ?_
      refine Rg.nil ?_
      refine Vc.cond rfl (fun h127 => absurd h127 (by simp; omega)) (fun h127 => ?_)
      refine Vc.skip ?_
      refine Vc.seq ?_
      refine Vc.text (List.range 8) (sd [(0, .pure), (1, .pure), (2, .eff), (3, .pure), (4, .pure), (5, .pure), (6, .pure), (7, .pure)]) rfl ?_
      refine Rg.pure rfl rfl rfl (Pv.move rfl) ?_
      refine Rg.pure rfl rfl rfl (Pv.move rfl) ?_
      refine Rg.callH rfl rfl rfl (run_callF rfl) (fun F' hF' => readAt_w (F := F') hD88 hw88 (by omega) (by omega) [102] 0 (t.length : Nat) read1all (congrArg Prod.snd begins1)) rfl ?_
      rintro _ _ ⟨u131, q131, s131, rfl, own131, hD131, hw131, rfl⟩
      rw [List.append_assoc]
      obtain ⟨px, cx, rfl⟩ := own131.shape
      refine Rg.pure rfl rfl rfl (Pv.move rfl) ?_
      refine Rg.pure rfl rfl rfl (Pv.extract rfl rfl) ?_
      refine Rg.pure rfl rfl rfl (Pv.extract rfl rfl) ?_
      refine Rg.pure rfl rfl rfl (Pv.assign rfl) ?_
      refine Rg.pure rfl rfl rfl (Pv.assign rfl) ?_
      refine Rg.nil ?_
      refine Vc.seq ?_
      refine Vc.seq ?_
      refine Vc.text (List.range 8) (sd [(0, .pure), (1, .pure), (2, .pure), (3, .pure), (4, .pure), (5, .pure), (6, .pure), (7, .pure)]) rfl ?_
      refine Rg.pure rfl rfl rfl (Pv.move rfl) ?_
      refine Rg.pure rfl rfl rfl (Pv.neq rfl rfl) ?_
      refine Rg.pure rfl rfl rfl (Pv.move rfl) ?_
      refine Rg.split (t := 136) rfl (fun h136 => absurd h136 (by decide)) (fun h136 => ?_)
      refine Rg.pure rfl rfl rfl (Pv.move rfl) ?_
      refine Rg.pure rfl rfl rfl (Pv.lenS rfl) ?_
      refine Rg.pure rfl rfl rfl (Pv.move rfl) ?_
      refine Rg.pure rfl rfl rfl (Pv.neq rfl rfl) ?_
      refine Rg.pure rfl rfl rfl (Pv.pickF rfl rfl) ?_
      refine Rg.nil ?_
      refine Vc.cond rfl (fun h141 => absurd h141 (by simp)) (fun h141 => ?_)
      refine Vc.skip ?_
      refine Vc.seq ?_
      refine Vc.seq ?_
      refine Vc.text (List.range 3) (sd [(0, .pure), (1, .pure), (2, .pure)]) rfl ?_
      refine Rg.pure rfl rfl rfl (Pv.move rfl) ?_
      refine Rg.pure rfl rfl rfl (Pv.lenS rfl) ?_
      refine Rg.pure rfl rfl rfl (Pv.assign rfl) ?_
      refine Rg.nil ?_
      refine Vc.block ?_
      refine Vc.loop1 (fun (a : Nat) => b.length ≤ a ∧ a ≤ t.length) (fun a => [(7, .bool true), (12, .string ⟨(b ++ pp).toArray⟩), (15, .int .i64 (t.length : Int)), (19, .slice px t.length cx), (21, .int .i64 (a : Int))]) (fun a => q131) (fun a => t.length - a) b.length ⟨Nat.le_refl _, hk1⟩ (.cons rfl (.cons rfl (.cons rfl (.cons rfl (.cons rfl .nil))))) pulled ?_
      rintro a ⟨ha1, ha2⟩
      refine Vc.seq ?_
      refine Vc.seq ?_
      refine Vc.text (List.range 3) (sd [(0, .pure), (1, .pure), (2, .pure)]) rfl ?_
      refine Rg.pure rfl rfl rfl (Pv.move rfl) ?_
      refine Rg.pure rfl rfl rfl (Pv.move rfl) ?_
      refine Rg.pure rfl rfl rfl (Pv.lss rfl rfl) ?_
      refine Rg.nil ?_
      refine Vc.cond rfl (fun h146 => ?_) (fun h146 => ?_)
      ·
        simp only [decide_eq_true_eq] at h146
        have hat : a < t.length := by omega
        obtain ⟨bx, cx', spx, e, rfl, _, _⟩ := own131.block (by omega)
        cases e
        have hkk := hk2 a hat
        have hget : (b ++ pp)[a]? = some (b ++ pp)[a]! := by rw [getElem!_pos _ a (by omega)]; exact List.getElem?_eq_getElem (by omega)
        have hget2 : t[a]? = some t[a]! := by rw [getElem!_pos _ a (by omega)]; exact List.getElem?_eq_getElem (by omega)
        rw [hget, hget2] at hkk
        simp only [Option.some.injEq] at hkk
        refine Vc.skip ?_
        refine Vc.seq ?_
        refine Vc.block ?_
        refine Vc.seq ?_
        refine Vc.draw [] (sd [(0, .pure), (1, .pure), (2, .pure), (3, .read), (4, .pure), (5, .pure), (6, .pure), (7, .pure), (8, .pure), (9, .pure), (10, .pure), (11, .pure), (12, .read), (13, .pure), (14, .pure)]) mixed (by kernel_rfl) ?_
        refine Rg.pure rfl rfl rfl (Pv.move rfl) ?_
        refine Rg.pure rfl rfl rfl (Pv.move rfl) ?_
        refine Rg.pure rfl rfl rfl (Pv.ixA (a) rfl rfl (by omega) (by omega)) ?_
        refine Rg.read rfl rfl rfl (Ev.as (.int .u8 ((t[a]!).toNat : Int)) (Ev.ldR a rfl (Nat.zero_add _) (by omega)) rfl) ?_
        refine Rg.pure rfl rfl rfl (Pv.move rfl) ?_
        refine Rg.pure rfl rfl rfl (Pv.move rfl) ?_
        refine Rg.pure rfl rfl rfl (Pv.as (.int .u8 (((b ++ pp)[a]!).toNat : Int)) (Pv.indexS a rfl rfl (by show (b ++ pp).toArray[a]? = _; simpa using hget)) rfl) ?_
        refine Rg.pure rfl rfl rfl (Pv.neq rfl rfl) ?_
        refine Rg.pure rfl rfl rfl (Pv.move rfl) ?_
        refine Rg.split (t := 157) rfl (fun h157 => ?_) (fun h157 => ?_)
        ·
          simp only [bne_iff_ne, ne_eq] at h157
          have hz : t[a]! = 0 := by rcases hkk with h | ⟨_, h⟩; exact absurd (congrArg (fun x : UInt8 => ((x.toNat : Nat) : Int)) h) h157; exact h
          refine Rg.pure rfl rfl rfl (Pv.move rfl) ?_
          refine Rg.pure rfl rfl rfl (Pv.move rfl) ?_
          refine Rg.pure rfl rfl rfl (Pv.ixA (a) rfl rfl (by omega) (by omega)) ?_
          refine Rg.read rfl rfl rfl (Ev.as (.int .u8 ((t[a]!).toNat : Int)) (Ev.ldR a rfl (Nat.zero_add _) (by omega)) rfl) ?_
          refine Rg.pure rfl rfl rfl (Pv.neq rfl rfl) ?_
          refine Rg.pure rfl rfl rfl (Pv.pickT rfl rfl) ?_
          refine Rg.nil ?_
          refine Vc.cond rfl (fun h163 => absurd h163 (by simp [hz])) (fun h163 => ?_)
          refine Vc.skip ?_
          refine Vc.blk ?_
          refine Vc.text (List.range 3) (sd [(0, .pure), (1, .pure), (2, .pure)]) rfl ?_
          refine Rg.pure rfl rfl rfl (Pv.move rfl) ?_
          refine Rg.pure rfl rfl rfl (Pv.asI (a + 1) (Pv.add rfl rfl (by omega)) (by omega)) ?_
          refine Rg.pure rfl rfl rfl (Pv.assign rfl) ?_
          refine Rg.nil ?_
          exact Vc.inv1 (a + 1) ⟨⟨by omega, by omega⟩, by omega⟩ (.cons rfl (.cons rfl (.cons rfl (.cons rfl (.cons rfl .nil))))) pulled
        ·
          iterate 5 (first | refine Rg.skipP rfl rfl rfl ?_ | refine Rg.skipR rfl rfl rfl ?_ | refine Rg.skipE rfl rfl rfl ?_)
          refine Rg.pure rfl rfl rfl (Pv.pickF rfl rfl) ?_
          refine Rg.nil ?_
          refine Vc.cond rfl (fun h163 => absurd h163 (by decide)) (fun h163 => ?_)
          refine Vc.skip ?_
          refine Vc.blk ?_
          refine Vc.text (List.range 3) (sd [(0, .pure), (1, .pure), (2, .pure)]) rfl ?_
          refine Rg.pure rfl rfl rfl (Pv.move rfl) ?_
          refine Rg.pure rfl rfl rfl (Pv.asI (a + 1) (Pv.add rfl rfl (by omega)) (by omega)) ?_
          refine Rg.pure rfl rfl rfl (Pv.assign rfl) ?_
          refine Rg.nil ?_
          exact Vc.inv1 (a + 1) ⟨⟨by omega, by omega⟩, by omega⟩ (.cons rfl (.cons rfl (.cons rfl (.cons rfl (.cons rfl .nil))))) pulled
      ·
        refine Vc.exit rfl ?_
        refine Vc.seq ?_
        refine Vc.text (List.range 2) (sd [(0, .pure), (1, .pure)]) rfl ?_
        refine Rg.pure rfl rfl rfl (Pv.move rfl) ?_
        refine Rg.pure rfl rfl rfl (Pv.assign rfl) ?_
        refine Rg.nil ?_
        refine Vc.ret (Vc.rets rfl (.cons (.tmp rfl) (.nil)) ?_)
        rfl
end Go.Proofs.Ytmocncadncgaaaa
