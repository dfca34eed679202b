/- Pools: steps; PoolSame. -/
import Derived.Test.YtjhegjcjplpmjaaPlS
namespace Go.Proofs.Ytjhegjcjplpmjaa
set_option linter.unusedVariables false

structure StV where
  kind : Int
  at_ : Int
  n : Int
  other : Bool
  p : Option Addr
  m : Nat
  c : Nat
  deriving Inhabited
abbrev stC (s : StV) : List Value := [.int .i64 s.kind, .int .i64 s.at_, .int .i64 s.n, .bool s.other, .slice s.p s.m s.c]
abbrev stV (s : StV) : Value := .agg #[.int .i64 s.kind, .int .i64 s.at_, .int .i64 s.n, .bool s.other, .slice s.p s.m s.c]
def stE : Enc StV where
  k := 5
  tid := 32
  cells := stC
  val := stV
  pos := by decide
  len := fun _ => rfl
  one := fun x v hv => by simp [stC] at hv; rcases hv with rfl | rfl | rfl | rfl | rfl <;> rfl
  vc := fun _ => rfl
instance : RowTy Try.prog stE 32 := ⟨Try.sizeOf32, .inl ⟨Try.isAgg32, fun _ => rfl⟩⟩
instance : TySl Try.prog 22 stE 56 := ⟨Try.underlying22, Try.t32, .agg #[.int .i64 0, .int .i64 0, .int .i64 0, .bool false, .slice none 0 0], by kernel_rfl, by kernel_rfl, rfl, rfl, rfl⟩
/-- Steps, and the bytes of each. -/
def ArgSt (F : Fm) (v : Value) (ls : List StV) (xss : List (List UInt8)) : Prop := Arg stE F v ls ∧ ∀ i, i < ls.length → Arg byteE F (.slice ls[i]!.p ls[i]!.m ls[i]!.c) xss[i]!
theorem ArgSt.piece {F : Fm} {v : Value} {ls : List StV} {xss : List (List UInt8)} (h : ArgSt F v ls xss) {i : Nat} (hi : i < ls.length) : ∃ b : List UInt8, b.length = min ls[i]!.m 100 ∧ b.length ≤ ls[i]!.c ∧ Arg byteE F (.slice ls[i]!.p b.length ls[i]!.c) b := by
  have h1 := h.2 i hi
  obtain ⟨p, c, e⟩ := h1.shape
  simp only [Value.slice.injEq] at e
  rw [e.2.1] at h1
  obtain ⟨b, hb, _, hc, ha⟩ := h1.upTo 100
  rw [← hb] at ha hc
  exact ⟨b, by rw [hb, e.2.1], hc, ha⟩
theorem oAB_upd {A B nm own own' : List UInt8} (h : oAB A B nm = some own) (hl : own'.length = own.length) : ∃ A' B', setO (oAB A B) nm own' = oAB A' B' ∧ A'.length = A.length ∧ B'.length = B.length := by
  have h' := h
  unfold oAB at h
  split at h
  · next e => cases h; subst e; exact ⟨own', B, oAB_setA _ _ _, hl, rfl⟩
  · split at h
    · next e => cases h; subst e; exact ⟨A, own', oAB_setB _ _ _, rfl, hl⟩
    · cases h
/-- One pool, one disk, while steps are done. -/
structure PlSt where
  nq : Nat
  ck : Nat
  L : List Pl
  P : List (Pl × Pg)
  D : Dk
  h1 : Hl
  h2 : Hl
def PlOk (pb db fr : Nat) (O : List UInt8 → Option (List UInt8)) (b : Nat) (st : PlSt) : Prop := PoolAt pb db fr st.ck st.L st.P st.h1 ∧ DiskAt db st.D st.h2 ∧ Dq st.nq st.D ∧ st.nq ≤ b ∧ st.ck ≤ st.nq ∧ PInv O fr st.D st.L st.P
def nmAt (j : Nat) : List UInt8 := if j = 0 then fA else fB
set_option maxHeartbeats 8000000 in
theorem PoolSame_spec (F : Fm) (z0 z1 : Int) (v2 : Value) (ls : List StV) (xss : List (List UInt8)) (ha : ArgSt F v2 ls xss) : Spec Try.prog 4 #[.int .i64 z0, .int .i64 z1, v2] F [] fun v _ => v = .bool true := by
  obtain ⟨p2, c2, rfl⟩ := ha.1.shape
  have hcap1 := ha.1.cap
  obtain ⟨fr, hfr⟩ : ∃ fr, fr = 1 + andN z0 65535 % 12 := ⟨_, rfl⟩
  obtain ⟨gr, hgr⟩ : ∃ gr, gr = 1 + andN z1 65535 % 12 := ⟨_, rfl⟩
  have hA0 : (seqA 200).length = 200 := seqA_len 200
  have hB0 : (seqB 100).length = 100 := seqB_len 100
  refine Spec.of (n := 182) (vs := [.int .i64 z0, .int .i64 z1, .slice p2 ls.length c2]) Try.func4 rfl Try.ntmps4 rfl ?_
  refine Vc.seq ?_
  refine Vc.text (List.range 1) (sd [(0, .pure)]) rfl ?_
  refine Rg.pure rfl rfl rfl (Pv.assign rfl) ?_
  refine Rg.nil ?_
  refine Vc.seq ?_
  refine Vc.text (List.range 2) (sd [(0, .eff), (1, .pure)]) rfl ?_
  refine Rg.callA rfl rfl rfl (run_callF rfl) (shown_spec _) ?_
  rintro _ s26 rfl
  refine Rg.pure rfl rfl rfl (Pv.assign rfl) ?_
  refine Rg.nil ?_
  refine Vc.seq ?_
  refine Vc.text (List.range 2) (sd [(0, .eff), (1, .pure)]) rfl ?_
  refine Rg.callA rfl rfl rfl (run_callF rfl) (made_spec _ 200 100 (by omega) (by omega)) ?_
  rintro _ s27 ⟨db, rfl, hD27, hw27⟩
  refine Rg.pure rfl rfl rfl (Pv.assign rfl) ?_
  refine Rg.nil ?_
  refine Vc.seq ?_
  refine Vc.text (List.range 2) (sd [(0, .eff), (1, .pure)]) rfl ?_
  refine Rg.callA rfl rfl rfl (run_callF rfl) (made_spec _ 200 100 (by omega) (by omega)) ?_
  rintro _ s28 ⟨eb, rfl, hD28, hw28⟩
  refine Rg.pure rfl rfl rfl (Pv.assign rfl) ?_
  refine Rg.nil ?_
  refine Vc.seq ?_
  refine Vc.seq ?_
  refine Vc.text (List.range 6) (sd [(0, .pure), (1, .pure), (2, .pure), (3, .pure), (4, .pure), (5, .pure)]) rfl ?_
  refine Rg.pure rfl rfl rfl (Pv.move rfl) ?_
  refine Rg.pure rfl rfl rfl (Pv.eqlNil rfl rfl) ?_
  refine Rg.pure rfl rfl rfl (Pv.move rfl) ?_
  refine Rg.split (t := 31) rfl (fun h31 => absurd h31 (by (intro h; cases h))) (fun h31 => ?_)
  refine Rg.pure rfl rfl rfl (Pv.move rfl) ?_
  refine Rg.pure rfl rfl rfl (Pv.eqlNil rfl rfl) ?_
  refine Rg.pure rfl rfl rfl (Pv.pickF rfl rfl) ?_
  refine Rg.nil ?_
  refine Vc.cond rfl (fun h34 => absurd h34 (by (intro h; cases h))) (fun h34 => ?_)
  refine Vc.skip ?_
  refine Vc.seq ?_
  refine Vc.text (List.range 7) (sd [(0, .pure), (1, .pure), (2, .pure), (3, .pure), (4, .pure), (5, .eff), (6, .pure)]) rfl ?_
  refine Rg.pure rfl rfl rfl (Pv.move rfl) ?_
  refine Rg.pure rfl rfl rfl (Pv.move rfl) ?_
  refine Rg.pure rfl rfl rfl (Pv.and rfl rfl (by omega)) ?_
  refine Rg.pure rfl rfl rfl (Pv.rem rfl rfl (by omega)) ?_
  refine Rg.pure rfl rfl rfl (Pv.asI (fr) (Pv.add rfl rfl (by omega)) (by omega)) ?_
  refine Rg.callA rfl rfl rfl (run_callF rfl) (newPool_spec _ db (fr : Int) (by omega)) ?_
  rintro _ s40 ⟨pb, rfl, hP40⟩
  rw [show (max (fr : Int) 1).toNat = fr by omega] at hP40
  refine Rg.pure rfl rfl rfl (Pv.assign rfl) ?_
  refine Rg.nil ?_
  refine Vc.seq ?_
  refine Vc.text (List.range 7) (sd [(0, .pure), (1, .pure), (2, .pure), (3, .pure), (4, .pure), (5, .eff), (6, .pure)]) rfl ?_
  refine Rg.pure rfl rfl rfl (Pv.move rfl) ?_
  refine Rg.pure rfl rfl rfl (Pv.move rfl) ?_
  refine Rg.pure rfl rfl rfl (Pv.and rfl rfl (by omega)) ?_
  refine Rg.pure rfl rfl rfl (Pv.rem rfl rfl (by omega)) ?_
  refine Rg.pure rfl rfl rfl (Pv.asI (gr) (Pv.add rfl rfl (by omega)) (by omega)) ?_
  refine Rg.callA rfl rfl rfl (run_callF rfl) (newPool_spec _ eb (gr : Int) (by omega)) ?_
  rintro _ s46 ⟨qb, rfl, hP46⟩
  rw [show (max (gr : Int) 1).toNat = gr by omega] at hP46
  refine Rg.pure rfl rfl rfl (Pv.assign rfl) ?_
  refine Rg.nil ?_
  refine Vc.seq ?_
  refine Vc.seq ?_
  refine Vc.text (List.range 6) (sd [(0, .pure), (1, .pure), (2, .pure), (3, .pure), (4, .pure), (5, .pure)]) rfl ?_
  refine Rg.pure rfl rfl rfl (Pv.move rfl) ?_
  refine Rg.pure rfl rfl rfl (Pv.eqlNil rfl rfl) ?_
  refine Rg.pure rfl rfl rfl (Pv.move rfl) ?_
  refine Rg.split (t := 49) rfl (fun h49 => absurd h49 (by (intro h; cases h))) (fun h49 => ?_)
  refine Rg.pure rfl rfl rfl (Pv.move rfl) ?_
  refine Rg.pure rfl rfl rfl (Pv.eqlNil rfl rfl) ?_
  refine Rg.pure rfl rfl rfl (Pv.pickF rfl rfl) ?_
  refine Rg.nil ?_
  refine Vc.cond rfl (fun h52 => absurd h52 (by (intro h; cases h))) (fun h52 => ?_)
  refine Vc.skip ?_
  refine Vc.seq ?_
  refine Vc.seq ?_
  refine Vc.text (List.range 1) (sd [(0, .pure)]) rfl ?_
  refine Rg.pure rfl rfl rfl (Pv.assign rfl) ?_
  refine Rg.nil ?_
  refine Vc.block ?_
  refine Vc.loop5 (fun (i : Nat) (A B : List UInt8) (sa sb : PlSt) => i ≤ 40 ∧ i ≤ ls.length ∧ A.length = 200 ∧ B.length = 100 ∧ PlOk pb db fr (oAB A B) (4 + 11 * i) sa ∧ PlOk qb eb gr (oAB A B) (4 + 11 * i) sb) (fun i A B sa sb => [(2, .slice p2 ls.length c2), (7, .bool true), (8, .pointer (some ⟨db, 0, none⟩)), (9, .pointer (some ⟨eb, 0, none⟩)), (10, .pointer (some ⟨pb, 0, none⟩)), (11, .pointer (some ⟨qb, 0, none⟩)), (12, .int .i64 (i : Int))]) (fun i A B sa sb => sa.h1 ++ (sa.h2 ++ (sb.h1 ++ sb.h2))) (fun i A B sa sb => 40 - i) 0 (seqA 200) (seqB 100) (⟨4, 0, [], [], dAB (seqA 200) (seqB 100) (mB 200 100) 4, s40, s27⟩ : PlSt) (⟨4, 0, [], [], dAB (seqA 200) (seqB 100) (mB 200 100) 4, s46, s28⟩ : PlSt) ⟨by omega, Nat.zero_le _, hA0, hB0, ⟨hP40, hD27, hw27, Nat.le_refl _, Nat.zero_le _, oAB_init _ _ (by decide)⟩, ⟨hP46, hD28, hw28, Nat.le_refl _, Nat.zero_le _, oAB_init _ _ (by decide)⟩⟩ (.cons rfl (.cons rfl (.cons rfl (.cons rfl (.cons rfl (.cons rfl (.cons rfl .nil))))))) pulled ?_
  rintro i A B ⟨nq, ck, L1, P1, D1, h1, g1⟩ ⟨mq, dk, M1, Q1, E1, h2, g2⟩ ⟨hi, hil, hAl, hBl, ⟨hP1, hD1, hw1, hnq, hck, hI1⟩, ⟨hQ1, hE1, hv1, hmq, hdk, hJ1⟩⟩
  simp only at hP1 hD1 hw1 hnq hck hI1 hQ1 hE1 hv1 hmq hdk hJ1 ⊢
  have hsm := oAB_small (xa := A) (xb := B) (by omega) (by omega)
  refine Vc.seq ?_
  refine Vc.seq ?_
  refine Vc.cut1 (fun (bb : Bool) => (bb = true → i < ls.length ∧ i < 40)) (fun bb => [(60, .bool bb), (2, .slice p2 ls.length c2), (7, .bool true), (8, .pointer (some ⟨db, 0, none⟩)), (9, .pointer (some ⟨eb, 0, none⟩)), (10, .pointer (some ⟨pb, 0, none⟩)), (11, .pointer (some ⟨qb, 0, none⟩)), (12, .int .i64 (i : Int))]) (fun bb => h1 ++ (g1 ++ (h2 ++ g2))) ?_ ?_
  ·
    refine Vc.text (List.range 8) (sd [(0, .pure), (1, .pure), (2, .pure), (3, .pure), (4, .pure), (5, .pure), (6, .pure), (7, .pure)]) rfl ?_
    refine Rg.pure rfl rfl rfl (Pv.move rfl) ?_
    refine Rg.pure rfl rfl rfl (Pv.move rfl) ?_
    refine Rg.pure rfl rfl rfl (Pv.lenS rfl) ?_
    refine Rg.pure rfl rfl rfl (Pv.lss rfl rfl) ?_
    refine Rg.pure rfl rfl rfl (Pv.move rfl) ?_
    refine Rg.split (t := 57) rfl (fun h57 => ?_) (fun h57 => ?_)
    ·
      simp only [decide_eq_true_eq] at h57
      refine Rg.pure rfl rfl rfl (Pv.move rfl) ?_
      refine Rg.pure rfl rfl rfl (Pv.lss rfl rfl) ?_
      refine Rg.pure rfl rfl rfl (Pv.pickT rfl rfl) ?_
      refine Rg.nil ?_
      exact Vc.inv1 _ (fun hb => ⟨by omega, by have := of_decide_eq_true hb; omega⟩) (.cons rfl (.cons rfl (.cons rfl (.cons rfl (.cons rfl (.cons rfl (.cons rfl (.cons rfl .nil)))))))) pulled
    ·
      iterate 2 (first | refine Rg.skipP rfl rfl rfl ?_ | refine Rg.skipR rfl rfl rfl ?_ | refine Rg.skipE rfl rfl rfl ?_)
      refine Rg.pure rfl rfl rfl (Pv.pickF rfl rfl) ?_
      refine Rg.nil ?_
      exact Vc.inv1 _ (fun hb => by cases hb) (.cons rfl (.cons rfl (.cons rfl (.cons rfl (.cons rfl (.cons rfl (.cons rfl (.cons rfl .nil)))))))) pulled
  ·
    rintro bb hbb
    refine Vc.cond rfl (fun h60 => ?_) (fun h60 => ?_)
    ·
      obtain ⟨hix, hi40⟩ := hbb h60
      obtain ⟨b, hbl, hbc, hba⟩ := ha.piece hix
      obtain ⟨s, hs⟩ : ∃ s, ls[i]! = s := ⟨_, rfl⟩
      rw [hs] at hbl hbc hba
      obtain ⟨bl, offl, cl', e, _⟩ := ha.1.block (by omega)
      cases e
      refine Vc.skip ?_
      refine Vc.seq ?_
      refine Vc.block ?_
      refine Vc.seq ?_
      refine Vc.text (List.range 6) (sd [(0, .pure), (1, .pure), (2, .pure), (3, .read), (4, .eff), (5, .eff)]) rfl ?_
      refine Rg.pure rfl rfl rfl (Pv.move rfl) ?_
      refine Rg.pure rfl rfl rfl (Pv.move rfl) ?_
      refine Rg.pure rfl rfl rfl (Pv.ixA (i) rfl rfl (by omega) (by omega)) ?_
      refine Rg.read rfl rfl rfl (Ev.as (stV s) (Ev.ldS (E := stE) i ha.1.src rfl rfl rfl (by omega)) (congrArg stE.val hs)) ?_
      refine Rg.alloc rfl rfl rfl rfl (fun b13 => ?_)
      refine Rg.storeA rfl rfl rfl rfl rfl rfl rfl rfl ?_
      refine Rg.nil ?_
      refine Vc.seq ?_
      refine Vc.text (List.range 1) (sd [(0, .pure)]) rfl ?_
      refine Rg.pure rfl rfl rfl (Pv.assign rfl) ?_
      refine Rg.nil ?_
      refine Vc.seq ?_
      refine Vc.seq ?_
      refine Vc.text (List.range 2) (sd [(0, .pure), (1, .read)]) rfl ?_
      refine Rg.pure rfl rfl rfl (Pv.fa rfl) ?_
      refine Rg.read rfl rfl rfl (Ev.ld rfl rfl) ?_
      refine Rg.nil ?_
      refine Vc.cut2 (fun (nm own : List UInt8) => oAB A B nm = some own) (fun nm own => [(2, .slice (some ⟨bl, offl, none⟩) ls.length c2), (7, .bool true), (8, .pointer (some ⟨db, 0, none⟩)), (9, .pointer (some ⟨eb, 0, none⟩)), (10, .pointer (some ⟨pb, 0, none⟩)), (11, .pointer (some ⟨qb, 0, none⟩)), (12, .int .i64 (i : Int)), (13, .pointer (some ⟨b13, 0, none⟩)), (14, kS nm)]) (fun nm own => (b13, cellsO (stC s) 32) :: (h1 ++ (g1 ++ (h2 ++ g2)))) ?_ ?_
      ·
        refine Vc.cond rfl (fun h68 => ?_) (fun h68 => ?_)
        ·
          refine Vc.text (List.range 1) (sd [(0, .pure)]) rfl ?_
          refine Rg.pure rfl rfl rfl (Pv.assign rfl) ?_
          refine Rg.nil ?_
          exact Vc.inv2 fB B (oAB_b _ _) (.cons rfl (.cons rfl (.cons rfl (.cons rfl (.cons rfl (.cons rfl (.cons rfl (.cons rfl (.cons rfl .nil))))))))) pulled
        ·
          refine Vc.skip ?_
          exact Vc.inv2 fA A (oAB_a _ _) (.cons rfl (.cons rfl (.cons rfl (.cons rfl (.cons rfl (.cons rfl (.cons rfl (.cons rfl (.cons rfl .nil))))))))) pulled
      ·
        rintro nm own ho
        refine Vc.seq ?_
        refine Vc.text (List.range 8) (sd [(0, .pure), (1, .read), (2, .pure), (3, .read), (4, .pure), (5, .pure), (6, .pure), (7, .pure)]) rfl ?_
        refine Rg.pure rfl rfl rfl (Pv.fa rfl) ?_
        refine Rg.read rfl rfl rfl (Ev.ld rfl rfl) ?_
        refine Rg.pure rfl rfl rfl (Pv.fa rfl) ?_
        refine Rg.read rfl rfl rfl (Ev.ld rfl rfl) ?_
        refine Rg.pure rfl rfl rfl (Pv.lenS rfl) ?_
        refine Rg.pure rfl rfl rfl (Pv.asI (b.length) (Pv.min rfl rfl) (by omega)) ?_
        refine Rg.pure rfl rfl rfl (Pv.slTo (b.length) rfl rfl (by omega)) ?_
        refine Rg.pure rfl rfl rfl (Pv.assign rfl) ?_
        refine Rg.nil ?_
        refine Vc.seq ?_
        refine Vc.text (List.range 4) (sd [(0, .pure), (1, .read), (2, .pure), (3, .pure)]) rfl ?_
        refine Rg.pure rfl rfl rfl (Pv.fa rfl) ?_
        refine Rg.read rfl rfl rfl (Ev.ld rfl rfl) ?_
        refine Rg.pure rfl rfl rfl (Pv.and rfl rfl (by omega)) ?_
        refine Rg.pure rfl rfl rfl (Pv.eql rfl rfl) ?_
        refine Rg.nil ?_
        refine Vc.cond rfl (fun h79 => ?_) (fun h79 => ?_)
        ·
          refine Vc.seq ?_
          refine Vc.text (List.range 12) (sd [(0, .pure), (1, .pure), (2, .pure), (3, .read), (4, .pure), (5, .read), (6, .eff), (7, .pure), (8, .pure), (9, .pure), (10, .pure), (11, .pure)]) rfl ?_
          refine Rg.pure rfl rfl rfl (Pv.move rfl) ?_
          refine Rg.pure rfl rfl rfl (Pv.move rfl) ?_
          refine Rg.pure rfl rfl rfl (Pv.fa rfl) ?_
          refine Rg.read rfl rfl rfl (Ev.ld rfl rfl) ?_
          refine Rg.pure rfl rfl rfl (Pv.fa rfl) ?_
          refine Rg.read rfl rfl rfl (Ev.ld rfl rfl) ?_
          refine Rg.callH rfl rfl rfl (run_callF rfl) (fun F' hF' => read_any (F := F') hP1 hD1 hw1 (by omega) hI1 hck (by omega) hsm ho s.at_ s.n) rfl ?_
          rintro _ _ ⟨u, bs, su, h3, g3, L2, P2, D2, ck2, n2, e1, rfl, ou, rfl, hP2, hD2, hw2, hn2, hck2, hI2, hgo1, hba1, _⟩
          simp only [List.append_assoc]
          refine Rg.pure rfl rfl rfl (Pv.move rfl) ?_
          refine Rg.pure rfl rfl rfl (Pv.extract rfl rfl) ?_
          refine Rg.pure rfl rfl rfl (Pv.extract rfl rfl) ?_
          refine Rg.pure rfl rfl rfl (Pv.assign rfl) ?_
          refine Rg.pure rfl rfl rfl (Pv.assign rfl) ?_
          refine Rg.nil ?_
          refine Vc.seq ?_
          refine Vc.text (List.range 12) (sd [(0, .pure), (1, .pure), (2, .pure), (3, .read), (4, .pure), (5, .read), (6, .eff), (7, .pure), (8, .pure), (9, .pure), (10, .pure), (11, .pure)]) rfl ?_
          refine Rg.pure rfl rfl rfl (Pv.move rfl) ?_
          refine Rg.pure rfl rfl rfl (Pv.move rfl) ?_
          refine Rg.pure rfl rfl rfl (Pv.fa rfl) ?_
          refine Rg.read rfl rfl rfl (Ev.ld rfl rfl) ?_
          refine Rg.pure rfl rfl rfl (Pv.fa rfl) ?_
          refine Rg.read rfl rfl rfl (Ev.ld rfl rfl) ?_
          refine Rg.callH rfl rfl rfl (run_callF rfl) (fun F' hF' => read_any (F := F') hQ1 hE1 hv1 (by omega) hJ1 hdk (by omega) hsm ho s.at_ s.n) rfl ?_
          rintro _ _ ⟨w, ds, sw, h4, g4, M2, Q2, E2, dk2, m2, e2, rfl, ow, rfl, hQ2, hE2, hv2, hm2, hdk2, hJ2, hgo2, hba2, _⟩
          simp only [List.append_assoc]
          obtain ⟨hee, hbb2⟩ : e1 = e2 ∧ bs = ds := by
            by_cases hm : mayP own.length s.at_ s.n
            · obtain ⟨a1, a2⟩ := hgo1 hm
              obtain ⟨b1, b2⟩ := hgo2 hm
              exact ⟨a1.trans b1.symm, a2.trans b2.symm⟩
            · obtain ⟨a1, a2, _⟩ := hba1 hm
              obtain ⟨b1, b2, _⟩ := hba2 hm
              exact ⟨a1.trans b1.symm, a2.trans b2.symm⟩
          refine Rg.pure rfl rfl rfl (Pv.move rfl) ?_
          refine Rg.pure rfl rfl rfl (Pv.extract rfl rfl) ?_
          refine Rg.pure rfl rfl rfl (Pv.extract rfl rfl) ?_
          refine Rg.pure rfl rfl rfl (Pv.assign rfl) ?_
          refine Rg.pure rfl rfl rfl (Pv.assign rfl) ?_
          refine Rg.nil ?_
          refine Vc.seq ?_
          refine Vc.text (List.range 10) (sd [(0, .pure), (1, .pure), (2, .pure), (3, .pure), (4, .pure), (5, .read), (6, .pure), (7, .read), (8, .pure), (9, .pure)]) rfl ?_
          refine Rg.pure rfl rfl rfl (Pv.move rfl) ?_
          refine Rg.pure rfl rfl rfl (Pv.move rfl) ?_
          refine Rg.pure rfl rfl rfl (Pv.neq rfl rfl) ?_
          refine Rg.pure rfl rfl rfl (Pv.move rfl) ?_
          refine Rg.split (t := 103) rfl (fun h103 => absurd h103 (by (rw [hee]; simp))) (fun h103 => ?_)
          refine Rg.pure rfl rfl rfl (Pv.move rfl) ?_
          refine Rg.read rfl rfl rfl (Ev.str (Src.own (rest := []) ou Sb.sub) rfl) ?_
          refine Rg.pure rfl rfl rfl (Pv.move rfl) ?_
          refine Rg.read rfl rfl rfl (Ev.str (Src.own (rest := []) ow Sb.sub) rfl) ?_
          refine Rg.pure rfl rfl rfl (Pv.neqS rfl rfl) ?_
          refine Rg.pure rfl rfl rfl (Pv.pickF rfl rfl) ?_
          refine Rg.nil ?_
          refine Vc.cond rfl (fun h109 => absurd h109 (by (rw [hbb2]; simp))) (fun h109 => ?_)
          refine Vc.skip ?_
          refine Vc.blk ?_
          refine Vc.text (List.range 3) (sd [(0, .pure), (1, .pure), (2, .pure)]) rfl ?_
          refine Rg.pure rfl rfl rfl (Pv.move rfl) ?_
          refine Rg.pure rfl rfl rfl (Pv.asI (i + 1) (Pv.add rfl rfl (by omega)) (by omega)) ?_
          refine Rg.pure rfl rfl rfl (Pv.assign rfl) ?_
          refine Rg.nil ?_
          exact Vc.inv5 (i + 1) A B (⟨n2, ck2, L2, P2, D2, h3, g3⟩ : PlSt) (⟨m2, dk2, M2, Q2, E2, h4, g4⟩ : PlSt) ⟨⟨by omega, by omega, hAl, hBl, ⟨hP2, hD2, hw2, by show n2 ≤ 4 + 11 * (i + 1); omega, hck2, hI2⟩, ⟨hQ2, hE2, hv2, by show m2 ≤ 4 + 11 * (i + 1); omega, hdk2, hJ2⟩⟩, by omega⟩ (.cons rfl (.cons rfl (.cons rfl (.cons rfl (.cons rfl (.cons rfl (.cons rfl .nil))))))) pulled
        ·
          refine Vc.seq ?_
          refine Vc.drawS [] (sd [(0, .pure), (1, .pure), (2, .pure), (3, .read), (4, .pure), (6, .pure), (7, .pure), (8, .pure), (9, .read), (10, .pure), (5, .eff), (11, .eff), (12, .pure)]) [(b13, cellsO (stC s) 32)] pulled mixed (by kernel_rfl) ?_
          refine Rg.pure rfl rfl rfl (Pv.move rfl) ?_
          refine Rg.pure rfl rfl rfl (Pv.move rfl) ?_
          refine Rg.pure rfl rfl rfl (Pv.fa rfl) ?_
          refine Rg.read rfl rfl rfl (Ev.ld rfl rfl) ?_
          refine Rg.pure rfl rfl rfl (Pv.move rfl) ?_
          refine Rg.pure rfl rfl rfl (Pv.move rfl) ?_
          refine Rg.pure rfl rfl rfl (Pv.move rfl) ?_
          refine Rg.pure rfl rfl rfl (Pv.fa rfl) ?_
          refine Rg.read rfl rfl rfl (Ev.ld rfl rfl) ?_
          refine Rg.pure rfl rfl rfl (Pv.move rfl) ?_
          refine Rg.callHN (pre := h1 ++ g1) rfl rfl rfl (run_callF rfl) (fun F' hF' => write_any (F := F') hP1 hD1 hw1 (by omega) hI1 hck (by omega) hsm ho s.at_ (hba.mono fun b o h => hF' b o (.inr h))) ?_
          rintro _ _ ⟨h3, g3, L2, P2, D2, ck2, n2, e1, ow1, rfl, rfl, hP2, hD2, hw2, hn2, hck2, hI2, hl1, hgo1, hba1, _⟩
          simp only [List.append_assoc]
          refine Rg.callHN (pre := h2 ++ g2) rfl rfl rfl (run_callF rfl) (fun F' hF' => write_any (F := F') hQ1 hE1 hv1 (by omega) hJ1 hdk (by omega) hsm ho s.at_ (hba.mono fun b o h => hF' b o (.inr h))) ?_
          rintro _ _ ⟨h4, g4, M2, Q2, E2, dk2, m2, e2, ow2, rfl, rfl, hQ2, hE2, hv2, hm2, hdk2, hJ2, hl2, hgo2, hba2, _⟩
          simp only [List.append_assoc]
          obtain ⟨hee, hoo⟩ : e1 = e2 ∧ ow1 = ow2 := by
            by_cases hm : mayP own.length s.at_ b.length
            · obtain ⟨a1, a2⟩ := hgo1 hm
              obtain ⟨b1, b2⟩ := hgo2 hm
              exact ⟨a1.trans b1.symm, a2.trans b2.symm⟩
            · obtain ⟨a1, a2⟩ := hba1 hm
              obtain ⟨b1, b2⟩ := hba2 hm
              exact ⟨a1.trans b1.symm, a2.trans b2.symm⟩
          subst hoo
          obtain ⟨A', B', hab, hA', hB'⟩ := oAB_upd ho hl1
          rw [hab] at hI2 hJ2
          refine Rg.pure rfl rfl rfl (Pv.neq rfl rfl) ?_
          refine Rg.nil ?_
          refine Vc.cond rfl (fun h122 => absurd h122 (by (rw [hee]; simp))) (fun h122 => ?_)
          refine Vc.skip ?_
          refine Vc.blk ?_
          refine Vc.text (List.range 3) (sd [(0, .pure), (1, .pure), (2, .pure)]) rfl ?_
          refine Rg.pure rfl rfl rfl (Pv.move rfl) ?_
          refine Rg.pure rfl rfl rfl (Pv.asI (i + 1) (Pv.add rfl rfl (by omega)) (by omega)) ?_
          refine Rg.pure rfl rfl rfl (Pv.assign rfl) ?_
          refine Rg.nil ?_
          exact Vc.inv5 (i + 1) A' B' (⟨n2, ck2, L2, P2, D2, h3, g3⟩ : PlSt) (⟨m2, dk2, M2, Q2, E2, h4, g4⟩ : PlSt) ⟨⟨by omega, by omega, by omega, by omega, ⟨hP2, hD2, hw2, by show n2 ≤ 4 + 11 * (i + 1); omega, hck2, hI2⟩, ⟨hQ2, hE2, hv2, by show m2 ≤ 4 + 11 * (i + 1); omega, hdk2, hJ2⟩⟩, by omega⟩ (.cons rfl (.cons rfl (.cons rfl (.cons rfl (.cons rfl (.cons rfl (.cons rfl .nil))))))) pulled
    ·
      refine Vc.exit rfl ?_
      refine Vc.seq ?_
      refine Vc.text (List.range 2) (sd [(0, .eff), (1, .pure)]) rfl ?_
      refine Rg.bsliceR (E := strE) (e := 9) (cs := [kS fA, kS fB]) [fA, fB] rfl rfl rfl rfl rfl rfl rfl (by rfl) rfl (by decide) (fun b123 own123 => ?_)
      refine Rg.pure rfl rfl rfl (Pv.assign rfl) ?_
      refine Rg.nil ?_
      refine Vc.seq ?_
      refine Vc.seq ?_
      refine Vc.text (List.range 1) (sd [(0, .pure)]) rfl ?_
      refine Rg.pure rfl rfl rfl (Pv.assign rfl) ?_
      refine Rg.nil ?_
      refine Vc.block ?_
      refine Vc.loop3 (fun (j : Nat) (sa sb : PlSt) => j ≤ 2 ∧ PlOk pb db fr (oAB A B) (500 + 20 * j) sa ∧ PlOk qb eb gr (oAB A B) (500 + 20 * j) sb) (fun j sa sb => [(2, .slice p2 ls.length c2), (7, .bool true), (8, .pointer (some ⟨db, 0, none⟩)), (9, .pointer (some ⟨eb, 0, none⟩)), (10, .pointer (some ⟨pb, 0, none⟩)), (11, .pointer (some ⟨qb, 0, none⟩)), (20, .slice (some ⟨b123, 0, none⟩) 2 2), (21, .int .i64 (j : Int))]) (fun j sa sb => sa.h1 ++ (sa.h2 ++ (sb.h1 ++ (sb.h2 ++ [(b123, rowS strE [fA, fB] [])])))) (fun j sa sb => 2 - j) 0 (⟨nq, ck, L1, P1, D1, h1, g1⟩ : PlSt) (⟨mq, dk, M1, Q1, E1, h2, g2⟩ : PlSt) ⟨by omega, ⟨hP1, hD1, hw1, by show nq ≤ 500 + 0; omega, hck, hI1⟩, ⟨hQ1, hE1, hv1, by show mq ≤ 500 + 0; omega, hdk, hJ1⟩⟩ (.cons rfl (.cons rfl (.cons rfl (.cons rfl (.cons rfl (.cons rfl (.cons rfl (.cons rfl .nil)))))))) pulled ?_
      rintro j ⟨nq', ck', L1', P1', D1', h1', g1'⟩ ⟨mq', dk', M1', Q1', E1', h2', g2'⟩ ⟨hj, ⟨hP1', hD1', hw1', hnq', hck', hI1'⟩, ⟨hQ1', hE1', hv1', hmq', hdk', hJ1'⟩⟩
      simp only at hP1' hD1' hw1' hnq' hck' hI1' hQ1' hE1' hv1' hmq' hdk' hJ1' ⊢
      refine Vc.seq ?_
      refine Vc.seq ?_
      refine Vc.text (List.range 2) (sd [(0, .pure), (1, .pure)]) rfl ?_
      refine Rg.pure rfl rfl rfl (Pv.move rfl) ?_
      refine Rg.pure rfl rfl rfl (Pv.lss rfl rfl) ?_
      refine Rg.nil ?_
      refine Vc.cond rfl (fun h125 => ?_) (fun h125 => ?_)
      ·
        simp only [decide_eq_true_eq] at h125
        obtain ⟨nm, hnm⟩ : ∃ nm, [fA, fB][j]! = nm := ⟨_, rfl⟩
        obtain ⟨own, ho, hol⟩ : ∃ own, oAB A B nm = some own ∧ own.length = 200 - 100 * j := by
          have : j = 0 ∨ j = 1 := by omega
          rcases this with rfl | rfl
          · subst hnm; exact ⟨A, oAB_a _ _, by omega⟩
          · subst hnm; exact ⟨B, oAB_b _ _, by omega⟩
        refine Vc.skip ?_
        refine Vc.seq ?_
        refine Vc.block ?_
        refine Vc.seq ?_
        refine Vc.seq ?_
        refine Vc.text (List.range 16) (sd [(0, .pure), (1, .pure), (2, .pure), (3, .pure), (4, .read), (5, .eff), (6, .pure), (7, .pure), (8, .pure), (9, .pure), (10, .pure), (11, .pure), (12, .read), (13, .eff), (14, .pure), (15, .pure)]) rfl ?_
        refine Rg.pure rfl rfl rfl (Pv.move rfl) ?_
        refine Rg.pure rfl rfl rfl (Pv.move rfl) ?_
        refine Rg.pure rfl rfl rfl (Pv.move rfl) ?_
        refine Rg.pure rfl rfl rfl (Pv.ixA j rfl rfl rfl (by omega)) ?_
        refine Rg.read rfl rfl rfl (Ev.as (kS nm) (Ev.ldR (E := strE) j rfl (Nat.zero_add _) (by show j < 2; omega)) (congrArg kS hnm)) ?_
        refine Rg.callH rfl rfl rfl (run_callF rfl) (fun F' hF' => flush_spec (F := F') hP1' hD1' hw1' (by omega) hI1' hsm nm) rfl ?_
        rintro _ _ ⟨h3, g3, P2, D2, rfl, rfl, hP2, hD2, hw2, hI2, _, hcl2⟩
        simp only [List.append_assoc]
        obtain ⟨f2, hf2, hf2n⟩ := hI2.flushed ho fun q x hx e => by
          cases h : x.dirty with
          | false => rfl
          | true => exact absurd e (hcl2 q x hx h).1
        obtain ⟨hr2, hb2⟩ := hI2.readF hf2 hf2n (at_ := 0) (q := own.length) (by omega)
        rw [List.drop_zero, List.take_length, hol] at hr2
        refine Rg.pure rfl rfl rfl (Pv.neq rfl rfl) ?_
        refine Rg.pure rfl rfl rfl (Pv.move rfl) ?_
        refine Rg.split (t := 135) rfl (fun h135 => absurd h135 (by decide)) (fun h135 => ?_)
        refine Rg.pure rfl rfl rfl (Pv.move rfl) ?_
        refine Rg.pure rfl rfl rfl (Pv.move rfl) ?_
        refine Rg.pure rfl rfl rfl (Pv.move rfl) ?_
        refine Rg.pure rfl rfl rfl (Pv.ixA j rfl rfl rfl (by omega)) ?_
        refine Rg.read rfl rfl rfl (Ev.as (kS nm) (Ev.ldR (E := strE) j rfl (Nat.zero_add _) (by show j < 2; omega)) (congrArg kS hnm)) ?_
        refine Rg.callH rfl rfl rfl (run_callF rfl) (fun F' hF' => flush_spec (F := F') hQ1' hE1' hv1' (by omega) hJ1' hsm nm) rfl ?_
        rintro _ _ ⟨h4, g4, Q2, E2, rfl, rfl, hQ2, hE2, hv2, hJ2, _, hcl3⟩
        simp only [List.append_assoc]
        obtain ⟨f3, hf3, hf3n⟩ := hJ2.flushed ho fun q x hx e => by
          cases h : x.dirty with
          | false => rfl
          | true => exact absurd e (hcl3 q x hx h).1
        obtain ⟨hr3, hb3⟩ := hJ2.readF hf3 hf3n (at_ := 0) (q := own.length) (by omega)
        rw [List.drop_zero, List.take_length, hol] at hr3
        refine Rg.pure rfl rfl rfl (Pv.neq rfl rfl) ?_
        refine Rg.pure rfl rfl rfl (Pv.pickF rfl rfl) ?_
        refine Rg.nil ?_
        refine Vc.cond rfl (fun h143 => absurd h143 (by decide)) (fun h143 => ?_)
        refine Vc.skip ?_
        refine Vc.seq ?_
        refine Vc.text (List.range 14) (sd [(0, .pure), (1, .pure), (2, .pure), (3, .pure), (4, .read), (5, .pure), (6, .pure), (7, .pure), (8, .eff), (9, .pure), (10, .pure), (11, .pure), (12, .pure), (13, .pure)]) rfl ?_
        refine Rg.pure rfl rfl rfl (Pv.move rfl) ?_
        refine Rg.pure rfl rfl rfl (Pv.move rfl) ?_
        refine Rg.pure rfl rfl rfl (Pv.move rfl) ?_
        refine Rg.pure rfl rfl rfl (Pv.ixA j rfl rfl rfl (by omega)) ?_
        refine Rg.read rfl rfl rfl (Ev.as (kS nm) (Ev.ldR (E := strE) j rfl (Nat.zero_add _) (by show j < 2; omega)) (congrArg kS hnm)) ?_
        refine Rg.pure rfl rfl rfl (Pv.move rfl) ?_
        refine Rg.pure rfl rfl rfl (Pv.mul rfl rfl (by omega)) ?_
        refine Rg.pure rfl rfl rfl (Pv.asI (200 - 100 * j) (Pv.sub rfl rfl (by omega)) (by omega)) ?_
        refine Rg.callH rfl rfl rfl (run_callF rfl) (fun F' hF' => readAt_w (F := F') hD2 hw2 (by omega) (by omega) nm ((0 : Nat) : Int) ((200 - 100 * j : Nat) : Int) hr2 hb2) rfl ?_
        rintro _ _ ⟨u, su, g5, rfl, ou, hD5, hw5, rfl⟩
        simp only [List.append_assoc]
        refine Rg.pure rfl rfl rfl (Pv.move rfl) ?_
        refine Rg.pure rfl rfl rfl (Pv.extract rfl rfl) ?_
        refine Rg.pure rfl rfl rfl (Pv.extract rfl rfl) ?_
        refine Rg.pure rfl rfl rfl (Pv.assign rfl) ?_
        refine Rg.pure rfl rfl rfl (Pv.assign rfl) ?_
        refine Rg.nil ?_
        refine Vc.seq ?_
        refine Vc.text (List.range 14) (sd [(0, .pure), (1, .pure), (2, .pure), (3, .pure), (4, .read), (5, .pure), (6, .pure), (7, .pure), (8, .eff), (9, .pure), (10, .pure), (11, .pure), (12, .pure), (13, .pure)]) rfl ?_
        refine Rg.pure rfl rfl rfl (Pv.move rfl) ?_
        refine Rg.pure rfl rfl rfl (Pv.move rfl) ?_
        refine Rg.pure rfl rfl rfl (Pv.move rfl) ?_
        refine Rg.pure rfl rfl rfl (Pv.ixA j rfl rfl rfl (by omega)) ?_
        refine Rg.read rfl rfl rfl (Ev.as (kS nm) (Ev.ldR (E := strE) j rfl (Nat.zero_add _) (by show j < 2; omega)) (congrArg kS hnm)) ?_
        refine Rg.pure rfl rfl rfl (Pv.move rfl) ?_
        refine Rg.pure rfl rfl rfl (Pv.mul rfl rfl (by omega)) ?_
        refine Rg.pure rfl rfl rfl (Pv.asI (200 - 100 * j) (Pv.sub rfl rfl (by omega)) (by omega)) ?_
        refine Rg.callH rfl rfl rfl (run_callF rfl) (fun F' hF' => readAt_w (F := F') hE2 hv2 (by omega) (by omega) nm ((0 : Nat) : Int) ((200 - 100 * j : Nat) : Int) hr3 hb3) rfl ?_
        rintro _ _ ⟨w, sw, g6, rfl, ow, hE5, hv5, rfl⟩
        simp only [List.append_assoc]
        refine Rg.pure rfl rfl rfl (Pv.move rfl) ?_
        refine Rg.pure rfl rfl rfl (Pv.extract rfl rfl) ?_
        refine Rg.pure rfl rfl rfl (Pv.extract rfl rfl) ?_
        refine Rg.pure rfl rfl rfl (Pv.assign rfl) ?_
        refine Rg.pure rfl rfl rfl (Pv.assign rfl) ?_
        refine Rg.nil ?_
        refine Vc.seq ?_
        refine Vc.text (List.range 13) (sd [(0, .pure), (1, .pure), (2, .pure), (3, .pure), (4, .pure), (5, .pure), (6, .pure), (7, .pure), (8, .read), (9, .pure), (10, .read), (11, .pure), (12, .pure)]) rfl ?_
        refine Rg.pure rfl rfl rfl (Pv.move rfl) ?_
        refine Rg.pure rfl rfl rfl (Pv.neq rfl rfl) ?_
        refine Rg.pure rfl rfl rfl (Pv.move rfl) ?_
        refine Rg.split (t := 170) rfl (fun h170 => absurd h170 (by decide)) (fun h170 => ?_)
        refine Rg.pure rfl rfl rfl (Pv.move rfl) ?_
        refine Rg.pure rfl rfl rfl (Pv.neq rfl rfl) ?_
        refine Rg.pure rfl rfl rfl (Pv.pickF rfl rfl) ?_
        refine Rg.pure rfl rfl rfl (Pv.move rfl) ?_
        refine Rg.split (t := 174) rfl (fun h174 => absurd h174 (by decide)) (fun h174 => ?_)
        refine Rg.pure rfl rfl rfl (Pv.move rfl) ?_
        refine Rg.read rfl rfl rfl (Ev.str (Src.own (rest := []) ou Sb.sub) rfl) ?_
        refine Rg.pure rfl rfl rfl (Pv.move rfl) ?_
        refine Rg.read rfl rfl rfl (Ev.str (Src.own (rest := []) ow Sb.sub) rfl) ?_
        refine Rg.pure rfl rfl rfl (Pv.neqS rfl rfl) ?_
        refine Rg.pure rfl rfl rfl (Pv.pickF rfl rfl) ?_
        refine Rg.nil ?_
        refine Vc.cond rfl (fun h180 => absurd h180 (by simp)) (fun h180 => ?_)
        refine Vc.skip ?_
        refine Vc.blk ?_
        refine Vc.text (List.range 3) (sd [(0, .pure), (1, .pure), (2, .pure)]) rfl ?_
        refine Rg.pure rfl rfl rfl (Pv.move rfl) ?_
        refine Rg.pure rfl rfl rfl (Pv.asI (j + 1) (Pv.add rfl rfl (by omega)) (by omega)) ?_
        refine Rg.pure rfl rfl rfl (Pv.assign rfl) ?_
        refine Rg.nil ?_
        exact Vc.inv3 (j + 1) (⟨nq' + fr + 1, ck', L1', P2, { D2 with ops := D2.ops + 1 }, h3, g5⟩ : PlSt) (⟨mq' + gr + 1, dk', M1', Q2, { E2 with ops := E2.ops + 1 }, h4, g6⟩ : PlSt) ⟨⟨by omega, ⟨hP2, hD5, (show Dq (nq' + fr + 1) _ from hw5.mono (by omega) (by omega)), by show nq' + fr + 1 ≤ 500 + 20 * (j + 1); omega, by show ck' ≤ nq' + fr + 1; omega, hI2.ops _⟩, ⟨hQ2, hE5, (show Dq (mq' + gr + 1) _ from hv5.mono (by omega) (by omega)), by show mq' + gr + 1 ≤ 500 + 20 * (j + 1); omega, by show dk' ≤ mq' + gr + 1; omega, hJ2.ops _⟩⟩, by omega⟩ (.cons rfl (.cons rfl (.cons rfl (.cons rfl (.cons rfl (.cons rfl (.cons rfl (.cons rfl .nil)))))))) pulled
      ·
        simp only [decide_eq_false_iff_not] at h125
        refine Vc.exit rfl ?_
        refine Vc.seq ?_
        refine Vc.text (List.range 2) (sd [(0, .pure), (1, .pure)]) rfl ?_
        refine Rg.pure rfl rfl rfl (Pv.move rfl) ?_
        refine Rg.pure rfl rfl rfl (Pv.assign rfl) ?_
        refine Rg.nil ?_
        refine Vc.ret (Vc.rets rfl (.cons (.tmp rfl) (.nil)) ?_)
        rfl
end Go.Proofs.Ytjhegjcjplpmjaa
