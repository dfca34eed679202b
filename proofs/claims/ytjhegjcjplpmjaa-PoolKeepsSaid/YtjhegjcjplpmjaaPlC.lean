/- Pools: New, Resident, Dirty, clean. -/
import Derived.Test.YtjhegjcjplpmjaaPlB
namespace Go.Proofs.Ytjhegjcjplpmjaa
set_option linter.unusedVariables false

/-- A pool, at pointer pb, over the disk at db: its cache's keys, in order of use, and its pages. -/
def PoolAt (pb db fr ck : Nat) (L : List Pl) (P : List (Pl × Pg)) (hl : Hl) : Prop := ∃ cb mb mc ms sc hp, Cachep cb fr ck (L.map fun p => (p, 0)) sc ∧ PagesAt ms P hp ∧ (ms.map (·.k)).Nodup ∧ (ms.map (·.born)).Nodup ∧ (∀ m ∈ ms, m.born < mc) ∧
  hl.Perm ((pb, cellsO [.pointer (some ⟨db, 0, none⟩), .pointer (some ⟨cb, 0, none⟩), .map (some mb)] 57) :: (mb, mapO plV ms mc) :: (sc ++ hp))
theorem newPool_spec (F : Fm) (db : Nat) (z : Int) (hz : z ≤ 9223372036854775807) : Spec Try.prog 11 #[.pointer (some ⟨db, 0, none⟩), .int .i64 z] F [] fun v s => ∃ pb, v = .pointer (some ⟨pb, 0, none⟩) ∧ PoolAt pb db (max z 1).toNat 0 [] [] s := by
  refine Spec.of (n := 11) (vs := [.pointer (some ⟨db, 0, none⟩), .int .i64 z]) Try.func11 rfl Try.ntmps11 rfl ?_
  refine Vc.seq ?_
  refine Vc.text (List.range 1) (sd [(0, .pure)]) rfl ?_
  refine Rg.pure rfl rfl rfl (Pv.assign rfl) ?_
  refine Rg.nil ?_
  refine Vc.seq ?_
  refine Vc.text (List.range 7) (sd [(0, .pure), (1, .pure), (2, .eff), (3, .eff), (4, .pure), (5, .eff), (6, .pure)]) rfl ?_
  refine Rg.pure rfl rfl rfl (Pv.move rfl) ?_
  refine Rg.pure rfl rfl rfl (Pv.move rfl) ?_
  refine Rg.callH rfl rfl rfl (run_callF rfl) (fun F' hF' => new_specp F' z hz) rfl ?_
  rintro _ s7 ⟨cb, rfl, hC⟩
  refine Rg.makeMap plV rfl rfl rfl (fun b8 => ?_)
  refine Rg.pure rfl rfl rfl (Pv.build (c := #[.pointer (some ⟨db, 0, none⟩), .pointer (some ⟨cb, 0, none⟩), .map (some b8)]) rfl rfl) ?_
  refine Rg.box rfl rfl rfl rfl rfl (fun b10 => ?_)
  refine Rg.pure rfl rfl rfl (Pv.assign rfl) ?_
  refine Rg.nil ?_
  exact Vc.ret (Vc.retsH (hl' := (b10, cellsO [.pointer (some ⟨db, 0, none⟩), .pointer (some ⟨cb, 0, none⟩), .map (some b8)] 57) :: (b8, mapO plV [] 0) :: s7) rfl (.cons (.tmp rfl) .nil) ⟨b10, rfl, cb, b8, 0, [], s7, [], hC, .nil, .nil, .nil, fun m hm => (by cases hm), by rw [List.append_nil]⟩ pulled)

theorem resident_spec {F : Fm} {pb db fr ck : Nat} {L : List Pl} {P : List (Pl × Pg)} {s : Hl} (hP : PoolAt pb db fr ck L P s) (hF : ∀ b o, (b, o) ∈ s → F.at_ b o) :
    Spec Try.prog 17 #[.pointer (some ⟨pb, 0, none⟩)] F [] fun v _ => v = .int .i64 (P.length : Int) := by
  obtain ⟨cb, mb, mc, ms, sc, hp, hC, hpg, hn, hbn, hold, hperm⟩ := hP
  replace hF := fun b o h => hF b o (hperm.mem_iff.2 h)
  have f1 : Fat F pb (cellsO [.pointer (some ⟨db, 0, none⟩), .pointer (some ⟨cb, 0, none⟩), .map (some mb)] 57) := ⟨hF _ _ List.mem_cons_self⟩
  have f2 : Fat F mb (mapO plV ms mc) := ⟨hF _ _ (List.mem_cons_of_mem _ List.mem_cons_self)⟩
  have hlen : ms.length = P.length := by have := congrArg List.length hpg.keys; simpa using this
  refine Spec.of (n := 8) (vs := [.pointer (some ⟨pb, 0, none⟩)]) Try.func17 rfl Try.ntmps17 rfl ?_
  refine Vc.seq ?_
  refine Vc.text (List.range 1) (sd [(0, .pure)]) rfl ?_
  refine Rg.pure rfl rfl rfl (Pv.assign rfl) ?_
  refine Rg.nil ?_
  refine Vc.seq ?_
  refine Vc.text (List.range 6) (sd [(0, .pure), (1, .pure), (2, .pure), (3, .read), (4, .read), (5, .pure)]) rfl ?_
  refine Rg.pure rfl rfl rfl (Pv.move rfl) ?_
  refine Rg.pure rfl rfl rfl (Pv.nilp rfl) ?_
  refine Rg.pure rfl rfl rfl (Pv.fa rfl) ?_
  refine Rg.read rfl rfl rfl (Ev.ld rfl rfl) ?_
  refine Rg.read rfl rfl rfl (Ev.lenM rfl) ?_
  refine Rg.pure rfl rfl rfl (Pv.assign rfl) ?_
  refine Rg.nil ?_
  refine Vc.ret (Vc.rets rfl (.cons (.tmp rfl) (.nil)) ?_)
  exact congrArg (Value.int .i64) (by rw [hlen])

def dirtyN (P : List (Pl × Pg)) : Nat := (P.filter (·.2.dirty)).length
def dirtyM (P : List (Pl × Pg)) (k : Pl) : Bool := ((findP P k).map (·.dirty)).getD false
theorem dirtyM_len {ms : List (Me Pl)} {P : List (Pl × Pg)} (hk : ms.map (·.k) = P.map (·.1)) (hn : (P.map (·.1)).Nodup) : (ms.filter fun m => dirtyM P m.k).length = dirtyN P := by
  have h1 : (ms.filter fun m => dirtyM P m.k).length = ((ms.map (·.k)).filter (dirtyM P)).length := by rw [List.filter_map, List.length_map]; rfl
  rw [h1, hk, List.filter_map, List.length_map, dirtyN]
  congr 1
  refine List.filter_congr fun p hp => ?_
  show dirtyM P p.1 = p.2.dirty
  rw [dirtyM, findP_mem hn (x := p.2) hp]
  rfl
theorem dirty_spec {F : Fm} {pb db fr ck : Nat} {L : List Pl} {P : List (Pl × Pg)} {s : Hl} (hP : PoolAt pb db fr ck L P s) (hF : ∀ b o, (b, o) ∈ s → F.at_ b o) (hN : P.length < 1073741824) :
    Spec Try.prog 18 #[.pointer (some ⟨pb, 0, none⟩)] F [] fun v _ => v = .int .i64 (dirtyN P : Int) := by
  obtain ⟨cb, mb, mc, ms, sc, hp, hC, hpg, hn, hbn, hold, hperm⟩ := hP
  replace hF := fun b o h => hF b o (hperm.mem_iff.2 h)
  have f1 : Fat F pb (cellsO [.pointer (some ⟨db, 0, none⟩), .pointer (some ⟨cb, 0, none⟩), .map (some mb)] 57) := ⟨hF _ _ List.mem_cons_self⟩
  have f2 : Fat F mb (mapO plV ms mc) := ⟨hF _ _ (List.mem_cons_of_mem _ List.mem_cons_self)⟩
  have hlen : ms.length = P.length := by have := congrArg List.length hpg.keys; simpa using this
  have hnd := me_nodup hbn
  have hdn := dirtyM_len hpg.keys (by rw [← hpg.keys]; exact hn)
  refine Spec.of (n := 22) (vs := [.pointer (some ⟨pb, 0, none⟩)]) Try.func18 rfl Try.ntmps18 rfl ?_
  refine Vc.seq ?_
  refine Vc.text (List.range 1) (sd [(0, .pure)]) rfl ?_
  refine Rg.pure rfl rfl rfl (Pv.assign rfl) ?_
  refine Rg.nil ?_
  refine Vc.seq ?_
  refine Vc.text (List.range 1) (sd [(0, .pure)]) rfl ?_
  refine Rg.pure rfl rfl rfl (Pv.assign rfl) ?_
  refine Rg.nil ?_
  refine Vc.seq ?_
  refine Vc.seq ?_
  refine Vc.text (List.range 5) (sd [(0, .pure), (1, .pure), (2, .pure), (3, .read), (4, .eff)]) rfl ?_
  refine Rg.pure rfl rfl rfl (Pv.move rfl) ?_
  refine Rg.pure rfl rfl rfl (Pv.nilp rfl) ?_
  refine Rg.pure rfl rfl rfl (Pv.fa rfl) ?_
  refine Rg.read rfl rfl rfl (Ev.ld rfl rfl) ?_
  refine Rg.range rfl rfl rfl rfl (fun b10 => ?_)
  refine Rg.nil ?_
  refine Vc.block ?_
  refine Vc.loop4 (fun (dn rs : List (Me Pl)) (seen : Array Nat) (n : Nat) => ms.Perm (dn ++ rs) ∧ (∀ e ∈ ms, seen.contains e.born = true ↔ e ∈ dn) ∧ n = (dn.filter fun m => dirtyM P m.k).length) (fun dn rs seen n => [(3, .int .i64 (n : Int)), (10, .pointer (some ⟨b10, 0, none⟩))]) (fun dn rs seen n => [(b10, .mapIter (some mb) mc seen mc)]) (fun dn rs seen n => rs.length) [] ms #[] 0 ⟨.refl _, fun e he => by simp, rfl⟩ (.cons rfl (.cons rfl .nil)) pulled ?_
  rintro dn rs seen n ⟨hp2, hseen, hnn⟩
  refine Vc.seq ?_
  refine Vc.text (List.range 2) (sd [(0, .eff), (1, .pure)]) rfl ?_
  refine Rg.next rfl rfl rfl rfl (hold) (Nat.le_refl _) rfl (fun all11 => ?_) (fun m11 mem11 new11 => ?_)
  ·
    have hrs : rs = [] := List.eq_nil_iff_forall_not_mem.2 fun e he => by
      have hees : e ∈ ms := hp2.mem_iff.2 (List.mem_append_right _ he)
      have hd := (hseen e hees).1 (all11 e hees)
      exact (List.nodup_append.1 (hp2.nodup_iff.1 hnd)).2.2 e hd e he rfl
    subst hrs
    rw [List.append_nil] at hp2
    refine Rg.pure rfl rfl rfl (Pv.extract rfl rfl) ?_
    refine Rg.nil ?_
    refine Vc.seq ?_
    refine Vc.condF rfl ?_
    refine Vc.exit rfl ?_
    refine Vc.seq ?_
    refine Vc.text (List.range 2) (sd [(0, .pure), (1, .pure)]) rfl ?_
    refine Rg.pure rfl rfl rfl (Pv.move rfl) ?_
    refine Rg.pure rfl rfl rfl (Pv.assign rfl) ?_
    refine Rg.nil ?_
    refine Vc.ret (Vc.rets rfl (.cons (.tmp rfl) (.nil)) ?_)
    exact congrArg (Value.int .i64) (by rw [hnn, ← hdn, ((hp2.filter (fun m => dirtyM P m.k)).length_eq)])
  ·
    have hers : m11 ∈ rs := by
      rcases List.mem_append.1 (hp2.mem_iff.1 mem11) with h | h
      · rw [(hseen m11 mem11).2 h] at new11; cases new11
      · exact h
    obtain ⟨A, B, rfl⟩ := List.append_of_mem hers
    have hpl := hp2.length_eq
    simp only [List.length_append, List.length_cons] at hpl
    obtain ⟨xb, x, vx, sx, rest, hmv, hfx, hpp, ox, _, _⟩ := hpg.get hn mem11
    have f3 : Fat F xb (cellsO [vx, .bool x.dirty] 62) := ⟨hF _ _ (List.mem_cons_of_mem _ (List.mem_cons_of_mem _ (List.mem_append_right _ (hpp.mem_iff.2 List.mem_cons_self))))⟩
    have hdx : dirtyM P m11.k = x.dirty := by rw [dirtyM, hfx]; rfl
    have hfl := List.length_filter_le (fun m => dirtyM P m.k) dn
    have hpa : ms.Perm ((dn ++ [m11]) ++ (A ++ B)) := hp2.trans (by rw [List.append_assoc]; exact (List.perm_middle (l₁ := A) (l₂ := B)).append_left dn)
    refine Rg.pure rfl rfl rfl (Pv.extract rfl rfl) ?_
    refine Rg.nil ?_
    refine Vc.seq ?_
    refine Vc.condT rfl ?_
    refine Vc.skip ?_
    refine Vc.block ?_
    refine Vc.seq ?_
    refine Vc.text (List.range 3) (sd [(0, .read), (1, .pure), (2, .pure)]) rfl ?_
    refine Rg.read rfl rfl rfl (Ev.entry (m11) rfl (mem11) (hbn)) ?_
    refine Rg.pure rfl rfl rfl (Pv.as (.pointer (some ⟨xb, 0, none⟩)) (Pv.extract rfl rfl) hmv) ?_
    refine Rg.pure rfl rfl rfl (Pv.assign rfl) ?_
    refine Rg.nil ?_
    refine Vc.seq ?_
    refine Vc.text (List.range 4) (sd [(0, .pure), (1, .pure), (2, .pure), (3, .read)]) rfl ?_
    refine Rg.pure rfl rfl rfl (Pv.move rfl) ?_
    refine Rg.pure rfl rfl rfl (Pv.nilp rfl) ?_
    refine Rg.pure rfl rfl rfl (Pv.fa rfl) ?_
    refine Rg.read rfl rfl rfl (Ev.ld rfl rfl) ?_
    refine Rg.nil ?_
    refine Vc.cond rfl (fun h18 => ?_) (fun h18 => ?_)
    ·
      refine Vc.text (List.range 3) (sd [(0, .pure), (1, .pure), (2, .pure)]) rfl ?_
      refine Rg.pure rfl rfl rfl (Pv.move rfl) ?_
      refine Rg.pure rfl rfl rfl (Pv.asI (n + 1) (Pv.add rfl rfl (by omega)) (by omega)) ?_
      refine Rg.pure rfl rfl rfl (Pv.assign rfl) ?_
      refine Rg.nil ?_
      refine Vc.blk ?_
      exact Vc.inv4 (dn ++ [m11]) (A ++ B) (seen.push m11.born) (n + 1) ⟨⟨hpa, me_seen hbn mem11 hseen, by rw [List.filter_append, List.length_append, hnn]; simp [hdx, h18]⟩, by simp⟩ (.cons rfl (.cons rfl .nil)) pulled
    ·
      refine Vc.skip ?_
      refine Vc.blk ?_
      exact Vc.inv4 (dn ++ [m11]) (A ++ B) (seen.push m11.born) n ⟨⟨hpa, me_seen hbn mem11 hseen, by rw [List.filter_append, List.length_append, hnn]; simp [hdx, h18]⟩, by simp⟩ (.cons rfl (.cons rfl .nil)) pulled
end Go.Proofs.Ytjhegjcjplpmjaa
