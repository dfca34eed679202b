/- Caches whose keys are of one type: Has, the order of the keys, Keys. -/
import Derived.Test.YtjhegjcjplpmjaaLuP
import Derived.Test.YtjhegjcjplpmjaaSlTy
import Derived.Test.YtjhegjcjplpmjaaPlA
namespace Go.Proofs.Ytjhegjcjplpmjaa
set_option linter.unusedVariables false

abbrev KTp := Pl
abbrev kvp : KTp → Value := plV
abbrev keyEp : Enc Pl := placeE

abbrev Cachep (cb fr ck : Nat) (L : List (KTp × Nat)) (hl : Hl) : Prop := CacheAt kvp 97 112 cb fr ck L hl

theorem has_specp {F : Fm} {cb fr ck : Nat} {L : List (KTp × Nat)} {s : Hl} (hh : Cachep cb fr ck L s) (hF : ∀ b o, (b, o) ∈ s → F.at_ b o) (key : KTp) :
    Spec Try.prog 72 #[.pointer (some ⟨cb, 0, none⟩), kvp key] F [] fun v _ => v = .bool (hasK L key) := by
  obtain ⟨mb, mc, es, us, hp, hg, rfl⟩ := hh
  replace hF := fun b o h => hF b o (hp.mem_iff.2 h)
  have : Fat F cb (cellsO [.int .i64 (fr : Int), .int .i64 (ck : Int), .map (some mb)] 97) := ⟨hF _ _ List.mem_cons_self⟩
  have : Fat F mb (mapO kvp (es.map meC) mc) := ⟨hF _ _ (List.mem_cons_of_mem _ List.mem_cons_self)⟩
  obtain ⟨p, hpv, hps⟩ : ∃ p, ((findM (es.map meC) key).map (·.v)).getD (.pointer none) = .pointer p ∧ p.isSome = hasK (viewC us) key := by
    rcases hg.look key with ⟨h1, h2⟩ | ⟨e, _, _, h1, h2⟩
    · exact ⟨none, by rw [h2]; rfl, by rw [h1]; rfl⟩
    · exact ⟨some ⟨e.blk, 0, none⟩, by rw [h2]; rfl, by rw [h1]; rfl⟩
  refine Spec.of (n := 12) (vs := [.pointer (some ⟨cb, 0, none⟩), kvp key]) Try.func72 rfl Try.ntmps72 rfl ?_
  refine Vc.seq ?_
  refine Vc.text (List.range 2) (sd [(0, .eff), (1, .pure)]) rfl ?_
  refine Rg.box rfl rfl rfl rfl rfl (fun b3 => ?_)
  refine Rg.pure rfl rfl rfl (Pv.assign rfl) ?_
  refine Rg.nil ?_
  refine Vc.seq ?_
  refine Vc.draw [] (sd [(0, .pure), (1, .pure), (2, .pure), (3, .read), (4, .read), (5, .read), (6, .pure), (7, .pure)]) mixed (by kernel_rfl) ?_
  refine Rg.pure rfl rfl rfl (Pv.move rfl) ?_
  refine Rg.pure rfl rfl rfl (Pv.nilp rfl) ?_
  refine Rg.pure rfl rfl rfl (Pv.fa rfl) ?_
  refine Rg.read rfl rfl rfl (Ev.ld rfl rfl) ?_
  refine Rg.read rfl rfl rfl (Ev.ldA rfl rfl) ?_
  refine Rg.read rfl rfl rfl (Ev.as (.pointer p) (Ev.lookup (kv := kvp) (k := key) rfl rfl hg.nodup) hpv) ?_
  refine Rg.pure rfl rfl rfl (Pv.neqNil rfl rfl) ?_
  refine Rg.pure rfl rfl rfl (Pv.assign rfl) ?_
  refine Rg.nil ?_
  refine Vc.ret (Vc.rets rfl (.cons (.tmp rfl) (.nil)) ?_)
  exact congrArg Value.bool hps

theorem cmp_specp {F : Fm} {cb fr ck mb mc b1 : Nat} {es us : List (Ce KTp)} (hg : Good ck mc es us) (hck : ck < 4611686018427387904)
    [f1 : Fat F b1 (cellsO [.pointer (some ⟨cb, 0, none⟩)] 51)] [f2 : Fat F cb (cellsO [.int .i64 (fr : Int), .int .i64 (ck : Int), .map (some mb)] 97)] [f3 : Fat F mb (mapO kvp (es.map meC) mc)]
    (hF : ∀ e ∈ us, F.at_ e.blk (cellsO [.int .i64 (e.used : Int), .int .i64 (e.pins : Int)] 112)) (x y : Ce KTp) (hx : x ∈ us) (hy : y ∈ us) :
    Spec Try.prog 97 #[kvp x.k, kvp y.k, .pointer (some ⟨b1, 0, none⟩)] F [] fun v _ => v = .int .i64 ((x.used : Int) - (y.used : Int)) := by
  have hlx := hg.le x hx
  have hly := hg.le y hy
  have : Fat F x.blk (cellsO [.int .i64 (x.used : Int), .int .i64 (x.pins : Int)] 112) := ⟨hF x hx⟩
  have : Fat F y.blk (cellsO [.int .i64 (y.used : Int), .int .i64 (y.pins : Int)] 112) := ⟨hF y hy⟩
  have ex : ((findM (es.map meC) x.k).map (·.v)).getD (.pointer none) = .pointer (some ⟨x.blk, 0, none⟩) := by
    rw [findM_some hg.nodup (List.mem_map.2 ⟨x, hg.perm.mem_iff.2 hx, rfl⟩) rfl]; rfl
  have ey : ((findM (es.map meC) y.k).map (·.v)).getD (.pointer none) = .pointer (some ⟨y.blk, 0, none⟩) := by
    rw [findM_some hg.nodup (List.mem_map.2 ⟨y, hg.perm.mem_iff.2 hy, rfl⟩) rfl]; rfl
  refine Spec.of (n := 25) (vs := [kvp x.k, kvp y.k, .pointer (some ⟨b1, 0, none⟩)]) Try.func97 rfl Try.ntmps97 rfl ?_
  refine Vc.seq ?_
  refine Vc.text (List.range 3) (sd [(0, .eff), (1, .eff), (2, .pure)]) rfl ?_
  refine Rg.box rfl rfl rfl rfl rfl (fun b3 => ?_)
  refine Rg.box rfl rfl rfl rfl rfl (fun b4 => ?_)
  refine Rg.pure rfl rfl rfl (Pv.assign rfl) ?_
  refine Rg.nil ?_
  refine Vc.seq ?_
  refine Vc.draw [] (sd [(0, .read), (1, .pure), (2, .pure), (3, .read), (4, .read), (5, .read), (6, .pure), (7, .pure), (8, .read), (9, .read), (10, .pure), (11, .pure), (12, .read), (13, .read), (14, .read), (15, .pure), (16, .pure), (17, .read), (18, .pure), (19, .pure)]) mixed (by kernel_rfl) ?_
  refine Rg.read rfl rfl rfl (Ev.ld rfl rfl) ?_
  refine Rg.pure rfl rfl rfl (Pv.nilp rfl) ?_
  refine Rg.pure rfl rfl rfl (Pv.fa rfl) ?_
  refine Rg.read rfl rfl rfl (Ev.ld rfl rfl) ?_
  refine Rg.read rfl rfl rfl (Ev.ldA rfl rfl) ?_
  refine Rg.read rfl rfl rfl (Ev.as (.pointer (some ⟨x.blk, 0, none⟩)) (Ev.lookup (kv := kvp) (k := x.k) rfl rfl hg.nodup) ex) ?_
  refine Rg.pure rfl rfl rfl (Pv.nilp rfl) ?_
  refine Rg.pure rfl rfl rfl (Pv.fa rfl) ?_
  refine Rg.read rfl rfl rfl (Ev.ld rfl rfl) ?_
  refine Rg.read rfl rfl rfl (Ev.ld rfl rfl) ?_
  refine Rg.pure rfl rfl rfl (Pv.nilp rfl) ?_
  refine Rg.pure rfl rfl rfl (Pv.fa rfl) ?_
  refine Rg.read rfl rfl rfl (Ev.ld rfl rfl) ?_
  refine Rg.read rfl rfl rfl (Ev.ldA rfl rfl) ?_
  refine Rg.read rfl rfl rfl (Ev.as (.pointer (some ⟨y.blk, 0, none⟩)) (Ev.lookup (kv := kvp) (k := y.k) rfl rfl hg.nodup) ey) ?_
  refine Rg.pure rfl rfl rfl (Pv.nilp rfl) ?_
  refine Rg.pure rfl rfl rfl (Pv.fa rfl) ?_
  refine Rg.read rfl rfl rfl (Ev.ld rfl rfl) ?_
  refine Rg.pure rfl rfl rfl (Pv.sub rfl rfl (by omega)) ?_
  refine Rg.pure rfl rfl rfl (Pv.assign rfl) ?_
  refine Rg.nil ?_
  refine Vc.ret (Vc.rets rfl (.cons (.tmp rfl) (.nil)) ?_)
  rfl
end Go.Proofs.Ytjhegjcjplpmjaa
