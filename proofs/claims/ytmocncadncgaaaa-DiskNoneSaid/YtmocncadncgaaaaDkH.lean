/- Disks: a disk among blocks; New, Arm, Restart, what it tells of itself. -/
import Derived.Test.YtmocncadncgaaaaDkG
namespace Go.Proofs.Ytmocncadncgaaaa
set_option linter.unusedVariables false

structure Dk where
  files : List (List UInt8 × Fl)
  room : Int
  used : Int
  ops : Int
  armed : Int
  keep : List Bool
  down : Bool
/-- A disk, at pointer db. -/
def DiskAt (db : Nat) (D : Dk) (hl : Hl) : Prop := ∃ mb mc ms hf kv sk, FilesAt ms D.files hf ∧ (ms.map (·.k)).Nodup ∧ (ms.map (·.born)).Nodup ∧ (∀ m ∈ ms, m.born < mc) ∧ Own boolE kv D.keep sk ∧
  hl.Perm ((db, dkO mb D.room D.used D.ops D.armed kv D.down) :: (mb, mapO kS ms mc) :: (hf ++ sk))
theorem Spec.perm {P : Program} {f : Nat} {args : Array Value} {F : Fm} {h1 h2 : Hl} {post : Value → Hl → Prop} (h : Spec P f args F h2 post) (hp : h1.Perm h2) : Spec P f args F h1 post := fun w hw => h w (hw.perm hp)

theorem new_spec (F : Fm) (room : Int) : Spec Try.prog 13 #[.int .i64 room] F [] fun v s => ∃ db, v = .pointer (some ⟨db, 0, none⟩) ∧ DiskAt db ⟨[], max room 0, 0, 0, 0, [], false⟩ s := by
  refine Spec.of (n := 8) (vs := [.int .i64 room]) Try.func13 rfl Try.ntmps13 rfl ?_
  refine Vc.seq ?_
  refine Vc.text (List.range 1) (sd [(0, .pure)]) rfl ?_
  refine Rg.pure rfl rfl rfl (Pv.assign rfl) ?_
  refine Rg.nil ?_
  refine Vc.seq ?_
  refine Vc.text (List.range 6) (sd [(0, .eff), (1, .pure), (2, .pure), (3, .pure), (4, .eff), (5, .pure)]) rfl ?_
  refine Rg.makeMap kS rfl rfl rfl (fun b3 => ?_)
  refine Rg.pure rfl rfl rfl (Pv.move rfl) ?_
  refine Rg.pure rfl rfl rfl (Pv.max rfl rfl) ?_
  refine Rg.pure rfl rfl rfl (Pv.build (c := #[.map (some b3), .int .i64 (max room 0), .int .i64 0, .int .i64 0, .int .i64 0, .slice none 0 0, .int .u32 0]) rfl rfl) ?_
  refine Rg.box rfl rfl rfl rfl rfl (fun b7 => ?_)
  refine Rg.pure rfl rfl rfl (Pv.assign rfl) ?_
  refine Rg.nil ?_
  exact Vc.ret (Vc.retsH (hl' := [(b7, cellsO [.map (some b3), .int .i64 (max room 0), .int .i64 0, .int .i64 0, .int .i64 0, .slice none 0 0, .int .u32 0] 75), (b3, mapO kS [] 0)]) rfl (.cons (.tmp rfl) .nil) ⟨b7, rfl, b3, 0, [], [], .slice none 0 0, [], .nil, .nil, .nil, (fun m hm => by cases hm), .nil, .refl _⟩ pulled)
theorem arm_spec {F : Fm} {db : Nat} {D : Dk} {s : Hl} (hD : DiskAt db D s) (n : Int) {kv : Value} {ks : List Bool} (hk : Arg boolE F kv ks) (hkl : ks.length < 4294967296) :
    Spec Try.prog 19 #[.pointer (some ⟨db, 0, none⟩), .int .i64 n, kv] F s fun _ s' => DiskAt db { D with armed := max n 0, keep := ks } s' := by
  obtain ⟨mb, mc, ms, hf, kv0, sk, hfl, hn, hbn, hold, own, hp⟩ := hD
  refine Spec.perm ?_ hp
  obtain ⟨pk, ck, rfl⟩ := hk.shape
  refine Spec.of (n := 16) (vs := [.pointer (some ⟨db, 0, none⟩), .int .i64 n, .slice pk ks.length ck]) Try.func19 rfl Try.ntmps19 rfl ?_
  refine Vc.text (List.range 12) (sd [(0, .pure), (1, .pure), (2, .pure), (3, .pure), (4, .pure), (5, .eff), (6, .pure), (7, .pure), (8, .eff), (9, .pure), (10, .pure), (11, .eff)]) rfl ?_
  refine Rg.pure rfl rfl rfl (Pv.move rfl) ?_
  refine Rg.pure rfl rfl rfl (Pv.move rfl) ?_
  refine Rg.pure rfl rfl rfl (Pv.move rfl) ?_
  refine Rg.pure rfl rfl rfl (Pv.max rfl rfl) ?_
  refine Rg.pure rfl rfl rfl (Pv.move rfl) ?_
  refine Rg.callA rfl rfl rfl (run_callF rfl) (cloneB_spec (hk.mono fun b o h => Or.inr h) hkl) ?_
  rintro v11 s11 own11
  refine Rg.pure rfl rfl rfl (Pv.nilp rfl) ?_
  refine Rg.pure rfl rfl rfl (Pv.fa rfl) ?_
  refine Rg.store rfl rfl rfl rfl rfl rfl rfl rfl ?_
  refine Rg.pure rfl rfl rfl (Pv.nilp rfl) ?_
  refine Rg.pure rfl rfl rfl (Pv.fa rfl) ?_
  refine Rg.store rfl rfl rfl rfl rfl own11.one rfl rfl ?_
  refine Rg.nil ?_
  exact Vc.fin (Vc.retsH rfl .nil ((show DiskAt db { D with armed := max n 0, keep := ks } ((db, dkO mb D.room D.used D.ops (max n 0) v11 D.down) :: (mb, mapO kS ms mc) :: (hf ++ s11)) from ⟨mb, mc, ms, hf, v11, s11, hfl, hn, hbn, hold, own11, .refl _⟩)) pulled)
section
variable {F : Fm} {db : Nat} {D : Dk} {s : Hl}
theorem downD_spec (hD : DiskAt db D s) (hF : ∀ b o, (b, o) ∈ s → F.at_ b o) : Spec Try.prog 20 #[.pointer (some ⟨db, 0, none⟩)] F [] fun v _ => v = .bool D.down := by
  obtain ⟨mb, mc, ms, hf, kv, sk, hfl, hn, hbn, hold, own, hp⟩ := hD
  have : Fat F db (dkO mb D.room D.used D.ops D.armed kv D.down) := ⟨hF _ _ (hp.mem_iff.2 List.mem_cons_self)⟩
  exact down_spec (mb := mb) (room := D.room) (used := D.used) (ops := D.ops) (armed := D.armed) (keep := kv)
theorem opsD_spec (hD : DiskAt db D s) (hF : ∀ b o, (b, o) ∈ s → F.at_ b o) : Spec Try.prog 21 #[.pointer (some ⟨db, 0, none⟩)] F [] fun v _ => v = .int .i64 D.ops := by
  obtain ⟨mb, mc, ms, hf, kv, sk, hfl, hn, hbn, hold, own, hp⟩ := hD
  have : Fat F db (dkO mb D.room D.used D.ops D.armed kv D.down) := ⟨hF _ _ (hp.mem_iff.2 List.mem_cons_self)⟩
  exact ops_spec (mb := mb) (room := D.room) (used := D.used) (armed := D.armed) (keep := kv) (down := D.down)
theorem usedD_spec (hD : DiskAt db D s) (hF : ∀ b o, (b, o) ∈ s → F.at_ b o) : Spec Try.prog 17 #[.pointer (some ⟨db, 0, none⟩)] F [] fun v _ => v = .int .i64 D.used := by
  obtain ⟨mb, mc, ms, hf, kv, sk, hfl, hn, hbn, hold, own, hp⟩ := hD
  have : Fat F db (dkO mb D.room D.used D.ops D.armed kv D.down) := ⟨hF _ _ (hp.mem_iff.2 List.mem_cons_self)⟩
  exact used_spec (mb := mb) (room := D.room) (ops := D.ops) (armed := D.armed) (keep := kv) (down := D.down)
theorem roomD_spec (hD : DiskAt db D s) (hF : ∀ b o, (b, o) ∈ s → F.at_ b o) : Spec Try.prog 18 #[.pointer (some ⟨db, 0, none⟩)] F [] fun v _ => v = .int .i64 D.room := by
  obtain ⟨mb, mc, ms, hf, kv, sk, hfl, hn, hbn, hold, own, hp⟩ := hD
  have : Fat F db (dkO mb D.room D.used D.ops D.armed kv D.down) := ⟨hF _ _ (hp.mem_iff.2 List.mem_cons_self)⟩
  exact room_spec (mb := mb) (used := D.used) (ops := D.ops) (armed := D.armed) (keep := kv) (down := D.down)
end
end Go.Proofs.Ytmocncadncgaaaa
