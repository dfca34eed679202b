/- Steps of the proof. -/
import Derived.Test.YtkpiakgmkpbikaaGreatDoorTz
set_option linter.unusedVariables false
namespace Go.Proofs.YtkpiakgmkpbikaaGreatDoor
theorem Pv.quoU {P:Program} {n:Nf} {l:Env} {d:Option Tmp} {ty:TypeId} {pos:String} {af:Array Edge} {g:Option (Nat×Bool)} {t t':TypeId} {x y:Operand} {p q:Int} (hx:ev l x=some (.int .u64 p)) (hy:ev l y=some (.int .u64 q)) (h:0≤p∧p<18446744073709551616∧0<q):Pv P n l ⟨d,.binOp .quo t x y t',ty,pos,af,g⟩ (.int .u64 (p / q)):=Pv.ar hx hy fun w=>by
 have hq:q≠0:=by omega
 have hd:p.tdiv q=p / q:=Int.tdiv_eq_ediv_of_nonneg h.1
 have h1:0≤p / q:=Int.ediv_nonneg h.1 (by omega)
 have h2:p / q≤p:=Int.ediv_le_self _ h.1
 have hw:IntKind.u64.wrap (p / q)=p / q:=by rw [wrap_u64i h1];omega
 simp [binOp,Op.intDiv,hq,hd,hw]
theorem msgP_in {p:Prg} {val out w:Int} (hv:InU val) (hw:0≤w∧w<4294967296) (ho:0≤out):InU (msgP p val out w):=by
 unfold msgP InU at *
 split
 · exact comb_in hv (by omega)
 · split
   · exact comb_in hv (by omega)
   · split
     · split
       · omega
       · have h1:0≤val / out:=Int.ediv_nonneg hv.1 ho
         have h2:val / out≤val:=Int.ediv_le_self _ hv.1
         omega
     · split
       · omega
       · exact hv
theorem nextP_in {p:Prg} {val:Int} {o:Option Int} (hv:InU val) (ho:∀s,o=some s→InU s):InU (nextP p val o).1:=by
 unfold nextP InU at *
 have h0:0≤o.getD 0∧o.getD 0<18446744073709551616:=by
  cases o with
  | none=>exact ⟨Int.le_refl _,by decide⟩
  | some s=>exact ho s rfl
 split
 · show 0≤157284+o.getD 0 / 20*17∧157284+o.getD 0 / 20*17<_
   omega
 · split
   · exact h0
   · cases o with
     | none=>exact hv
     | some s =>
      have h1:=ho s rfl
      by_cases h:s<val
      · rw [lessN,if_pos h];exact h1
      · rw [lessN,if_neg h];exact hv
section
variable {F : Fm} {p : Prg}
theorem tmsg_spec (val:Int) (hv:InU val) (out:Int) (ho:0≤out∧out≤9223372036854775807) (w:Nat) (hw:w<4294967296):Spec Tryz.prog 262 #[prV p,.int .u64 val,.int .i64 out,.int .u32 (w:Int)] F [] fun v _=>v=.int .u64 (msgP p val out (w:Int)):=by
 refine Spec.of (n:=32) (vs:=[prV p,.int .u64 val,.int .i64 out,.int .u32 (w:Int)]) Tryz.func262 rfl Tryz.ntmps262 rfl ?_
 refine sj [.e,.p] Z<|Rg.box Z Z Z Z Z (fun b4=>?_)
 refine aj Z<|nl<|wj<|sj [.p,.r] Z<|fj Z<|lj Z Z<|nl<|bj<|sj [.p,.p] Z<|uj Z (Pv.eql Z Z)<|aj Z<|nl<|cj Z (fun h11=>?_) (fun h11=>?_)
 · have hk:p.kind=1:=by simpa using h11
   have hm:msgP p val out (w:Int)=comb 1 val 1:=by rw [msgP,if_pos hk]
   refine sj [.p,.e,.p] Z<|mj Z<|Rg.callP Z Z Z (mz Z) (combine_spec _ 1 val 1 hv.1 (by omega)) ?_
   rintro _ rfl
   refine aj Z<|nl<|vz Z (tz Z) ?_
   exact congrArg (Value.int .u64) hm.symm
 · have hk1 : ¬p.kind=1:=by simpa using h11
   refine sj [.p,.p] Z<|uj Z (Pv.eql Z Z)<|aj Z<|nl<|cj Z (fun h15=>?_) (fun h15=>?_)
   · have hk:p.kind=3:=by simpa using h15
     have hm:msgP p val out (w:Int)=comb 1 val (w:Int):=by rw [msgP,if_neg hk1,if_pos hk]
     refine sj [.p,.p,.p,.e,.p] Z<|mj Z<|mj Z<|uj Z (Pv.asI w (Pv.convI rfl) (wrap_ult rfl (by show w<2 ^ 64;omega)))<|Rg.callP Z Z Z (mz Z) (combine_spec _ 1 val (w:Int) hv.1 (by omega)) ?_
     rintro _ rfl
     refine aj Z<|nl<|vz Z (tz Z) ?_
     exact congrArg (Value.int .u64) hm.symm
   · have hk3 : ¬p.kind=3:=by simpa using h15
     refine sj [.p,.p] Z<|uj Z (Pv.eql Z Z)<|aj Z<|nl<|cj Z (fun h21=>?_) (fun h21=>?_)
     · have hk:p.kind=4:=by simpa using h21
       have hm:msgP p val out (w:Int)=if out<1 then 0 else val / out:=by rw [msgP,if_neg hk1,if_neg hk3,if_pos hk]
       refine wj<|sj [.p,.p] Z<|mj Z<|uj Z (Pv.lss Z Z)<|nl<|cj Z (fun h24=>?_) (fun h24=>?_)
       · simp only [dt] at h24
         rw [if_pos h24] at hm
         refine sj [.p] Z<|aj Z<|nl<|vz Z (tz Z) ?_
         exact congrArg (Value.int .u64) hm.symm
       · simp only [df] at h24
         rw [if_neg h24] at hm
         refine kj<|sj [.p,.p,.p,.p,.p] Z<|mj Z<|mj Z<|uj Z (Pv.as (.int .u64 out) (Pv.convI rfl) (by rw [wrap_u64i ho.1,Int.emod_eq_of_lt ho.1 (by omega)]))<|uj Z (Pv.quoU rfl rfl ⟨hv.1,hv.2,by omega⟩)<|aj Z<|nl<|vz Z (tz Z) ?_
         exact congrArg (Value.int .u64) hm.symm
     · have hk4 : ¬p.kind=4:=by simpa using h21
       refine sj [.p,.p] Z<|uj Z (Pv.eql Z Z)<|aj Z<|nl<|cj Z (fun h29=>?_) (fun h29=>?_)
       · have hk:p.kind=5:=by simpa using h29
         have hm:msgP p val out (w:Int)=1:=by rw [msgP,if_neg hk1,if_neg hk3,if_neg hk4,if_pos hk]
         refine sj [.p] Z<|aj Z<|nl<|vz Z (tz Z) ?_
         exact congrArg (Value.int .u64) hm.symm
       · have hk5 : ¬p.kind=5:=by simpa using h29
         have hm:msgP p val out (w:Int)=val:=by rw [msgP,if_neg hk1,if_neg hk3,if_neg hk4,if_neg hk5]
         refine kj<|dj<|sj [.p,.p] Z<|mj Z<|aj Z<|nl<|vz Z (tz Z) ?_
         exact congrArg (Value.int .u64) hm.symm
theorem tnext_spec (val:Int) (hv:InU val) (sum:Int) (hs:InU sum) (any:Bool):Spec Tryz.prog 210 #[prV p,.int .u64 val,.int .u64 sum,.bool any] F [] fun v _=>v=.tuple #[.int .u64 (nextP p val (if any=true then some sum else none)).1,.bool (nextP p val (if any=true then some sum else none)).2]:=by
 unfold InU at hv hs
 obtain ⟨o,ho⟩:∃o,o=(if any=true then some sum else none):=⟨_,rfl⟩
 rw [←ho]
 refine Spec.of (n:=36) (vs:=[prV p,.int .u64 val,.int .u64 sum,.bool any]) Tryz.func210 rfl Tryz.ntmps210 rfl ?_
 refine sj [.e,.p,.p] Z<|Rg.box Z Z Z Z Z (fun b4=>?_)
 refine aj Z<|aj Z<|nl<|wj<|sj [.p,.p] Z<|mj Z<|uj Z (Pv.not Z)<|nl<|Vc.cut1 (fun (z:Int)=>z=o.getD 0∧InU z) (fun z=>[(2,.int .u64 z),(1,.int .u64 val),(3,.bool any),(4,.pointer (some ⟨b4,0,none⟩))]) (fun z=>[(b4,cellsO (prC p) 24)]) ?_ ?_
 · refine cj Z (fun h12=>?_) (fun h12=>?_)
   · have ha:any=false:=by simpa using h12
     refine tj [.p] Z<|aj Z<|nl ?_
     exact Vc.inv1 0 ⟨by rw [ho,ha];rfl,⟨Int.le_refl _,by decide⟩⟩ (.cons rfl (.cons rfl (.cons rfl (.cons rfl .nil)))) pulled
   · have ha:any=true:=by simpa using h12
     refine kj ?_
     exact Vc.inv1 sum ⟨by rw [ho,ha];rfl,hs⟩ (.cons rfl (.cons rfl (.cons rfl (.cons rfl .nil)))) pulled
 · rintro z ⟨hz,hzu⟩
   unfold InU at hzu
   refine wj<|sj [.p,.r] Z<|fj Z<|lj Z Z<|nl<|bj<|sj [.p,.p] Z<|uj Z (Pv.eql Z Z)<|aj Z<|nl<|cj Z (fun h15=>?_) (fun h15=>?_)
   · have hk:p.kind=4:=by simpa using h15
     have hm:nextP p val o=(157284+z / 20*17,decide (157284+z / 20*17≠val)):=by rw [nextP,if_pos hk,hz]
     refine sj [.p,.p,.p,.p,.p] Z<|mj Z<|uj Z (Pv.quoU rfl rfl ⟨hzu.1,hzu.2,by omega⟩)<|uj Z (Pv.as (.int .u64 (z / 20*17)) (Pv.mulW rfl rfl) (by rw [wrap_u64i (by omega),Int.emod_eq_of_lt (by omega) (by omega)]))<|uj Z (Pv.as (.int .u64 (157284+z / 20*17)) (Pv.addW rfl rfl) (by rw [wrap_u64i (by omega),Int.emod_eq_of_lt (by omega) (by omega)]))<|aj Z<|nl<|sj [.p,.p,.p,.p,.p,.p] Z<|mj Z<|mj Z<|mj Z<|uj Z (Pv.neq Z Z)<|aj Z<|aj Z<|nl ?_
     refine Vc.ret (Vc.rets Z (.cons (.tmp Z) (tz Z)) ?_)
     rw [hm]
     exact congrArg (fun b=>Value.tuple #[.int .u64 (157284+z / 20*17),.bool b]) (by rw [Bool.eq_iff_iff];simp)
   · have hk4 : ¬p.kind=4:=by simpa using h15
     refine sj [.p,.p] Z<|uj Z (Pv.eql Z Z)<|aj Z<|nl<|cj Z (fun h25=>?_) (fun h25=>?_)
     · have hk:p.kind=5:=by simpa using h25
       have hm:nextP p val o=(z,false):=by rw [nextP,if_neg hk4,if_pos hk,hz]
       refine sj [.p,.p,.p] Z<|mj Z<|aj Z<|aj Z<|nl<|Vc.ret (Vc.rets Z (.cons (.tmp Z) (tz Z)) ?_)
       rw [hm]
       rfl
     · have hk5 : ¬p.kind=5:=by simpa using h25
       have hm:nextP p val o=lessN val o:=by rw [nextP,if_neg hk4,if_neg hk5]
       refine kj<|dj<|wj<|sj [.p,.p,.p,.p,.p,.p] Z<|mj Z<|mj Z<|Rg.split (t:=29) Z (fun h29=>?_) (fun h29=>?_)
       · obtain rfl:o=some z:=by
          rw [ho,h29,if_pos rfl]
          rw [ho,h29,if_pos rfl] at hz
          rw [hz];rfl
         refine mj Z<|mj Z<|uj Z (Pv.lss Z Z)<|qj Z Z<|nl<|cj Z (fun h33=>?_) (fun h33=>?_)
         · simp only [dt] at h33
           try rw [lessN,if_pos h33] at hm
           refine sj [.p,.p,.p] Z<|mj Z<|aj Z<|aj Z<|nl<|Vc.ret (Vc.rets Z (.cons (.tmp Z) (tz Z)) ?_)
           rw [hm]
           rfl
         · simp only [df] at h33
           try rw [lessN,if_neg h33] at hm
           refine kj<|sj [.p,.p,.p] Z<|mj Z<|aj Z<|aj Z<|nl<|Vc.ret (Vc.rets Z (.cons (.tmp Z) (tz Z)) ?_)
           rw [hm]
           rfl
       · obtain rfl:o=none:=by rw [ho,h29];rfl
         iterate 3 (first | refine Rg.skipP rfl rfl rfl ?_ | refine Rg.skipR rfl rfl rfl ?_ | refine Rg.skipE rfl rfl rfl ?_)
         refine pj Z Z<|nl<|Vc.condF Z<|kj<|sj [.p,.p,.p] Z<|mj Z<|aj Z<|aj Z<|nl<|Vc.ret (Vc.rets Z (.cons (.tmp Z) (tz Z)) ?_)
         rw [hm]
         rfl
theorem rmsg_spec (val:Int) (hv:InU val) (out:Int) (ho:0≤out∧out≤9223372036854775807) (w:Nat) (hw:w<4294967296):Spec Tryz.prog 40 #[prV p,.int .u64 val,.int .i64 out,.int .u32 (w:Int)] F [] fun v _=>v=.int .u64 (msgP p val out (w:Int)):=by
 refine Spec.of (n:=32) (vs:=[prV p,.int .u64 val,.int .i64 out,.int .u32 (w:Int)]) Tryz.func40 rfl Tryz.ntmps40 rfl ?_
 refine sj [.e,.p] Z<|Rg.box Z Z Z Z Z (fun b4=>?_)
 refine aj Z<|nl<|wj<|sj [.p,.r] Z<|fj Z<|lj Z Z<|nl<|bj<|sj [.p,.p] Z<|uj Z (Pv.eql Z Z)<|aj Z<|nl<|cj Z (fun h11=>?_) (fun h11=>?_)
 · have hk:p.kind=1:=by simpa using h11
   have hm:msgP p val out (w:Int)=comb 1 val 1:=by rw [msgP,if_pos hk]
   refine sj [.p,.e,.p] Z<|mj Z<|Rg.callP Z Z Z (mz Z) (rcombine_spec _ 1 val 1 hv ⟨by omega,by omega⟩) ?_
   rintro _ rfl
   refine aj Z<|nl<|vz Z (tz Z) ?_
   exact congrArg (Value.int .u64) hm.symm
 · have hk1 : ¬p.kind=1:=by simpa using h11
   refine sj [.p,.p] Z<|uj Z (Pv.eql Z Z)<|aj Z<|nl<|cj Z (fun h15=>?_) (fun h15=>?_)
   · have hk:p.kind=3:=by simpa using h15
     have hm:msgP p val out (w:Int)=comb 1 val (w:Int):=by rw [msgP,if_neg hk1,if_pos hk]
     refine sj [.p,.p,.p,.e,.p] Z<|mj Z<|mj Z<|uj Z (Pv.asI w (Pv.convI rfl) (wrap_ult rfl (by show w<2 ^ 64;omega)))<|Rg.callP Z Z Z (mz Z) (rcombine_spec _ 1 val (w:Int) hv ⟨by omega,by omega⟩) ?_
     rintro _ rfl
     refine aj Z<|nl<|vz Z (tz Z) ?_
     exact congrArg (Value.int .u64) hm.symm
   · have hk3 : ¬p.kind=3:=by simpa using h15
     refine sj [.p,.p] Z<|uj Z (Pv.eql Z Z)<|aj Z<|nl<|cj Z (fun h21=>?_) (fun h21=>?_)
     · have hk:p.kind=4:=by simpa using h21
       have hm:msgP p val out (w:Int)=if out<1 then 0 else val / out:=by rw [msgP,if_neg hk1,if_neg hk3,if_pos hk]
       refine wj<|sj [.p,.p] Z<|mj Z<|uj Z (Pv.lss Z Z)<|nl<|cj Z (fun h24=>?_) (fun h24=>?_)
       · simp only [dt] at h24
         rw [if_pos h24] at hm
         refine sj [.p] Z<|aj Z<|nl<|vz Z (tz Z) ?_
         exact congrArg (Value.int .u64) hm.symm
       · simp only [df] at h24
         rw [if_neg h24] at hm
         refine kj<|sj [.p,.p,.p,.p,.p] Z<|mj Z<|mj Z<|uj Z (Pv.as (.int .u64 out) (Pv.convI rfl) (by rw [wrap_u64i ho.1,Int.emod_eq_of_lt ho.1 (by omega)]))<|uj Z (Pv.quoU rfl rfl ⟨hv.1,hv.2,by omega⟩)<|aj Z<|nl<|vz Z (tz Z) ?_
         exact congrArg (Value.int .u64) hm.symm
     · have hk4 : ¬p.kind=4:=by simpa using h21
       refine sj [.p,.p] Z<|uj Z (Pv.eql Z Z)<|aj Z<|nl<|cj Z (fun h29=>?_) (fun h29=>?_)
       · have hk:p.kind=5:=by simpa using h29
         have hm:msgP p val out (w:Int)=1:=by rw [msgP,if_neg hk1,if_neg hk3,if_neg hk4,if_pos hk]
         refine sj [.p] Z<|aj Z<|nl<|vz Z (tz Z) ?_
         exact congrArg (Value.int .u64) hm.symm
       · have hk5 : ¬p.kind=5:=by simpa using h29
         have hm:msgP p val out (w:Int)=val:=by rw [msgP,if_neg hk1,if_neg hk3,if_neg hk4,if_neg hk5]
         refine kj<|dj<|sj [.p,.p] Z<|mj Z<|aj Z<|nl<|vz Z (tz Z) ?_
         exact congrArg (Value.int .u64) hm.symm
theorem rnext_spec (val:Int) (hv:InU val) (sum:Int) (hs:InU sum) (any:Bool):Spec Tryz.prog 43 #[prV p,.int .u64 val,.int .u64 sum,.bool any] F [] fun v _=>v=.tuple #[.int .u64 (nextP p val (if any=true then some sum else none)).1,.bool (nextP p val (if any=true then some sum else none)).2]:=by
 unfold InU at hv hs
 obtain ⟨o,ho⟩:∃o,o=(if any=true then some sum else none):=⟨_,rfl⟩
 rw [←ho]
 refine Spec.of (n:=36) (vs:=[prV p,.int .u64 val,.int .u64 sum,.bool any]) Tryz.func43 rfl Tryz.ntmps43 rfl ?_
 refine sj [.e,.p,.p] Z<|Rg.box Z Z Z Z Z (fun b4=>?_)
 refine aj Z<|aj Z<|nl<|wj<|sj [.p,.p] Z<|mj Z<|uj Z (Pv.not Z)<|nl<|Vc.cut1 (fun (z:Int)=>z=o.getD 0∧InU z) (fun z=>[(2,.int .u64 z),(1,.int .u64 val),(3,.bool any),(4,.pointer (some ⟨b4,0,none⟩))]) (fun z=>[(b4,cellsO (prC p) 24)]) ?_ ?_
 · refine cj Z (fun h12=>?_) (fun h12=>?_)
   · have ha:any=false:=by simpa using h12
     refine tj [.p] Z<|aj Z<|nl ?_
     exact Vc.inv1 0 ⟨by rw [ho,ha];rfl,⟨Int.le_refl _,by decide⟩⟩ (.cons rfl (.cons rfl (.cons rfl (.cons rfl .nil)))) pulled
   · have ha:any=true:=by simpa using h12
     refine kj ?_
     exact Vc.inv1 sum ⟨by rw [ho,ha];rfl,hs⟩ (.cons rfl (.cons rfl (.cons rfl (.cons rfl .nil)))) pulled
 · rintro z ⟨hz,hzu⟩
   unfold InU at hzu
   refine wj<|sj [.p,.r] Z<|fj Z<|lj Z Z<|nl<|bj<|sj [.p,.p] Z<|uj Z (Pv.eql Z Z)<|aj Z<|nl<|cj Z (fun h15=>?_) (fun h15=>?_)
   · have hk:p.kind=4:=by simpa using h15
     have hm:nextP p val o=(157284+z / 20*17,decide (157284+z / 20*17≠val)):=by rw [nextP,if_pos hk,hz]
     refine sj [.p,.p,.p,.p,.p] Z<|mj Z<|uj Z (Pv.quoU rfl rfl ⟨hzu.1,hzu.2,by omega⟩)<|uj Z (Pv.as (.int .u64 (z / 20*17)) (Pv.mulW rfl rfl) (by rw [wrap_u64i (by omega),Int.emod_eq_of_lt (by omega) (by omega)]))<|uj Z (Pv.as (.int .u64 (157284+z / 20*17)) (Pv.addW rfl rfl) (by rw [wrap_u64i (by omega),Int.emod_eq_of_lt (by omega) (by omega)]))<|aj Z<|nl<|sj [.p,.p,.p,.p,.p,.p] Z<|mj Z<|mj Z<|mj Z<|uj Z (Pv.neq Z Z)<|aj Z<|aj Z<|nl ?_
     refine Vc.ret (Vc.rets Z (.cons (.tmp Z) (tz Z)) ?_)
     rw [hm]
     exact congrArg (fun b=>Value.tuple #[.int .u64 (157284+z / 20*17),.bool b]) (by rw [Bool.eq_iff_iff];simp)
   · have hk4 : ¬p.kind=4:=by simpa using h15
     refine sj [.p,.p] Z<|uj Z (Pv.eql Z Z)<|aj Z<|nl<|cj Z (fun h25=>?_) (fun h25=>?_)
     · have hk:p.kind=5:=by simpa using h25
       have hm:nextP p val o=(z,false):=by rw [nextP,if_neg hk4,if_pos hk,hz]
       refine sj [.p,.p,.p] Z<|mj Z<|aj Z<|aj Z<|nl<|Vc.ret (Vc.rets Z (.cons (.tmp Z) (tz Z)) ?_)
       rw [hm]
       rfl
     · have hk5 : ¬p.kind=5:=by simpa using h25
       have hm:nextP p val o=lessN val o:=by rw [nextP,if_neg hk4,if_neg hk5]
       refine kj<|dj<|wj<|sj [.p,.p,.p,.p,.p,.p] Z<|mj Z<|mj Z<|Rg.split (t:=29) Z (fun h29=>?_) (fun h29=>?_)
       · obtain rfl:o=some z:=by
          rw [ho,h29,if_pos rfl]
          rw [ho,h29,if_pos rfl] at hz
          rw [hz];rfl
         refine mj Z<|mj Z<|uj Z (Pv.lss Z Z)<|qj Z Z<|nl<|cj Z (fun h33=>?_) (fun h33=>?_)
         · simp only [dt] at h33
           try rw [lessN,if_pos h33] at hm
           refine sj [.p,.p,.p] Z<|mj Z<|aj Z<|aj Z<|nl<|Vc.ret (Vc.rets Z (.cons (.tmp Z) (tz Z)) ?_)
           rw [hm]
           rfl
         · simp only [df] at h33
           try rw [lessN,if_neg h33] at hm
           refine kj<|sj [.p,.p,.p] Z<|mj Z<|aj Z<|aj Z<|nl<|Vc.ret (Vc.rets Z (.cons (.tmp Z) (tz Z)) ?_)
           rw [hm]
           rfl
       · obtain rfl:o=none:=by rw [ho,h29];rfl
         iterate 3 (first | refine Rg.skipP rfl rfl rfl ?_ | refine Rg.skipR rfl rfl rfl ?_ | refine Rg.skipE rfl rfl rfl ?_)
         refine pj Z Z<|nl<|Vc.condF Z<|kj<|sj [.p,.p,.p] Z<|mj Z<|aj Z<|aj Z<|nl<|Vc.ret (Vc.rets Z (.cons (.tmp Z) (tz Z)) ?_)
         rw [hm]
         rfl
structure CfA (F:Fm) (a b:Value) (c:Cf):Prop where
 va:Arg u64E F a c.vals
 la:Arg boolE F b c.live
 len:c.live.length=c.vals.length
 few:c.vals.length≤1048576
theorem CfA.mono {F F':Fm} {a b:Value} {c:Cf} (h:CfA F a b c) (hF:∀b o,F.at_ b o→F'.at_ b o):CfA F' a b c:=⟨h.va.mono hF,h.la.mono hF,h.len,h.few⟩
theorem tquiet_spec {a b:Value} {c:Cf} (h:CfA F a b c):Spec Tryz.prog 193 #[cfV a b] F [] fun v _=>v=.bool (quietC c):=by
 have hl:=h.len
 have hf:=h.few
 obtain ⟨p1,c1,e1⟩:=h.va.shape
 obtain ⟨p2,c2,e2⟩:=h.la.shape
 have ha:=h.la
 subst e1;subst e2
 refine Spec.of (n:=7) (vs:=[cfV (.slice p1 c.vals.length c1) (.slice p2 c.live.length c2)]) Tryz.func193 rfl Tryz.ntmps193 rfl ?_
 refine sj [.e,.p] Z<|Rg.box Z Z Z Z Z (fun b1=>?_)
 refine aj Z<|nl<|sj [.p,.r,.e,.p,.p] Z<|fj Z<|lj Z Z ?_
 refine Rg.callP Z Z Z (mz Z) (containsT_spec (ha.mono fun b o h=>Or.inr h) (by omega)) ?_
 rintro _ rfl
 refine uj Z (Pv.not Z)<|aj Z<|nl<|vz Z (tz Z) ?_
 rfl
theorem rquiet_spec {a b:Value} {c:Cf} (h:CfA F a b c):Spec Tryz.prog 26 #[cfV a b] F [] fun v _=>v=.bool (quietC c):=by
 have hl:=h.len
 have hf:=h.few
 obtain ⟨p1,c1,e1⟩:=h.va.shape
 obtain ⟨p2,c2,e2⟩:=h.la.shape
 have ha:=h.la
 subst e1;subst e2
 refine Spec.of (n:=16) (vs:=[cfV (.slice p1 c.vals.length c1) (.slice p2 c.live.length c2)]) Tryz.func26 rfl Tryz.ntmps26 rfl ?_
 refine sj [.e,.p] Z<|Rg.box Z Z Z Z Z (fun b1=>?_)
 refine aj Z<|nl<|wj<|sj [.p] Z<|aj Z<|nl<|bj ?_
 refine Vc.loop1 (fun (k:Nat)=>k≤c.live.length∧(c.live.take k).any id=false) (fun k=>[(1,.pointer (some ⟨b1,0,none⟩)),(3,.int .i64 (k:Int))]) (fun k=>[(b1,cellsO [.slice p1 c.vals.length c1,.slice p2 c.live.length c2] 84)]) (fun k=>c.live.length-k) 0 ⟨Nat.zero_le _,Z⟩ (.cons Z (.cons Z .nil)) pulled ?_
 rintro k ⟨hk,hno⟩
 refine wj<|sj [.p,.p,.r,.p,.p] Z<|mj Z<|fj Z<|lj Z Z<|uj Z (Pv.lenS Z)<|uj Z (Pv.lss Z Z)<|nl<|cj Z (fun h8=>?_) (fun h8=>?_)
 · simp only [dt] at h8
   have hk1:k<c.live.length:=by omega
   obtain ⟨b,off,c',e,_⟩:=ha.block (by omega)
   cases e
   refine kj<|wj<|bj<|sj [.p,.r,.p,.p,.r] Z<|fj Z<|lj Z Z<|mj Z<|uj Z (Pv.ixA (k) rfl rfl (by omega) (by omega))<|rj Z (Ev.ldS (k) (ha.src) rfl rfl rfl (by omega))<|nl<|cj Z (fun h15=>?_) (fun h15=>?_)
   · refine sj [.p] Z<|aj Z<|nl<|vz Z (tz Z) ?_
     exact congrArg Value.bool (by
      unfold quietC
      rw [eq_comm,Bool.not_eq_false',List.any_eq_true]
      exact ⟨c.live[k]!,by rw [getElem!_pos c.live k hk1];exact List.getElem_mem _,h15⟩)
   · refine kj<|dj<|tj [.p,.p,.p] Z<|mj Z<|uj Z (Pv.asI (k+1) (Pv.add rfl rfl (by omega)) (by omega))<|aj Z<|nl ?_
     exact Vc.inv1 (k+1) ⟨⟨by omega,by
      rw [List.take_succ_eq_append_getElem hk1,List.any_append,hno,←getElem!_pos c.live k hk1,h15];rfl⟩,by omega⟩ (.cons rfl (.cons rfl .nil)) pulled
 · simp only [df] at h8
   rw [List.take_of_length_le (by omega)] at hno
   refine Vc.exit Z<|sj [.p] Z<|aj Z<|nl<|vz Z (tz Z) ?_
   exact congrArg Value.bool (by rw [quietC,hno];rfl)
theorem rright13_spec (hp:p.start<4294967296) (n:Int):Spec Tryz.prog 16 #[prV p,.int .i64 n] F [] fun v _=>v=.bool (rightP p n):=by
 refine Spec.of (n:=36) (vs:=[prV p,.int .i64 n]) Tryz.func16 rfl Tryz.ntmps16 rfl ?_
 refine sj [.e,.p] Z<|Rg.box Z Z Z Z Z (fun b2=>?_)
 refine aj Z<|nl<|wj<|wj<|Vc.cut1 (fun (bb:Bool)=>bb=true↔¬(1≤p.kind∧p.kind≤5∧0≤n∧n≤1048576)) (fun bb=>[(20,.bool bb),(1,.int .i64 n),(2,.pointer (some ⟨b2,0,none⟩))]) (fun bb=>[(b2,cellsO (prC p) 24)]) ?_ ?_
 · refine tj [.p,.r,.p,.p,.p,.r,.p,.p,.p,.p,.p,.p,.p,.p,.p,.p] Z<|fj Z<|lj Z Z<|uj Z (Pv.lss Z Z)<|mj Z ?_
   refine Rg.split (t:=8) Z (fun h8=>?_) (fun h8=>?_)
   · simp only [dt] at h8
     iterate 3 (first | refine Rg.skipP rfl rfl rfl ?_ | refine Rg.skipR rfl rfl rfl ?_ | refine Rg.skipE rfl rfl rfl ?_)
     refine qj Z Z<|mj Z ?_
     iterate 2 (first | refine Rg.skipP rfl rfl rfl ?_ | refine Rg.skipR rfl rfl rfl ?_ | refine Rg.skipE rfl rfl rfl ?_)
     refine qj Z Z<|mj Z ?_
     iterate 2 (first | refine Rg.skipP rfl rfl rfl ?_ | refine Rg.skipR rfl rfl rfl ?_ | refine Rg.skipE rfl rfl rfl ?_)
     refine qj Z Z<|nl ?_
     exact Vc.inv1 _ (by simp only [true_iff];omega) (.cons rfl (.cons rfl (.cons rfl .nil))) pulled
   · simp only [df] at h8
     refine fj Z<|lj Z Z<|uj Z (Pv.gtr Z Z)<|pj Z Z<|mj Z ?_
     refine Rg.split (t:=13) Z (fun h13=>?_) (fun h13=>?_)
     · simp only [dt] at h13
       iterate 2 (first | refine Rg.skipP rfl rfl rfl ?_ | refine Rg.skipR rfl rfl rfl ?_ | refine Rg.skipE rfl rfl rfl ?_)
       refine qj Z Z<|mj Z ?_
       iterate 2 (first | refine Rg.skipP rfl rfl rfl ?_ | refine Rg.skipR rfl rfl rfl ?_ | refine Rg.skipE rfl rfl rfl ?_)
       refine qj Z Z<|nl ?_
       exact Vc.inv1 _ (by simp only [true_iff];omega) (.cons rfl (.cons rfl (.cons rfl .nil))) pulled
     · simp only [df] at h13
       refine mj Z<|uj Z (Pv.lss Z Z)<|pj Z Z<|mj Z<|Rg.split (t:=17) Z (fun h17=>?_) (fun h17=>?_)
       · simp only [dt] at h17
         iterate 2 (first | refine Rg.skipP rfl rfl rfl ?_ | refine Rg.skipR rfl rfl rfl ?_ | refine Rg.skipE rfl rfl rfl ?_)
         refine qj Z Z<|nl ?_
         exact Vc.inv1 _ (by simp only [true_iff];omega) (.cons rfl (.cons rfl (.cons rfl .nil))) pulled
       · simp only [df] at h17
         refine mj Z<|uj Z (Pv.gtr Z Z)<|pj Z Z<|nl ?_
         exact Vc.inv1 _ (by simp only [dt];omega) (.cons rfl (.cons rfl (.cons rfl .nil))) pulled
 · rintro bb hbb
   refine cj Z (fun h20=>?_) (fun h20=>?_)
   · have hno:=hbb.1 h20
     refine sj [.p] Z<|aj Z<|nl<|vz Z (tz Z) ?_
     exact congrArg Value.bool (by
      rw [eq_comm,Bool.eq_false_iff]
      intro h
      rw [rightP_iff] at h
      exact hno ⟨h.1,h.2.1,h.2.2.1,h.2.2.2.1⟩)
   · have hyes:1≤p.kind∧p.kind≤5∧0≤n∧n≤1048576:=Classical.byContradiction fun h=>by rw [hbb.2 h] at h20;cases h20
     refine kj<|sj [.p,.r,.p,.p,.p,.r,.p,.p,.p,.p,.r,.p,.p,.p,.p,.p] Z<|fj Z<|lj Z Z<|uj Z (Pv.neq Z Z)<|mj Z ?_
     refine Rg.split (t:=24) Z (fun h24=>?_) (fun h24=>?_)
     · refine fj Z<|lj Z Z<|uj Z (Pv.neq Z Z)<|qj Z Z<|mj Z ?_
       refine Rg.split (t:=29) Z (fun h29=>?_) (fun h29=>?_)
       · iterate 5 (first | refine Rg.skipP rfl rfl rfl ?_ | refine Rg.skipR rfl rfl rfl ?_ | refine Rg.skipE rfl rfl rfl ?_)
         refine qj Z Z<|aj Z<|nl<|vz Z (tz Z) ?_
         exact congrArg Value.bool (by
          unfold rightP
          simp_all)
       · refine fj Z<|lj Z Z<|uj Z (Pv.asI p.start (Pv.convI rfl) (i64_wrap (by omega)))<|mj Z<|uj Z (Pv.lss Z Z)<|pj Z Z<|aj Z<|nl<|vz Z (tz Z) ?_
         exact congrArg Value.bool (by
          unfold rightP
          simp_all)
     · iterate 3 (first | refine Rg.skipP rfl rfl rfl ?_ | refine Rg.skipR rfl rfl rfl ?_ | refine Rg.skipE rfl rfl rfl ?_)
       refine pj Z Z<|mj Z<|fj Z<|lj Z Z<|uj Z (Pv.asI p.start (Pv.convI rfl) (i64_wrap (by omega)))<|mj Z<|uj Z (Pv.lss Z Z)<|pj Z Z<|aj Z<|nl<|vz Z (tz Z) ?_
       exact congrArg Value.bool (by
        unfold rightP
        simp_all)
theorem rhow_spec:Spec Tryz.prog 42 #[prV p] F [] fun v _=>v=.int .i64 (howP p):=by
 refine Spec.of (n:=11) (vs:=[prV p]) Tryz.func42 rfl Tryz.ntmps42 rfl ?_
 refine sj [.e,.p] Z<|Rg.box Z Z Z Z Z (fun b1=>?_)
 refine aj Z<|nl<|wj<|sj [.p,.r,.p,.p,.p,.r,.p,.p] Z<|fj Z<|lj Z Z<|uj Z (Pv.eql Z Z)<|mj Z ?_
 refine Rg.split (t:=6) Z (fun h6=>?_) (fun h6=>?_)
 · iterate 3 (first | refine Rg.skipP rfl rfl rfl ?_ | refine Rg.skipR rfl rfl rfl ?_ | refine Rg.skipE rfl rfl rfl ?_)
   refine qj Z Z<|nl<|Vc.condT Z<|sj [.p] Z<|aj Z<|nl<|vz Z (tz Z) ?_
   exact congrArg (Value.int .i64) (by unfold howP;simp_all)
 · refine fj Z<|lj Z Z<|uj Z (Pv.eql Z Z)<|pj Z Z<|nl<|cj Z (fun h10=>?_) (fun h10=>?_)
   · refine sj [.p] Z<|aj Z<|nl<|vz Z (tz Z) ?_
     exact congrArg (Value.int .i64) (by unfold howP;simp_all)
   · refine kj<|sj [.p] Z<|aj Z<|nl<|vz Z (tz Z) ?_
     exact congrArg (Value.int .i64) (by unfold howP;simp_all)
def sendsP (p:Prg) (c:Cf) (v:Nat):Bool:=if p.kind=4 then !quietC c else c.live[v]!
theorem sends_spec {a b:Value} {c:Cf} (h:CfA F a b c) (v:Nat) (hv:v<c.live.length):Spec Tryz.prog 39 #[prV p,cfV a b,.int .i64 (v:Int)] F [] fun u _=>u=.bool (sendsP p c v):=by
 have hl:=h.len
 have hf:=h.few
 have h0:=h
 obtain ⟨p1,c1,e1⟩:=h.va.shape
 obtain ⟨p2,c2,e2⟩:=h.la.shape
 have ha:=h.la
 subst e1;subst e2
 refine Spec.of (n:=27) (vs:=[prV p,cfV (.slice p1 c.vals.length c1) (.slice p2 c.live.length c2),.int .i64 (v:Int)]) Tryz.func39 rfl Tryz.ntmps39 rfl ?_
 refine sj [.e,.e,.p] Z<|Rg.box Z Z Z Z Z (fun b3=>?_)
 refine Rg.box Z Z Z Z Z (fun b4=>?_)
 refine aj Z<|nl<|wj<|sj [.p,.p,.p,.p,.p,.r,.p,.p,.p] Z<|mj Z<|uj Z (Pv.lss Z Z)<|mj Z<|Rg.split (t:=9) rfl (fun h9=>absurd h9 (by (simp only [dt];omega))) (fun h9=>?_)
 refine mj Z<|fj Z<|lj Z Z<|uj Z (Pv.lenS Z)<|uj Z (Pv.geq Z Z)<|pj Z Z<|nl<|cj Z (fun h15=>absurd h15 (by (simp only [dt];omega))) (fun h15=>?_)
 refine kj<|wj<|sj [.p,.r,.p] Z<|fj Z<|lj Z Z<|uj Z (Pv.eql Z Z)<|nl<|cj Z (fun h18=>?_) (fun h18=>?_)
 · have hk:p.kind=4:=by simpa using h18
   refine sj [.r,.e,.p,.p] Z<|rj Z (Ev.ldA Z Z)<|Rg.callP Z Z Z (mz Z) (rquiet_spec (h0.mono fun b o h=>Or.inr h)) ?_
   rintro _ rfl
   refine uj Z (Pv.not Z)<|aj Z<|nl<|vz Z (tz Z) ?_
   rw [sendsP,if_pos hk]
   rfl
 · have hk : ¬p.kind=4:=by simpa using h18
   obtain ⟨b,off,c',e,_⟩:=ha.block (by omega)
   cases e
   refine kj<|sj [.p,.r,.p,.p,.r,.p] Z<|fj Z<|lj Z Z<|mj Z<|uj Z (Pv.ixA (v) rfl rfl (by omega) (by omega))<|rj Z (Ev.ldS (v) (ha.src) rfl rfl rfl (by omega))<|aj Z<|nl<|vz Z (tz Z) ?_
   rw [sendsP,if_neg hk]
   rfl
end
def CfO (v:Value) (c:Cf) (s:Hl):Prop:=∃a b s1 s2,v=cfV a b∧Own u64E a c.vals s1∧Own boolE b c.live s2∧s=s1++s2
structure InC (c:Cf) (n:Nat):Prop where
 vl:c.vals.length=n
 ll:c.live.length=n
 few:n≤1048576
 in_:∀v,v<n→InU c.vals[v]!
theorem CfO.args {v:Value} {c:Cf} {s:Hl} {n:Nat} (h:CfO v c s) (hi:InC c n) {F:Fm} (hF:∀b o,(b,o)∈s→F.at_ b o):∃a b,v=cfV a b∧CfA F a b c:=by
 obtain ⟨a,b,s1,s2,rfl,o1,o2,rfl⟩:=h
 exact ⟨a,b,rfl,Arg.own o1 fun b o h=>hF b o (List.mem_append_left _ h),Arg.own o2 fun b o h=>hF b o (List.mem_append_right _ h),by rw [hi.ll,hi.vl],by rw [hi.vl];exact hi.few⟩
theorem startC_in {p:Prg} {n:Nat} (hn:n≤1048576):InC (startC p n) n:=by
 refine ⟨by simp [startC],by simp [startC],hn,fun v hv=>?_⟩
 rw [getElem!_pos (startC p n).vals v (by simpa [startC] using hv)]
 simp only [startC,List.getElem_map,List.getElem_range,sA,InU]
 split
 · omega
 · split
   · omega
   · split
     · split<;>omega
     · omega
section
variable {F : Fm} {p : Prg}
theorem may_spec2 (hp:p.start<4294967296) (n:Nat) (hn:n≤1048576):Spec Tryz.prog 234 #[prV p,.agg #[.int .i64 (n:Int),.slice none 0 0]] F [] fun v _=>v=.bool (rightP p n):=by
 have hr:ED.rightG (n:Int) []=true:=by simp [ED.rightG];omega
 refine Spec.of (n:=13) (vs:=[prV p,.agg #[.int .i64 (n:Int),.slice none 0 0]]) Tryz.func234 rfl Tryz.ntmps234 rfl ?_
 refine sj [.e,.e,.p] Z<|Rg.box Z Z Z Z Z (fun b2=>?_)
 refine Rg.box Z Z Z Z Z (fun b3=>?_)
 refine aj Z<|nl<|sj [.r,.e,.p,.r,.p,.r,.e,.p,.p] Z<|rj Z (Ev.ldA Z Z)<|Rg.callP Z Z Z (mz Z) (ED.right_spec (va:=.slice none 0 0) (es:=[]) Arg.nil (by simp) (fun e he=>by cases he) (n:Int)) ?_
 rintro _ rfl
 rw [hr]
 refine mj Z<|Rg.split (t:=7) rfl (fun h7=>?_) (fun h7=>absurd h7 (by decide))
 refine rj Z (Ev.ldA Z Z)<|fj Z<|lj Z Z ?_
 refine Rg.callP Z Z Z (mz Z) (tright_spec hp (n:Int)) ?_
 rintro _ rfl
 refine qj Z Z<|aj Z<|nl<|vz Z (tz Z) ?_
 rfl
def A0 (p:Prg) (j:Nat):Int:=if p.kind=2 then j else if p.kind=4 then 1048576 else if p.kind=1∨p.kind=3 then 18446744073709551615 else 0
def B0 (p:Prg):Bool:=if p.kind=1∨p.kind=3 then false else true
theorem sA_one {p:Prg} (h:p.kind=1∨p.kind=3) (j:Nat):sA p j=if j=p.start then 0 else 18446744073709551615:=by
 rw [sA,if_neg (by omega),if_neg (by omega),if_pos h]
theorem A0_one {p:Prg} (h:p.kind=1∨p.kind=3) (j:Nat):A0 p j=18446744073709551615:=by
 rw [A0,if_neg (by omega),if_neg (by omega),if_pos h]
set_option maxHeartbeats 4000000 in
theorem tstart_spec (hp:p.start<4294967296) (n:Nat) (hn:n≤1048576) (hr:rightP p n=true):Spec Tryz.prog 203 #[prV p,.agg #[.int .i64 (n:Int),.slice none 0 0]] F [] fun v s=>∃u,v=.tuple #[u,.int .i64 0]∧CfO u (startC p n) s:=by
 obtain ⟨hk1,hk5,_,_,hks⟩:=rightP_iff.1 hr
 refine Spec.of (n:=74) (vs:=[prV p,.agg #[.int .i64 (n:Int),.slice none 0 0]]) Tryz.func203 rfl Tryz.ntmps203 rfl ?_
 refine sj [.e,.e,.e,.p] Z<|Rg.box Z Z Z Z Z (fun b2=>?_)
 refine Rg.box Z Z Z Z Z (fun b3=>?_)
 refine Rg.alloc Z Z Z Z (fun b4=>?_)
 refine aj Z<|nl<|wj<|sj [.r,.r,.e,.p] Z<|rj Z (Ev.ldA Z Z)<|rj Z (Ev.ldA Z Z)<|Rg.callP Z Z Z (mz Z) (may_spec2 hp n hn) ?_
 rintro _ rfl
 refine uj Z (Pv.not Z)<|nl<|cj Z (fun h11=>absurd h11 (by (rw [hr];decide))) (fun h11=>?_)
 refine kj<|wj<|Vc.cut5 (fun (b6 b15:Nat) (pl:Option Addr) (cl:Nat) (sl:Hl)=>Own boolE (.slice pl n cl) (List.replicate n true) sl) (fun b6 b15 pl cl sl=>[(2,.pointer (some ⟨b2,0,none⟩)),(4,.pointer (some ⟨b4,0,none⟩)),(6,.pointer (some ⟨b6,0,none⟩))]) (fun b6 b15 pl cl sl=>(b6,cellsO [.slice (some ⟨b15,0,none⟩) n n,.slice pl n cl] 84)::(b4,cellsO [.slice none 0 0,.slice none 0 0] 84)::(b2,cellsO (prC p) 24)::(b15,rowS u64E (List.replicate n 0) [])::sl) ?_ ?_
 · refine Vc.draw [9] (.st 0 .pure (.st 1 .read (.st 4 .pure (.st 5 .read (.three 2 (.two 3 (.two 6 (sd [(7,.pure),(8,.eff),(9,.eff)]) 8 (sd [(6,.eff),(7,.pure),(9,.eff)])) 8 (sd [(3,.eff),(6,.eff),(7,.pure),(9,.eff)])) 3 (.three 2 (.two 6 (sd [(7,.pure),(8,.eff),(9,.eff)]) 8 (sd [(6,.eff),(7,.pure),(9,.eff)])) 6 (.two 2 (sd [(7,.pure),(8,.eff),(9,.eff)]) 8 (sd [(2,.eff),(7,.pure),(9,.eff)])) 8 (.two 2 (sd [(6,.eff),(7,.pure),(9,.eff)]) 6 (sd [(2,.eff),(7,.pure),(9,.eff)]))) 8 (.two 2 (sd [(3,.eff),(6,.eff),(7,.pure),(9,.eff)]) 3 (.two 2 (sd [(6,.eff),(7,.pure),(9,.eff)]) 6 (sd [(2,.eff),(7,.pure),(9,.eff)])))))))) mixed (by kernel_rfl)<|fj Z<|lj Z Z<|fj Z<|lj Z Z ?_
   refine Rg.three ?_ ?_ ?_
   · refine Rg.makeN u64E 0 (m:=n) rfl rfl rfl rfl rfl ⟨by omega,by (show n≤9223372036854775807);omega⟩ (fun b15 own15=>?_)
     refine Rg.two ?_ ?_
     · refine Rg.bslice1R (E:=boolE) (e:=4) true Z Z Z Z Z Z Z Z (fun b16 own16=>?_)
       refine Rg.two ?_ ?_
       · refine Rg.callA Z Z Z (mz Z) (repeatT_spec (Arg.own own16 frz_sb) n hn) ?_
         rintro v19 s19 own19
         obtain ⟨pl,cl,rfl⟩:=own19.shape
         rw [List.length_replicate] at own19 ⊢
         refine uj Z (Pv.build (c:=#[.slice (some ⟨b15,0,none⟩) n n,.slice pl n cl]) Z Z)<|Rg.alloc Z Z Z Z (fun b6=>?_)
         refine Rg.storeA Z Z Z Z Z Z Z Z<|nl ?_
         exact Vc.inv5 b6 b15 pl cl s19 own19 (.cons rfl (.cons rfl (.cons rfl .nil))) pulled
       · refine Rg.alloc Z Z Z Z (fun b6=>?_)
         refine Rg.callA Z Z Z (mz Z) (repeatT_spec (Arg.own own16 frz_sb) n hn) ?_
         rintro v19 s19 own19
         obtain ⟨pl,cl,rfl⟩:=own19.shape
         rw [List.length_replicate] at own19 ⊢
         refine uj Z (Pv.build (c:=#[.slice (some ⟨b15,0,none⟩) n n,.slice pl n cl]) Z Z)<|Rg.storeA Z Z Z Z Z Z Z Z<|nl ?_
         exact Vc.inv5 b6 b15 pl cl s19 own19 (.cons rfl (.cons rfl (.cons rfl .nil))) pulled
     · refine Rg.alloc Z Z Z Z (fun b6=>?_)
       refine Rg.bslice1R (E:=boolE) (e:=4) true Z Z Z Z Z Z Z Z (fun b16 own16=>?_)
       refine Rg.callA Z Z Z (mz Z) (repeatT_spec (Arg.own own16 frz_sb) n hn) ?_
       rintro v19 s19 own19
       obtain ⟨pl,cl,rfl⟩:=own19.shape
       rw [List.length_replicate] at own19 ⊢
       refine uj Z (Pv.build (c:=#[.slice (some ⟨b15,0,none⟩) n n,.slice pl n cl]) Z Z)<|Rg.storeA Z Z Z Z Z Z Z Z<|nl ?_
       exact Vc.inv5 b6 b15 pl cl s19 own19 (.cons rfl (.cons rfl (.cons rfl .nil))) pulled
   · refine Rg.bslice1R (E:=boolE) (e:=4) true Z Z Z Z Z Z Z Z (fun b16 own16=>?_)
     refine Rg.three ?_ ?_ ?_
     · refine Rg.makeN u64E 0 (m:=n) rfl rfl rfl rfl rfl ⟨by omega,by (show n≤9223372036854775807);omega⟩ (fun b15 own15=>?_)
       refine Rg.two ?_ ?_
       · refine Rg.callA Z Z Z (mz Z) (repeatT_spec (Arg.own own16 frz_sb) n hn) ?_
         rintro v19 s19 own19
         obtain ⟨pl,cl,rfl⟩:=own19.shape
         rw [List.length_replicate] at own19 ⊢
         refine uj Z (Pv.build (c:=#[.slice (some ⟨b15,0,none⟩) n n,.slice pl n cl]) Z Z)<|Rg.alloc Z Z Z Z (fun b6=>?_)
         refine Rg.storeA Z Z Z Z Z Z Z Z<|nl ?_
         exact Vc.inv5 b6 b15 pl cl s19 own19 (.cons rfl (.cons rfl (.cons rfl .nil))) pulled
       · refine Rg.alloc Z Z Z Z (fun b6=>?_)
         refine Rg.callA Z Z Z (mz Z) (repeatT_spec (Arg.own own16 frz_sb) n hn) ?_
         rintro v19 s19 own19
         obtain ⟨pl,cl,rfl⟩:=own19.shape
         rw [List.length_replicate] at own19 ⊢
         refine uj Z (Pv.build (c:=#[.slice (some ⟨b15,0,none⟩) n n,.slice pl n cl]) Z Z)<|Rg.storeA Z Z Z Z Z Z Z Z<|nl ?_
         exact Vc.inv5 b6 b15 pl cl s19 own19 (.cons rfl (.cons rfl (.cons rfl .nil))) pulled
     · refine Rg.callA Z Z Z (mz Z) (repeatT_spec (Arg.own own16 frz_sb) n hn) ?_
       rintro v19 s19 own19
       obtain ⟨pl,cl,rfl⟩:=own19.shape
       rw [List.length_replicate] at own19 ⊢
       refine Rg.two ?_ ?_
       · refine Rg.makeN u64E 0 (m:=n) rfl rfl rfl rfl rfl ⟨by omega,by (show n≤9223372036854775807);omega⟩ (fun b15 own15=>?_)
         refine uj Z (Pv.build (c:=#[.slice (some ⟨b15,0,none⟩) n n,.slice pl n cl]) Z Z)<|Rg.alloc Z Z Z Z (fun b6=>?_)
         refine Rg.storeA Z Z Z Z Z Z Z Z<|nl ?_
         exact Vc.inv5 b6 b15 pl cl s19 own19 (.cons rfl (.cons rfl (.cons rfl .nil))) pulled
       · refine Rg.alloc Z Z Z Z (fun b6=>?_)
         refine Rg.makeN u64E 0 (m:=n) rfl rfl rfl rfl rfl ⟨by omega,by (show n≤9223372036854775807);omega⟩ (fun b15 own15=>?_)
         refine uj Z (Pv.build (c:=#[.slice (some ⟨b15,0,none⟩) n n,.slice pl n cl]) Z Z)<|Rg.storeA Z Z Z Z Z Z Z Z<|nl ?_
         exact Vc.inv5 b6 b15 pl cl s19 own19 (.cons rfl (.cons rfl (.cons rfl .nil))) pulled
     · refine Rg.alloc Z Z Z Z (fun b6=>?_)
       refine Rg.two ?_ ?_
       · refine Rg.makeN u64E 0 (m:=n) rfl rfl rfl rfl rfl ⟨by omega,by (show n≤9223372036854775807);omega⟩ (fun b15 own15=>?_)
         refine Rg.callA Z Z Z (mz Z) (repeatT_spec (Arg.own own16 frz_sb) n hn) ?_
         rintro v19 s19 own19
         obtain ⟨pl,cl,rfl⟩:=own19.shape
         rw [List.length_replicate] at own19 ⊢
         refine uj Z (Pv.build (c:=#[.slice (some ⟨b15,0,none⟩) n n,.slice pl n cl]) Z Z)<|Rg.storeA Z Z Z Z Z Z Z Z<|nl ?_
         exact Vc.inv5 b6 b15 pl cl s19 own19 (.cons rfl (.cons rfl (.cons rfl .nil))) pulled
       · refine Rg.callA Z Z Z (mz Z) (repeatT_spec (Arg.own own16 frz_sb) n hn) ?_
         rintro v19 s19 own19
         obtain ⟨pl,cl,rfl⟩:=own19.shape
         rw [List.length_replicate] at own19 ⊢
         refine Rg.makeN u64E 0 (m:=n) rfl rfl rfl rfl rfl ⟨by omega,by (show n≤9223372036854775807);omega⟩ (fun b15 own15=>?_)
         refine uj Z (Pv.build (c:=#[.slice (some ⟨b15,0,none⟩) n n,.slice pl n cl]) Z Z)<|Rg.storeA Z Z Z Z Z Z Z Z<|nl ?_
         exact Vc.inv5 b6 b15 pl cl s19 own19 (.cons rfl (.cons rfl (.cons rfl .nil))) pulled
   · refine Rg.alloc Z Z Z Z (fun b6=>?_)
     refine Rg.two ?_ ?_
     · refine Rg.makeN u64E 0 (m:=n) rfl rfl rfl rfl rfl ⟨by omega,by (show n≤9223372036854775807);omega⟩ (fun b15 own15=>?_)
       refine Rg.bslice1R (E:=boolE) (e:=4) true Z Z Z Z Z Z Z Z (fun b16 own16=>?_)
       refine Rg.callA Z Z Z (mz Z) (repeatT_spec (Arg.own own16 frz_sb) n hn) ?_
       rintro v19 s19 own19
       obtain ⟨pl,cl,rfl⟩:=own19.shape
       rw [List.length_replicate] at own19 ⊢
       refine uj Z (Pv.build (c:=#[.slice (some ⟨b15,0,none⟩) n n,.slice pl n cl]) Z Z)<|Rg.storeA Z Z Z Z Z Z Z Z<|nl ?_
       exact Vc.inv5 b6 b15 pl cl s19 own19 (.cons rfl (.cons rfl (.cons rfl .nil))) pulled
     · refine Rg.bslice1R (E:=boolE) (e:=4) true Z Z Z Z Z Z Z Z (fun b16 own16=>?_)
       refine Rg.two ?_ ?_
       · refine Rg.makeN u64E 0 (m:=n) rfl rfl rfl rfl rfl ⟨by omega,by (show n≤9223372036854775807);omega⟩ (fun b15 own15=>?_)
         refine Rg.callA Z Z Z (mz Z) (repeatT_spec (Arg.own own16 frz_sb) n hn) ?_
         rintro v19 s19 own19
         obtain ⟨pl,cl,rfl⟩:=own19.shape
         rw [List.length_replicate] at own19 ⊢
         refine uj Z (Pv.build (c:=#[.slice (some ⟨b15,0,none⟩) n n,.slice pl n cl]) Z Z)<|Rg.storeA Z Z Z Z Z Z Z Z<|nl ?_
         exact Vc.inv5 b6 b15 pl cl s19 own19 (.cons rfl (.cons rfl (.cons rfl .nil))) pulled
       · refine Rg.callA Z Z Z (mz Z) (repeatT_spec (Arg.own own16 frz_sb) n hn) ?_
         rintro v19 s19 own19
         obtain ⟨pl,cl,rfl⟩:=own19.shape
         rw [List.length_replicate] at own19 ⊢
         refine Rg.makeN u64E 0 (m:=n) rfl rfl rfl rfl rfl ⟨by omega,by (show n≤9223372036854775807);omega⟩ (fun b15 own15=>?_)
         refine uj Z (Pv.build (c:=#[.slice (some ⟨b15,0,none⟩) n n,.slice pl n cl]) Z Z)<|Rg.storeA Z Z Z Z Z Z Z Z<|nl ?_
         exact Vc.inv5 b6 b15 pl cl s19 own19 (.cons rfl (.cons rfl (.cons rfl .nil))) pulled
 · rintro b6 b15 pl cl sl own
   refine wj<|sj [.p,.r,.p,.p] Z<|fj Z<|lj Z Z<|uj Z (Pv.lenS Z)<|mj Z<|nl<|bj ?_
   refine Vc.loop4 (fun (k:Nat) (ys:List Int) (zs:List Bool) (sl:Hl)=>k≤n∧ys.length=n∧zs.length=n∧Own boolE (.slice pl n cl) zs sl∧(∀j,j<n→ys[j]! = if j<k then A0 p j else 0)∧∀j,j<n→zs[j]! = if j<k then B0 p else true) (fun k ys zs sl=>[(23,.int .i64 (n:Int)),(24,.int .i64 (k:Int)),(2,.pointer (some ⟨b2,0,none⟩)),(4,.pointer (some ⟨b4,0,none⟩)),(6,.pointer (some ⟨b6,0,none⟩))]) (fun k ys zs sl=>(b6,cellsO [.slice (some ⟨b15,0,none⟩) n n,.slice pl n cl] 84)::(b4,cellsO [.slice none 0 0,.slice none 0 0] 84)::(b2,cellsO (prC p) 24)::(b15,rowS u64E ys [])::sl) (fun k ys zs sl=>n-k) 0 (List.replicate n 0) (List.replicate n true) sl ⟨Nat.zero_le _,by simp,by simp,own,fun j hj=>by rw [rep_at n j 0 hj];simp,fun j hj=>by rw [rep_at n j true hj];simp⟩ (.cons rfl (.cons rfl (.cons rfl (.cons rfl (.cons rfl .nil))))) pulled ?_
   rintro k ys zs sl ⟨hk,hyl,hzl,own,hys,hzs⟩
   refine sj [.p] Z<|uj Z (Pv.lss Z Z)<|nl<|wj<|cj Z (fun h25=>?_) (fun h25=>?_)
   · simp only [dt] at h25
     have hk1':k<n:=by omega
     obtain ⟨bl,cl',spl,e,rfl,hcap,hcm⟩:=own.block (by omega)
     simp only [Value.slice.injEq] at e
     obtain ⟨rfl,_,rfl⟩:=e
     have hYS:∀x,A0 p k=x→∀j,j<n→(ys.set k x)[j]! = if j<k+1 then A0 p j else 0:=fun x hx j hj=>by
      rw [get_set2 ys k j x (by omega)]
      by_cases e:k=j
      · subst e;rw [if_pos rfl,if_pos (by omega),hx]
      · rw [if_neg e,hys j hj]
        by_cases h:j<k
        · rw [if_pos h,if_pos (by omega)]
        · rw [if_neg h,if_neg (by omega)]
     have hZS:∀x,B0 p=x→∀j,j<n→(zs.set k x)[j]! = if j<k+1 then B0 p else true:=fun x hx j hj=>by
      rw [get_set2 zs k j x (by omega)]
      by_cases e:k=j
      · subst e;rw [if_pos rfl,if_pos (by omega),hx]
      · rw [if_neg e,hzs j hj]
        by_cases h:j<k
        · rw [if_pos h,if_pos (by omega)]
        · rw [if_neg h,if_neg (by omega)]
     have hY0:A0 p k=0→∀j,j<n→ys[j]! = if j<k+1 then A0 p j else 0:=fun hx j hj=>by
      rw [hys j hj]
      by_cases h:j<k
      · rw [if_pos h,if_pos (by omega)]
      · rw [if_neg h]
        by_cases e:j=k
        · subst e;rw [if_pos (by omega),hx]
        · rw [if_neg (by omega)]
     have hZ0:B0 p=true→∀j,j<n→zs[j]! = if j<k+1 then B0 p else true:=fun hx j hj=>by
      rw [hzs j hj,hx]
      simp
     refine kj<|wj<|bj<|sj [.p,.p] Z<|mj Z<|aj Z<|nl<|sj [.p,.r] Z<|fj Z<|lj Z Z<|nl<|bj<|sj [.p,.p] Z<|uj Z (Pv.eql Z Z)<|aj Z ?_
     refine nl<|Vc.cut3 (fun (ys2:List Int) (zs2:List Bool) (sl2:Hl)=>ys2.length=n∧zs2.length=n∧Own boolE (.slice (some ⟨bl,0,none⟩) n cl) zs2 sl2∧(∀j,j<n→ys2[j]! = if j<k+1 then A0 p j else 0)∧∀j,j<n→zs2[j]! = if j<k+1 then B0 p else true) (fun ys2 zs2 sl2=>[(23,.int .i64 (n:Int)),(24,.int .i64 (k:Int)),(2,.pointer (some ⟨b2,0,none⟩)),(4,.pointer (some ⟨b4,0,none⟩)),(6,.pointer (some ⟨b6,0,none⟩))]) (fun ys2 zs2 sl2=>(b6,cellsO [.slice (some ⟨b15,0,none⟩) n n,.slice (some ⟨bl,0,none⟩) n cl] 84)::(b4,cellsO [.slice none 0 0,.slice none 0 0] 84)::(b2,cellsO (prC p) 24)::(b15,rowS u64E ys2 [])::sl2) ?_ ?_
     · refine cj Z (fun h29=>?_) (fun h29=>?_)
       · have hkk:p.kind=2:=by simpa using h29
         have hA:A0 p k=((k:Nat):Int):=by rw [A0,if_pos hkk]
         have hB:B0 p=true:=by rw [B0,if_neg (by omega)]
         refine tj [.p,.r,.p,.p,.p,.p,.e] Z<|fj Z<|lj Z Z<|mj Z<|mj Z<|uj Z (Pv.asI k (Pv.convI rfl) (wrap_ult rfl (by show k<2 ^ 64;omega)))<|uj Z (Pv.ixA (k) rfl rfl (by omega) (by omega)) ?_
         refine Rg.storeR (E:=u64E) (z:=((k:Nat):Int)) k rfl rfl rfl rfl rfl rfl (Nat.zero_add _) (by omega) rfl<|nl ?_
         exact Vc.inv3 (ys.set k ((k:Nat):Int)) zs _ ⟨by rw [List.length_set,hyl],hzl,own,hYS _ hA,hZ0 hB⟩ (.cons rfl (.cons rfl (.cons rfl (.cons rfl (.cons rfl .nil))))) pulled
       · have hk2 : ¬p.kind=2:=by simpa using h29
         refine sj [.p,.p] Z<|uj Z (Pv.eql Z Z)<|aj Z<|nl<|cj Z (fun h37=>?_) (fun h37=>?_)
         · have hkk:p.kind=4:=by simpa using h37
           have hA:A0 p k=1048576:=by rw [A0,if_neg hk2,if_pos hkk]
           have hB:B0 p=true:=by rw [B0,if_neg (by omega)]
           refine tj [.p,.r,.p,.p,.e] Z<|fj Z<|lj Z Z<|mj Z<|uj Z (Pv.ixA (k) rfl rfl (by omega) (by omega)) ?_
           refine Rg.storeR (E:=u64E) (z:=(1048576:Int)) k rfl rfl rfl rfl rfl rfl (Nat.zero_add _) (by omega) rfl<|nl ?_
           exact Vc.inv3 (ys.set k 1048576) zs _ ⟨by rw [List.length_set,hyl],hzl,own,hYS _ hA,hZ0 hB⟩ (.cons rfl (.cons rfl (.cons rfl (.cons rfl (.cons rfl .nil))))) pulled
         · have hk4 : ¬p.kind=4:=by simpa using h37
           refine wj<|sj [.p,.p] Z<|uj Z (Pv.eql Z Z)<|aj Z<|nl<|Vc.cut1 (fun (bb:Bool)=>bb=true↔(p.kind=1∨p.kind=3)) (fun bb=>[(43,.bool bb),(7,.int .i64 (k:Int)),(23,.int .i64 (n:Int)),(24,.int .i64 (k:Int)),(2,.pointer (some ⟨b2,0,none⟩)),(4,.pointer (some ⟨b4,0,none⟩)),(6,.pointer (some ⟨b6,0,none⟩))]) (fun bb=>(b6,cellsO [.slice (some ⟨b15,0,none⟩) n n,.slice (some ⟨bl,0,none⟩) n cl] 84)::(b4,cellsO [.slice none 0 0,.slice none 0 0] 84)::(b2,cellsO (prC p) 24)::(b15,rowS u64E ys [])::[(bl,rowS boolE zs spl)]) ?_ ?_
           · refine cj Z (fun h43=>?_) (fun h43=>?_)
             · refine kj ?_
               exact Vc.inv1 _ ⟨fun _=>.inl (by simpa using h43),fun _=>h43⟩ (.cons rfl (.cons rfl (.cons rfl (.cons rfl (.cons rfl (.cons rfl (.cons rfl .nil))))))) pulled
             · refine tj [.p,.p] Z<|uj Z (Pv.eql Z Z)<|aj Z<|nl ?_
               exact Vc.inv1 _ ⟨fun h=>.inr (by simpa using h),fun h=>by
                have h1 : ¬p.kind=1:=by simpa using h43
                have h3:=h.resolve_left h1
                simp [h3]⟩ (.cons rfl (.cons rfl (.cons rfl (.cons rfl (.cons rfl (.cons rfl (.cons rfl .nil))))))) pulled
           · rintro bb hbb
             refine cj Z (fun h43=>?_) (fun h43=>?_)
             · have hkk:=hbb.1 h43
               have hA:A0 p k=18446744073709551615:=by rw [A0,if_neg hk2,if_neg hk4,if_pos hkk]
               have hB:B0 p=false:=by rw [B0,if_pos hkk]
               refine Vc.drawS [9] (sd [(0,.pure),(1,.read),(2,.pure),(3,.pure),(4,.read),(5,.pure),(6,.pure),(7,.eff),(8,.pure),(9,.eff)]) [(b6,cellsO [.slice (some ⟨b15,0,none⟩) n n,.slice (some ⟨bl,0,none⟩) n cl] 84)] pulled mixed (by kernel_rfl)<|fj Z<|lj Z Z<|mj Z<|fj Z<|lj Z Z<|mj Z<|uj Z (Pv.ixA (k) rfl rfl (by omega) (by omega)) ?_
               refine Rg.storeRN (E:=u64E) (z:=(18446744073709551615:Int)) k rfl rfl rfl rfl rfl rfl (Nat.zero_add _) (by omega)<|uj Z (Pv.ixA (k) rfl rfl (by omega) (by omega))<|Rg.storeR (E:=boolE) (z:=false) k rfl rfl rfl rfl rfl rfl (Nat.zero_add _) (by omega) rfl<|nl ?_
               exact Vc.inv3 (ys.set k 18446744073709551615) (zs.set k false) [(bl,rowS boolE (zs.set k false) spl)] ⟨by rw [List.length_set,hyl],by rw [List.length_set,hzl],Own.blk' bl cl n _ spl (by rw [List.length_set,hzl]) (by rw [←hzl];exact hcap) hcm,hYS _ hA,hZS _ hB⟩ (.cons rfl (.cons rfl (.cons rfl (.cons rfl (.cons rfl .nil))))) pulled
             · have hkk : ¬(p.kind=1∨p.kind=3):=fun h=>by rw [hbb.2 h] at h43;cases h43
               have hA:A0 p k=0:=by rw [A0,if_neg hk2,if_neg hk4,if_neg hkk]
               have hB:B0 p=true:=by rw [B0,if_neg hkk]
               refine kj ?_
               exact Vc.inv3 ys zs _ ⟨hyl,hzl,own,hY0 hA,hZ0 hB⟩ (.cons rfl (.cons rfl (.cons rfl (.cons rfl (.cons rfl .nil))))) pulled
     · rintro ys2 zs2 sl2 ⟨hyl2,hzl2,own2,hys2,hzs2⟩
       refine dj<|dj<|tj [.p,.p] Z<|uj Z (Pv.asI (k+1) (Pv.add rfl rfl (by omega)) (by omega))<|mj Z<|nl ?_
       exact Vc.inv4 (k+1) ys2 zs2 sl2 ⟨⟨by omega,hyl2,hzl2,own2,hys2,hzs2⟩,by omega⟩ (.cons rfl (.cons rfl (.cons rfl (.cons rfl (.cons rfl .nil))))) pulled
   · simp only [df] at h25
     obtain rfl:k=n:=by omega
     refine Vc.exit Z<|wj<|wj<|Vc.cut1 (fun (bb:Bool)=>bb=true↔(p.kind=1∨p.kind=3)) (fun bb=>[(62,.bool bb),(2,.pointer (some ⟨b2,0,none⟩)),(4,.pointer (some ⟨b4,0,none⟩)),(6,.pointer (some ⟨b6,0,none⟩))]) (fun bb=>(b6,cellsO [.slice (some ⟨b15,0,none⟩) k k,.slice pl k cl] 84)::(b4,cellsO [.slice none 0 0,.slice none 0 0] 84)::(b2,cellsO (prC p) 24)::(b15,rowS u64E ys [])::sl) ?_ ?_
     · refine tj [.p,.r,.p,.p,.p,.r,.p,.p] Z<|fj Z<|lj Z Z<|uj Z (Pv.eql Z Z)<|mj Z ?_
       refine Rg.split (t:=58) Z (fun h58=>?_) (fun h58=>?_)
       · iterate 3 (first | refine Rg.skipP rfl rfl rfl ?_ | refine Rg.skipR rfl rfl rfl ?_ | refine Rg.skipE rfl rfl rfl ?_)
         refine qj Z Z<|nl ?_
         exact Vc.inv1 true ⟨fun _=>.inl (by simpa using h58),fun _=>rfl⟩ (.cons rfl (.cons rfl (.cons rfl (.cons rfl .nil)))) pulled
       · refine fj Z<|lj Z Z<|uj Z (Pv.eql Z Z)<|pj Z Z<|nl ?_
         exact Vc.inv1 _ ⟨fun h=>.inr (by simpa using h),fun h=>by
          have h1 : ¬p.kind=1:=by simpa using h58
          have h3:=h.resolve_left h1
          simp [h3]⟩ (.cons rfl (.cons rfl (.cons rfl (.cons rfl .nil)))) pulled
     · rintro bb hbb
       refine Vc.cut3 (fun (ys2:List Int) (zs2:List Bool) (sl2:Hl)=>ys2=(startC p k).vals∧zs2=(startC p k).live∧Own boolE (.slice pl k cl) zs2 sl2) (fun ys2 zs2 sl2=>[(2,.pointer (some ⟨b2,0,none⟩)),(4,.pointer (some ⟨b4,0,none⟩)),(6,.pointer (some ⟨b6,0,none⟩))]) (fun ys2 zs2 sl2=>(b6,cellsO [.slice (some ⟨b15,0,none⟩) k k,.slice pl k cl] 84)::(b4,cellsO [.slice none 0 0,.slice none 0 0] 84)::(b15,rowS u64E ys2 [])::sl2) ?_ ?_
       · refine cj Z (fun h62=>?_) (fun h62=>?_)
         · have hkk:=hbb.1 h62
           have hps:p.start<k:=by omega
           obtain ⟨bl,cl',spl,e,rfl,hcap,hcm⟩:=own.block (by omega)
           simp only [Value.slice.injEq] at e
           obtain ⟨rfl,_,rfl⟩:=e
           refine Vc.drawS [11] (sd [(0,.pure),(1,.read),(2,.pure),(3,.read),(4,.pure),(5,.read),(6,.pure),(7,.read),(8,.pure),(9,.eff),(10,.pure),(11,.eff)]) [(b6,cellsO [.slice (some ⟨b15,0,none⟩) k k,.slice (some ⟨bl,0,none⟩) k cl] 84),(b2,cellsO (prC p) 24)] pulled mixed (by kernel_rfl)<|fj Z<|lj Z Z<|fj Z<|lj Z Z<|fj Z<|lj Z Z<|fj Z<|lj Z Z<|uj Z (Pv.ixK p.start rfl rfl rfl (by omega)) ?_
           refine Rg.storeRN (E:=u64E) (z:=(0:Int)) p.start rfl rfl rfl rfl rfl rfl (Nat.zero_add _) (by omega)<|uj Z (Pv.ixK p.start rfl rfl rfl (by omega))<|Rg.storeR (E:=boolE) (z:=true) p.start rfl rfl rfl rfl rfl rfl (Nat.zero_add _) (by omega) rfl<|nl ?_
           exact Vc.inv3 (ys.set p.start 0) (zs.set p.start true) [(bl,rowS boolE (zs.set p.start true) spl)] ⟨list_of (by rw [List.length_set,hyl]) (fun j hj=>by
            rw [get_set2 ys p.start j 0 (by omega),hys j hj,if_pos hj,sA_one hkk,A0_one hkk]
            by_cases e:p.start=j
            · rw [if_pos e,if_pos e.symm]
            · rw [if_neg e,if_neg (fun h=>e h.symm)]),list_of (by rw [List.length_set,hzl]) (fun j hj=>by
            rw [get_set2 zs p.start j true (by omega),hzs j hj,if_pos hj,sB,B0,if_pos hkk,if_pos hkk]
            by_cases e:p.start=j
            · rw [if_pos e,decide_eq_true e.symm]
            · rw [if_neg e,decide_eq_false (fun h=>e h.symm)]),Own.blk' bl cl k _ spl (by rw [List.length_set,hzl]) (by rw [←hzl];exact hcap) hcm⟩ (.cons rfl (.cons rfl (.cons rfl .nil))) pulled
         · have hkk : ¬(p.kind=1∨p.kind=3):=fun h=>by rw [hbb.2 h] at h62;cases h62
           refine kj ?_
           exact Vc.inv3 ys zs sl ⟨list_of hyl (fun j hj=>by
            rw [hys j hj,if_pos hj,sA,A0]
            split
            · rfl
            · split
              · rfl
              · simp []),list_of hzl (fun j hj=>by
            rw [hzs j hj,if_pos hj,sB,B0,if_neg hkk,if_neg hkk]),own⟩ (.cons rfl (.cons rfl (.cons rfl .nil))) pulled
       · rintro ys2 zs2 sl2 ⟨rfl,rfl,own2⟩
         refine sj [.r,.e,.p] Z<|rj Z (Ev.ldA Z Z)<|Rg.storeA Z Z Z Z Z Z Z Z<|aj Z<|nl ?_
         exact vr (hl':=[(b15,rowS u64E (startC p k).vals [])]++sl2) rfl (.cons (.cellA rfl rfl) (tz Z)) ⟨_,rfl,_,_,_,sl2,rfl,Own.blk' b15 k k _ [] (by simp [startC]) (by simp [u64E]) (by (show k≤9223372036854775807);omega),own2,rfl⟩ pulled
end
end Go.Proofs.YtkpiakgmkpbikaaGreatDoor
