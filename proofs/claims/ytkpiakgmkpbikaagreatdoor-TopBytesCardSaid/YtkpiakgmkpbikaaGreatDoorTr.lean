/- Steps of the proof. -/
import Derived.Test.YtkpiakgmkpbikaaGreatDoorTz
import Derived.Test.YtkpiakgmkpbikaaGreatDoorTo
set_option linter.unusedVariables false
namespace Go.Proofs.YtkpiakgmkpbikaaGreatDoor
theorem Pv.quoU {P:Program} {n:Nf} {l:Env} {d:Option Tmp} {ty:TypeId} {pos:String} {af:Array Edge} {g:Option (Nat×Bool)} {t t':TypeId} {x y:Operand} {p q:Int} (hx:ev l x=some (.int .u64 p)) (hy:ev l y=some (.int .u64 q)) (h:0≤p∧p<18446744073709551616∧0<q):Pv P n l ⟨d,.binOp .quo t x y t',ty,pos,af,g⟩ (.int .u64 (p / q)):=Pv.ar hx hy fun w=>by
 have hq:q≠0:=by omega
 have hd:p.tdiv q=p / q:=Int.tdiv_eq_ediv_of_nonneg h.1
 have h1:0≤p / q:=Int.ediv_nonneg h.1 (by omega)
 have h2:p / q≤p:=Int.ediv_le_self _ h.1
 have hw:IntKind.u64.wrap (p / q)=p / q:=by rw [wrap_u64i h1];omega
 simp [binOp,Op.intDiv,hq,hd,hw]
theorem msgP_in {p:Prg} {val out w:Int} (hv:InU val) (hw:0≤w∧w<4294967296) (ho:0≤out):InU (msgP p val out w):=by
 unfold msgP InU at *
 split
 · exact comb_in hv (by omega)
 · split
   · exact comb_in hv (by omega)
   · split
     · split
       · omega
       · have h1:0≤val / out:=Int.ediv_nonneg hv.1 ho
         have h2:val / out≤val:=Int.ediv_le_self _ hv.1
         omega
     · split
       · omega
       · exact hv
theorem nextP_in {p:Prg} {val:Int} {o:Option Int} (hv:InU val) (ho:∀s,o=some s→InU s):InU (nextP p val o).1:=by
 unfold nextP InU at *
 have h0:0≤o.getD 0∧o.getD 0<18446744073709551616:=by
  cases o with
  | none=>exact ⟨Int.le_refl _,by decide⟩
  | some s=>exact ho s rfl
 split
 · show 0≤157284+o.getD 0 / 20*17∧157284+o.getD 0 / 20*17<_
   omega
 · split
   · exact h0
   · cases o with
     | none=>exact hv
     | some s =>
      have h1:=ho s rfl
      by_cases h:s<val
      · rw [lessN,if_pos h];exact h1
      · rw [lessN,if_neg h];exact hv
section
variable {F : Fm} {p : Prg}
theorem tmsg_spec (val:Int) (hv:InU val) (out:Int) (ho:0≤out∧out≤9223372036854775807) (w:Nat) (hw:w<4294967296):Spec Tryz.prog 262 #[prV p,.int .u64 val,.int .i64 out,.int .u32 (w:Int)] F [] fun v _=>v=.int .u64 (msgP p val out (w:Int)):=by
 refine Spec.of (n:=32) (vs:=[prV p,.int .u64 val,.int .i64 out,.int .u32 (w:Int)]) Tryz.func262 rfl Tryz.ntmps262 rfl ?_
 refine sj [.e,.p] Z<|Rg.box Z Z Z Z Z (fun b4=>?_)
 refine aj Z<|nl<|wj<|sj [.p,.r] Z<|fj Z<|lj Z Z<|nl<|bj<|sj [.p,.p] Z<|uj Z (Pv.eql Z Z)<|aj Z<|nl<|cj Z (fun h11=>?_) (fun h11=>?_)
 · have hk:p.kind=1:=by simpa using h11
   have hm:msgP p val out (w:Int)=comb 1 val 1:=by rw [msgP,if_pos hk]
   refine sj [.p,.e,.p] Z<|mj Z<|Rg.callP Z Z Z (mz Z) (combine_spec _ 1 val 1 hv.1 (by omega)) ?_
   rintro _ rfl
   refine aj Z<|nl<|vz Z (tz Z) ?_
   exact congrArg (Value.int .u64) hm.symm
 · have hk1 : ¬p.kind=1:=by simpa using h11
   refine sj [.p,.p] Z<|uj Z (Pv.eql Z Z)<|aj Z<|nl<|cj Z (fun h15=>?_) (fun h15=>?_)
   · have hk:p.kind=3:=by simpa using h15
     have hm:msgP p val out (w:Int)=comb 1 val (w:Int):=by rw [msgP,if_neg hk1,if_pos hk]
     refine sj [.p,.p,.p,.e,.p] Z<|mj Z<|mj Z<|uj Z (Pv.asI w (Pv.convI rfl) (wrap_ult rfl (by show w<2 ^ 64;omega)))<|Rg.callP Z Z Z (mz Z) (combine_spec _ 1 val (w:Int) hv.1 (by omega)) ?_
     rintro _ rfl
     refine aj Z<|nl<|vz Z (tz Z) ?_
     exact congrArg (Value.int .u64) hm.symm
   · have hk3 : ¬p.kind=3:=by simpa using h15
     refine sj [.p,.p] Z<|uj Z (Pv.eql Z Z)<|aj Z<|nl<|cj Z (fun h21=>?_) (fun h21=>?_)
     · have hk:p.kind=4:=by simpa using h21
       have hm:msgP p val out (w:Int)=if out<1 then 0 else val / out:=by rw [msgP,if_neg hk1,if_neg hk3,if_pos hk]
       refine wj<|sj [.p,.p] Z<|mj Z<|uj Z (Pv.lss Z Z)<|nl<|cj Z (fun h24=>?_) (fun h24=>?_)
       · simp only [dt] at h24
         rw [if_pos h24] at hm
         refine sj [.p] Z<|aj Z<|nl<|vz Z (tz Z) ?_
         exact congrArg (Value.int .u64) hm.symm
       · simp only [df] at h24
         rw [if_neg h24] at hm
         refine kj<|sj [.p,.p,.p,.p,.p] Z<|mj Z<|mj Z<|uj Z (Pv.as (.int .u64 out) (Pv.convI rfl) (by rw [wrap_u64i ho.1,Int.emod_eq_of_lt ho.1 (by omega)]))<|uj Z (Pv.quoU rfl rfl ⟨hv.1,hv.2,by omega⟩)<|aj Z<|nl<|vz Z (tz Z) ?_
         exact congrArg (Value.int .u64) hm.symm
     · have hk4 : ¬p.kind=4:=by simpa using h21
       refine sj [.p,.p] Z<|uj Z (Pv.eql Z Z)<|aj Z<|nl<|cj Z (fun h29=>?_) (fun h29=>?_)
       · have hk:p.kind=5:=by simpa using h29
         have hm:msgP p val out (w:Int)=1:=by rw [msgP,if_neg hk1,if_neg hk3,if_neg hk4,if_pos hk]
         refine sj [.p] Z<|aj Z<|nl<|vz Z (tz Z) ?_
         exact congrArg (Value.int .u64) hm.symm
       · have hk5 : ¬p.kind=5:=by simpa using h29
         have hm:msgP p val out (w:Int)=val:=by rw [msgP,if_neg hk1,if_neg hk3,if_neg hk4,if_neg hk5]
         refine kj<|dj<|sj [.p,.p] Z<|mj Z<|aj Z<|nl<|vz Z (tz Z) ?_
         exact congrArg (Value.int .u64) hm.symm
theorem tnext_spec (val:Int) (hv:InU val) (sum:Int) (hs:InU sum) (any:Bool):Spec Tryz.prog 210 #[prV p,.int .u64 val,.int .u64 sum,.bool any] F [] fun v _=>v=.tuple #[.int .u64 (nextP p val (if any=true then some sum else none)).1,.bool (nextP p val (if any=true then some sum else none)).2]:=by
 unfold InU at hv hs
 obtain ⟨o,ho⟩:∃o,o=(if any=true then some sum else none):=⟨_,rfl⟩
 rw [←ho]
 refine Spec.of (n:=36) (vs:=[prV p,.int .u64 val,.int .u64 sum,.bool any]) Tryz.func210 rfl Tryz.ntmps210 rfl ?_
 refine sj [.e,.p,.p] Z<|Rg.box Z Z Z Z Z (fun b4=>?_)
 refine aj Z<|aj Z<|nl<|wj<|sj [.p,.p] Z<|mj Z<|uj Z (Pv.not Z)<|nl<|Vc.cut1 (fun (z:Int)=>z=o.getD 0∧InU z) (fun z=>[(2,.int .u64 z),(1,.int .u64 val),(3,.bool any),(4,.pointer (some ⟨b4,0,none⟩))]) (fun z=>[(b4,cellsO (prC p) 24)]) ?_ ?_
 · refine cj Z (fun h12=>?_) (fun h12=>?_)
   · have ha:any=false:=by simpa using h12
     refine tj [.p] Z<|aj Z<|nl ?_
     exact Vc.inv1 0 ⟨by rw [ho,ha];rfl,⟨Int.le_refl _,by decide⟩⟩ (.cons rfl (.cons rfl (.cons rfl (.cons rfl .nil)))) pulled
   · have ha:any=true:=by simpa using h12
     refine kj ?_
     exact Vc.inv1 sum ⟨by rw [ho,ha];rfl,hs⟩ (.cons rfl (.cons rfl (.cons rfl (.cons rfl .nil)))) pulled
 · rintro z ⟨hz,hzu⟩
   unfold InU at hzu
   refine wj<|sj [.p,.r] Z<|fj Z<|lj Z Z<|nl<|bj<|sj [.p,.p] Z<|uj Z (Pv.eql Z Z)<|aj Z<|nl<|cj Z (fun h15=>?_) (fun h15=>?_)
   · have hk:p.kind=4:=by simpa using h15
     have hm:nextP p val o=(157284+z / 20*17,decide (157284+z / 20*17≠val)):=by rw [nextP,if_pos hk,hz]
     refine sj [.p,.p,.p,.p,.p] Z<|mj Z<|uj Z (Pv.quoU rfl rfl ⟨hzu.1,hzu.2,by omega⟩)<|uj Z (Pv.as (.int .u64 (z / 20*17)) (Pv.mulW rfl rfl) (by rw [wrap_u64i (by omega),Int.emod_eq_of_lt (by omega) (by omega)]))<|uj Z (Pv.as (.int .u64 (157284+z / 20*17)) (Pv.addW rfl rfl) (by rw [wrap_u64i (by omega),Int.emod_eq_of_lt (by omega) (by omega)]))<|aj Z<|nl<|sj [.p,.p,.p,.p,.p,.p] Z<|mj Z<|mj Z<|mj Z<|uj Z (Pv.neq Z Z)<|aj Z<|aj Z<|nl ?_
     refine Vc.ret (Vc.rets Z (.cons (.tmp Z) (tz Z)) ?_)
     rw [hm]
     exact congrArg (fun b=>Value.tuple #[.int .u64 (157284+z / 20*17),.bool b]) (by rw [Bool.eq_iff_iff];simp)
   · have hk4 : ¬p.kind=4:=by simpa using h15
     refine sj [.p,.p] Z<|uj Z (Pv.eql Z Z)<|aj Z<|nl<|cj Z (fun h25=>?_) (fun h25=>?_)
     · have hk:p.kind=5:=by simpa using h25
       have hm:nextP p val o=(z,false):=by rw [nextP,if_neg hk4,if_pos hk,hz]
       refine sj [.p,.p,.p] Z<|mj Z<|aj Z<|aj Z<|nl<|Vc.ret (Vc.rets Z (.cons (.tmp Z) (tz Z)) ?_)
       rw [hm]
       rfl
     · have hk5 : ¬p.kind=5:=by simpa using h25
       have hm:nextP p val o=lessN val o:=by rw [nextP,if_neg hk4,if_neg hk5]
       refine kj<|dj<|wj<|sj [.p,.p,.p,.p,.p,.p] Z<|mj Z<|mj Z<|Rg.split (t:=29) Z (fun h29=>?_) (fun h29=>?_)
       · obtain rfl:o=some z:=by
          rw [ho,h29,if_pos rfl]
          rw [ho,h29,if_pos rfl] at hz
          rw [hz];rfl
         refine mj Z<|mj Z<|uj Z (Pv.lss Z Z)<|qj Z Z<|nl<|cj Z (fun h33=>?_) (fun h33=>?_)
         · simp only [dt] at h33
           try rw [lessN,if_pos h33] at hm
           refine sj [.p,.p,.p] Z<|mj Z<|aj Z<|aj Z<|nl<|Vc.ret (Vc.rets Z (.cons (.tmp Z) (tz Z)) ?_)
           rw [hm]
           rfl
         · simp only [df] at h33
           try rw [lessN,if_neg h33] at hm
           refine kj<|sj [.p,.p,.p] Z<|mj Z<|aj Z<|aj Z<|nl<|Vc.ret (Vc.rets Z (.cons (.tmp Z) (tz Z)) ?_)
           rw [hm]
           rfl
       · obtain rfl:o=none:=by rw [ho,h29];rfl
         iterate 3 (first | refine Rg.skipP rfl rfl rfl ?_ | refine Rg.skipR rfl rfl rfl ?_ | refine Rg.skipE rfl rfl rfl ?_)
         refine pj Z Z<|nl<|Vc.condF Z<|kj<|sj [.p,.p,.p] Z<|mj Z<|aj Z<|aj Z<|nl<|Vc.ret (Vc.rets Z (.cons (.tmp Z) (tz Z)) ?_)
         rw [hm]
         rfl
structure CfA (F:Fm) (a b:Value) (c:Cf):Prop where
 va:Arg u64E F a c.vals
 la:Arg boolE F b c.live
 len:c.live.length=c.vals.length
 few:c.vals.length≤1048576
theorem CfA.mono {F F':Fm} {a b:Value} {c:Cf} (h:CfA F a b c) (hF:∀b o,F.at_ b o→F'.at_ b o):CfA F' a b c:=⟨h.va.mono hF,h.la.mono hF,h.len,h.few⟩
theorem tquiet_spec {a b:Value} {c:Cf} (h:CfA F a b c):Spec Tryz.prog 193 #[cfV a b] F [] fun v _=>v=.bool (quietC c):=by
 have hl:=h.len
 have hf:=h.few
 obtain ⟨p1,c1,e1⟩:=h.va.shape
 obtain ⟨p2,c2,e2⟩:=h.la.shape
 have ha:=h.la
 subst e1;subst e2
 refine Spec.of (n:=7) (vs:=[cfV (.slice p1 c.vals.length c1) (.slice p2 c.live.length c2)]) Tryz.func193 rfl Tryz.ntmps193 rfl ?_
 refine sj [.e,.p] Z<|Rg.box Z Z Z Z Z (fun b1=>?_)
 refine aj Z<|nl<|sj [.p,.r,.e,.p,.p] Z<|fj Z<|lj Z Z ?_
 refine Rg.callP Z Z Z (mz Z) (containsT_spec (ha.mono fun b o h=>Or.inr h) (by omega)) ?_
 rintro _ rfl
 refine uj Z (Pv.not Z)<|aj Z<|nl<|vz Z (tz Z) ?_
 rfl
def sendsP (p:Prg) (c:Cf) (v:Nat):Bool:=if p.kind=4 then !quietC c else c.live[v]!
end
def CfO (v:Value) (c:Cf) (s:Hl):Prop:=∃a b s1 s2,v=cfV a b∧Own u64E a c.vals s1∧Own boolE b c.live s2∧s=s1++s2
structure InC (c:Cf) (n:Nat):Prop where
 vl:c.vals.length=n
 ll:c.live.length=n
 few:n≤1048576
 in_:∀v,v<n→InU c.vals[v]!
theorem CfO.args {v:Value} {c:Cf} {s:Hl} {n:Nat} (h:CfO v c s) (hi:InC c n) {F:Fm} (hF:∀b o,(b,o)∈s→F.at_ b o):∃a b,v=cfV a b∧CfA F a b c:=by
 obtain ⟨a,b,s1,s2,rfl,o1,o2,rfl⟩:=h
 exact ⟨a,b,rfl,Arg.own o1 fun b o h=>hF b o (List.mem_append_left _ h),Arg.own o2 fun b o h=>hF b o (List.mem_append_right _ h),by rw [hi.ll,hi.vl],by rw [hi.vl];exact hi.few⟩
theorem startC_in {p:Prg} {n:Nat} (hn:n≤1048576):InC (startC p n) n:=by
 refine ⟨by simp [startC],by simp [startC],hn,fun v hv=>?_⟩
 rw [getElem!_pos (startC p n).vals v (by simpa [startC] using hv)]
 simp only [startC,List.getElem_map,List.getElem_range,sA,InU]
 split
 · omega
 · split
   · omega
   · split
     · split<;>omega
     · omega
section
variable {F : Fm} {p : Prg}
theorem may_spec2 (hp:p.start<4294967296) (n:Nat) (hn:n≤1048576):Spec Tryz.prog 234 #[prV p,.agg #[.int .i64 (n:Int),.slice none 0 0]] F [] fun v _=>v=.bool (rightP p n):=by
 have hr:ED.rightG (n:Int) []=true:=by simp [ED.rightG];omega
 refine Spec.of (n:=13) (vs:=[prV p,.agg #[.int .i64 (n:Int),.slice none 0 0]]) Tryz.func234 rfl Tryz.ntmps234 rfl ?_
 refine sj [.e,.e,.p] Z<|Rg.box Z Z Z Z Z (fun b2=>?_)
 refine Rg.box Z Z Z Z Z (fun b3=>?_)
 refine aj Z<|nl<|sj [.r,.e,.p,.r,.p,.r,.e,.p,.p] Z<|rj Z (Ev.ldA Z Z)<|Rg.callP Z Z Z (mz Z) (ED.right_spec (va:=.slice none 0 0) (es:=[]) Arg.nil (by simp) (fun e he=>by cases he) (n:Int)) ?_
 rintro _ rfl
 rw [hr]
 refine mj Z<|Rg.split (t:=7) rfl (fun h7=>?_) (fun h7=>absurd h7 (by decide))
 refine rj Z (Ev.ldA Z Z)<|fj Z<|lj Z Z ?_
 refine Rg.callP Z Z Z (mz Z) (tright_spec hp (n:Int)) ?_
 rintro _ rfl
 refine qj Z Z<|aj Z<|nl<|vz Z (tz Z) ?_
 rfl
def A0 (p:Prg) (j:Nat):Int:=if p.kind=2 then j else if p.kind=4 then 1048576 else if p.kind=1∨p.kind=3 then 18446744073709551615 else 0
def B0 (p:Prg):Bool:=if p.kind=1∨p.kind=3 then false else true
theorem sA_one {p:Prg} (h:p.kind=1∨p.kind=3) (j:Nat):sA p j=if j=p.start then 0 else 18446744073709551615:=by
 rw [sA,if_neg (by omega),if_neg (by omega),if_pos h]
theorem A0_one {p:Prg} (h:p.kind=1∨p.kind=3) (j:Nat):A0 p j=18446744073709551615:=by
 rw [A0,if_neg (by omega),if_neg (by omega),if_pos h]
set_option maxHeartbeats 4000000 in
theorem tstart_spec (hp:p.start<4294967296) (n:Nat) (hn:n≤1048576) (hr:rightP p n=true):Spec Tryz.prog 203 #[prV p,.agg #[.int .i64 (n:Int),.slice none 0 0]] F [] fun v s=>∃u,v=.tuple #[u,.int .i64 0]∧CfO u (startC p n) s:=by
 obtain ⟨hk1,hk5,_,_,hks⟩:=rightP_iff.1 hr
 refine Spec.of (n:=74) (vs:=[prV p,.agg #[.int .i64 (n:Int),.slice none 0 0]]) Tryz.func203 rfl Tryz.ntmps203 rfl ?_
 refine sj [.e,.e,.e,.p] Z<|Rg.box Z Z Z Z Z (fun b2=>?_)
 refine Rg.box Z Z Z Z Z (fun b3=>?_)
 refine Rg.alloc Z Z Z Z (fun b4=>?_)
 refine aj Z<|nl<|wj<|sj [.r,.r,.e,.p] Z<|rj Z (Ev.ldA Z Z)<|rj Z (Ev.ldA Z Z)<|Rg.callP Z Z Z (mz Z) (may_spec2 hp n hn) ?_
 rintro _ rfl
 refine uj Z (Pv.not Z)<|nl<|cj Z (fun h11=>absurd h11 (by (rw [hr];decide))) (fun h11=>?_)
 refine kj<|wj<|Vc.cut5 (fun (b6 b15:Nat) (pl:Option Addr) (cl:Nat) (sl:Hl)=>Own boolE (.slice pl n cl) (List.replicate n true) sl) (fun b6 b15 pl cl sl=>[(2,.pointer (some ⟨b2,0,none⟩)),(4,.pointer (some ⟨b4,0,none⟩)),(6,.pointer (some ⟨b6,0,none⟩))]) (fun b6 b15 pl cl sl=>(b6,cellsO [.slice (some ⟨b15,0,none⟩) n n,.slice pl n cl] 84)::(b4,cellsO [.slice none 0 0,.slice none 0 0] 84)::(b2,cellsO (prC p) 24)::(b15,rowS u64E (List.replicate n 0) [])::sl) ?_ ?_
 · refine Vc.draw [9] (.st 0 .pure (.st 1 .read (.st 4 .pure (.st 5 .read (.three 2 (.two 3 (.two 6 (sd [(7,.pure),(8,.eff),(9,.eff)]) 8 (sd [(6,.eff),(7,.pure),(9,.eff)])) 8 (sd [(3,.eff),(6,.eff),(7,.pure),(9,.eff)])) 3 (.three 2 (.two 6 (sd [(7,.pure),(8,.eff),(9,.eff)]) 8 (sd [(6,.eff),(7,.pure),(9,.eff)])) 6 (.two 2 (sd [(7,.pure),(8,.eff),(9,.eff)]) 8 (sd [(2,.eff),(7,.pure),(9,.eff)])) 8 (.two 2 (sd [(6,.eff),(7,.pure),(9,.eff)]) 6 (sd [(2,.eff),(7,.pure),(9,.eff)]))) 8 (.two 2 (sd [(3,.eff),(6,.eff),(7,.pure),(9,.eff)]) 3 (.two 2 (sd [(6,.eff),(7,.pure),(9,.eff)]) 6 (sd [(2,.eff),(7,.pure),(9,.eff)])))))))) mixed (by kernel_rfl)<|fj Z<|lj Z Z<|fj Z<|lj Z Z ?_
   refine Rg.three ?_ ?_ ?_
   · refine Rg.makeN u64E 0 (m:=n) rfl rfl rfl rfl rfl ⟨by omega,by (show n≤9223372036854775807);omega⟩ (fun b15 own15=>?_)
     refine Rg.two ?_ ?_
     · refine Rg.bslice1R (E:=boolE) (e:=4) true Z Z Z Z Z Z Z Z (fun b16 own16=>?_)
       refine Rg.two ?_ ?_
       · refine Rg.callA Z Z Z (mz Z) (repeatT_spec (Arg.own own16 frz_sb) n hn) ?_
         rintro v19 s19 own19
         obtain ⟨pl,cl,rfl⟩:=own19.shape
         rw [List.length_replicate] at own19 ⊢
         refine uj Z (Pv.build (c:=#[.slice (some ⟨b15,0,none⟩) n n,.slice pl n cl]) Z Z)<|Rg.alloc Z Z Z Z (fun b6=>?_)
         refine Rg.storeA Z Z Z Z Z Z Z Z<|nl ?_
         exact Vc.inv5 b6 b15 pl cl s19 own19 (.cons rfl (.cons rfl (.cons rfl .nil))) pulled
       · refine Rg.alloc Z Z Z Z (fun b6=>?_)
         refine Rg.callA Z Z Z (mz Z) (repeatT_spec (Arg.own own16 frz_sb) n hn) ?_
         rintro v19 s19 own19
         obtain ⟨pl,cl,rfl⟩:=own19.shape
         rw [List.length_replicate] at own19 ⊢
         refine uj Z (Pv.build (c:=#[.slice (some ⟨b15,0,none⟩) n n,.slice pl n cl]) Z Z)<|Rg.storeA Z Z Z Z Z Z Z Z<|nl ?_
         exact Vc.inv5 b6 b15 pl cl s19 own19 (.cons rfl (.cons rfl (.cons rfl .nil))) pulled
     · refine Rg.alloc Z Z Z Z (fun b6=>?_)
       refine Rg.bslice1R (E:=boolE) (e:=4) true Z Z Z Z Z Z Z Z (fun b16 own16=>?_)
       refine Rg.callA Z Z Z (mz Z) (repeatT_spec (Arg.own own16 frz_sb) n hn) ?_
       rintro v19 s19 own19
       obtain ⟨pl,cl,rfl⟩:=own19.shape
       rw [List.length_replicate] at own19 ⊢
       refine uj Z (Pv.build (c:=#[.slice (some ⟨b15,0,none⟩) n n,.slice pl n cl]) Z Z)<|Rg.storeA Z Z Z Z Z Z Z Z<|nl ?_
       exact Vc.inv5 b6 b15 pl cl s19 own19 (.cons rfl (.cons rfl (.cons rfl .nil))) pulled
   · refine Rg.bslice1R (E:=boolE) (e:=4) true Z Z Z Z Z Z Z Z (fun b16 own16=>?_)
     refine Rg.three ?_ ?_ ?_
     · refine Rg.makeN u64E 0 (m:=n) rfl rfl rfl rfl rfl ⟨by omega,by (show n≤9223372036854775807);omega⟩ (fun b15 own15=>?_)
       refine Rg.two ?_ ?_
       · refine Rg.callA Z Z Z (mz Z) (repeatT_spec (Arg.own own16 frz_sb) n hn) ?_
         rintro v19 s19 own19
         obtain ⟨pl,cl,rfl⟩:=own19.shape
         rw [List.length_replicate] at own19 ⊢
         refine uj Z (Pv.build (c:=#[.slice (some ⟨b15,0,none⟩) n n,.slice pl n cl]) Z Z)<|Rg.alloc Z Z Z Z (fun b6=>?_)
         refine Rg.storeA Z Z Z Z Z Z Z Z<|nl ?_
         exact Vc.inv5 b6 b15 pl cl s19 own19 (.cons rfl (.cons rfl (.cons rfl .nil))) pulled
       · refine Rg.alloc Z Z Z Z (fun b6=>?_)
         refine Rg.callA Z Z Z (mz Z) (repeatT_spec (Arg.own own16 frz_sb) n hn) ?_
         rintro v19 s19 own19
         obtain ⟨pl,cl,rfl⟩:=own19.shape
         rw [List.length_replicate] at own19 ⊢
         refine uj Z (Pv.build (c:=#[.slice (some ⟨b15,0,none⟩) n n,.slice pl n cl]) Z Z)<|Rg.storeA Z Z Z Z Z Z Z Z<|nl ?_
         exact Vc.inv5 b6 b15 pl cl s19 own19 (.cons rfl (.cons rfl (.cons rfl .nil))) pulled
     · refine Rg.callA Z Z Z (mz Z) (repeatT_spec (Arg.own own16 frz_sb) n hn) ?_
       rintro v19 s19 own19
       obtain ⟨pl,cl,rfl⟩:=own19.shape
       rw [List.length_replicate] at own19 ⊢
       refine Rg.two ?_ ?_
       · refine Rg.makeN u64E 0 (m:=n) rfl rfl rfl rfl rfl ⟨by omega,by (show n≤9223372036854775807);omega⟩ (fun b15 own15=>?_)
         refine uj Z (Pv.build (c:=#[.slice (some ⟨b15,0,none⟩) n n,.slice pl n cl]) Z Z)<|Rg.alloc Z Z Z Z (fun b6=>?_)
         refine Rg.storeA Z Z Z Z Z Z Z Z<|nl ?_
         exact Vc.inv5 b6 b15 pl cl s19 own19 (.cons rfl (.cons rfl (.cons rfl .nil))) pulled
       · refine Rg.alloc Z Z Z Z (fun b6=>?_)
         refine Rg.makeN u64E 0 (m:=n) rfl rfl rfl rfl rfl ⟨by omega,by (show n≤9223372036854775807);omega⟩ (fun b15 own15=>?_)
         refine uj Z (Pv.build (c:=#[.slice (some ⟨b15,0,none⟩) n n,.slice pl n cl]) Z Z)<|Rg.storeA Z Z Z Z Z Z Z Z<|nl ?_
         exact Vc.inv5 b6 b15 pl cl s19 own19 (.cons rfl (.cons rfl (.cons rfl .nil))) pulled
     · refine Rg.alloc Z Z Z Z (fun b6=>?_)
       refine Rg.two ?_ ?_
       · refine Rg.makeN u64E 0 (m:=n) rfl rfl rfl rfl rfl ⟨by omega,by (show n≤9223372036854775807);omega⟩ (fun b15 own15=>?_)
         refine Rg.callA Z Z Z (mz Z) (repeatT_spec (Arg.own own16 frz_sb) n hn) ?_
         rintro v19 s19 own19
         obtain ⟨pl,cl,rfl⟩:=own19.shape
         rw [List.length_replicate] at own19 ⊢
         refine uj Z (Pv.build (c:=#[.slice (some ⟨b15,0,none⟩) n n,.slice pl n cl]) Z Z)<|Rg.storeA Z Z Z Z Z Z Z Z<|nl ?_
         exact Vc.inv5 b6 b15 pl cl s19 own19 (.cons rfl (.cons rfl (.cons rfl .nil))) pulled
       · refine Rg.callA Z Z Z (mz Z) (repeatT_spec (Arg.own own16 frz_sb) n hn) ?_
         rintro v19 s19 own19
         obtain ⟨pl,cl,rfl⟩:=own19.shape
         rw [List.length_replicate] at own19 ⊢
         refine Rg.makeN u64E 0 (m:=n) rfl rfl rfl rfl rfl ⟨by omega,by (show n≤9223372036854775807);omega⟩ (fun b15 own15=>?_)
         refine uj Z (Pv.build (c:=#[.slice (some ⟨b15,0,none⟩) n n,.slice pl n cl]) Z Z)<|Rg.storeA Z Z Z Z Z Z Z Z<|nl ?_
         exact Vc.inv5 b6 b15 pl cl s19 own19 (.cons rfl (.cons rfl (.cons rfl .nil))) pulled
   · refine Rg.alloc Z Z Z Z (fun b6=>?_)
     refine Rg.two ?_ ?_
     · refine Rg.makeN u64E 0 (m:=n) rfl rfl rfl rfl rfl ⟨by omega,by (show n≤9223372036854775807);omega⟩ (fun b15 own15=>?_)
       refine Rg.bslice1R (E:=boolE) (e:=4) true Z Z Z Z Z Z Z Z (fun b16 own16=>?_)
       refine Rg.callA Z Z Z (mz Z) (repeatT_spec (Arg.own own16 frz_sb) n hn) ?_
       rintro v19 s19 own19
       obtain ⟨pl,cl,rfl⟩:=own19.shape
       rw [List.length_replicate] at own19 ⊢
       refine uj Z (Pv.build (c:=#[.slice (some ⟨b15,0,none⟩) n n,.slice pl n cl]) Z Z)<|Rg.storeA Z Z Z Z Z Z Z Z<|nl ?_
       exact Vc.inv5 b6 b15 pl cl s19 own19 (.cons rfl (.cons rfl (.cons rfl .nil))) pulled
     · refine Rg.bslice1R (E:=boolE) (e:=4) true Z Z Z Z Z Z Z Z (fun b16 own16=>?_)
       refine Rg.two ?_ ?_
       · refine Rg.makeN u64E 0 (m:=n) rfl rfl rfl rfl rfl ⟨by omega,by (show n≤9223372036854775807);omega⟩ (fun b15 own15=>?_)
         refine Rg.callA Z Z Z (mz Z) (repeatT_spec (Arg.own own16 frz_sb) n hn) ?_
         rintro v19 s19 own19
         obtain ⟨pl,cl,rfl⟩:=own19.shape
         rw [List.length_replicate] at own19 ⊢
         refine uj Z (Pv.build (c:=#[.slice (some ⟨b15,0,none⟩) n n,.slice pl n cl]) Z Z)<|Rg.storeA Z Z Z Z Z Z Z Z<|nl ?_
         exact Vc.inv5 b6 b15 pl cl s19 own19 (.cons rfl (.cons rfl (.cons rfl .nil))) pulled
       · refine Rg.callA Z Z Z (mz Z) (repeatT_spec (Arg.own own16 frz_sb) n hn) ?_
         rintro v19 s19 own19
         obtain ⟨pl,cl,rfl⟩:=own19.shape
         rw [List.length_replicate] at own19 ⊢
         refine Rg.makeN u64E 0 (m:=n) rfl rfl rfl rfl rfl ⟨by omega,by (show n≤9223372036854775807);omega⟩ (fun b15 own15=>?_)
         refine uj Z (Pv.build (c:=#[.slice (some ⟨b15,0,none⟩) n n,.slice pl n cl]) Z Z)<|Rg.storeA Z Z Z Z Z Z Z Z<|nl ?_
         exact Vc.inv5 b6 b15 pl cl s19 own19 (.cons rfl (.cons rfl (.cons rfl .nil))) pulled
 · rintro b6 b15 pl cl sl own
   refine wj<|sj [.p,.r,.p,.p] Z<|fj Z<|lj Z Z<|uj Z (Pv.lenS Z)<|mj Z<|nl<|bj ?_
   refine Vc.loop4 (fun (k:Nat) (ys:List Int) (zs:List Bool) (sl:Hl)=>k≤n∧ys.length=n∧zs.length=n∧Own boolE (.slice pl n cl) zs sl∧(∀j,j<n→ys[j]! = if j<k then A0 p j else 0)∧∀j,j<n→zs[j]! = if j<k then B0 p else true) (fun k ys zs sl=>[(23,.int .i64 (n:Int)),(24,.int .i64 (k:Int)),(2,.pointer (some ⟨b2,0,none⟩)),(4,.pointer (some ⟨b4,0,none⟩)),(6,.pointer (some ⟨b6,0,none⟩))]) (fun k ys zs sl=>(b6,cellsO [.slice (some ⟨b15,0,none⟩) n n,.slice pl n cl] 84)::(b4,cellsO [.slice none 0 0,.slice none 0 0] 84)::(b2,cellsO (prC p) 24)::(b15,rowS u64E ys [])::sl) (fun k ys zs sl=>n-k) 0 (List.replicate n 0) (List.replicate n true) sl ⟨Nat.zero_le _,by simp,by simp,own,fun j hj=>by rw [rep_at n j 0 hj];simp,fun j hj=>by rw [rep_at n j true hj];simp⟩ (.cons rfl (.cons rfl (.cons rfl (.cons rfl (.cons rfl .nil))))) pulled ?_
   rintro k ys zs sl ⟨hk,hyl,hzl,own,hys,hzs⟩
   refine sj [.p] Z<|uj Z (Pv.lss Z Z)<|nl<|wj<|cj Z (fun h25=>?_) (fun h25=>?_)
   · simp only [dt] at h25
     have hk1':k<n:=by omega
     obtain ⟨bl,cl',spl,e,rfl,hcap,hcm⟩:=own.block (by omega)
     simp only [Value.slice.injEq] at e
     obtain ⟨rfl,_,rfl⟩:=e
     have hYS:∀x,A0 p k=x→∀j,j<n→(ys.set k x)[j]! = if j<k+1 then A0 p j else 0:=fun x hx j hj=>by
      rw [get_set2 ys k j x (by omega)]
      by_cases e:k=j
      · subst e;rw [if_pos rfl,if_pos (by omega),hx]
      · rw [if_neg e,hys j hj]
        by_cases h:j<k
        · rw [if_pos h,if_pos (by omega)]
        · rw [if_neg h,if_neg (by omega)]
     have hZS:∀x,B0 p=x→∀j,j<n→(zs.set k x)[j]! = if j<k+1 then B0 p else true:=fun x hx j hj=>by
      rw [get_set2 zs k j x (by omega)]
      by_cases e:k=j
      · subst e;rw [if_pos rfl,if_pos (by omega),hx]
      · rw [if_neg e,hzs j hj]
        by_cases h:j<k
        · rw [if_pos h,if_pos (by omega)]
        · rw [if_neg h,if_neg (by omega)]
     have hY0:A0 p k=0→∀j,j<n→ys[j]! = if j<k+1 then A0 p j else 0:=fun hx j hj=>by
      rw [hys j hj]
      by_cases h:j<k
      · rw [if_pos h,if_pos (by omega)]
      · rw [if_neg h]
        by_cases e:j=k
        · subst e;rw [if_pos (by omega),hx]
        · rw [if_neg (by omega)]
     have hZ0:B0 p=true→∀j,j<n→zs[j]! = if j<k+1 then B0 p else true:=fun hx j hj=>by
      rw [hzs j hj,hx]
      simp
     refine kj<|wj<|bj<|sj [.p,.p] Z<|mj Z<|aj Z<|nl<|sj [.p,.r] Z<|fj Z<|lj Z Z<|nl<|bj<|sj [.p,.p] Z<|uj Z (Pv.eql Z Z)<|aj Z ?_
     refine nl<|Vc.cut3 (fun (ys2:List Int) (zs2:List Bool) (sl2:Hl)=>ys2.length=n∧zs2.length=n∧Own boolE (.slice (some ⟨bl,0,none⟩) n cl) zs2 sl2∧(∀j,j<n→ys2[j]! = if j<k+1 then A0 p j else 0)∧∀j,j<n→zs2[j]! = if j<k+1 then B0 p else true) (fun ys2 zs2 sl2=>[(23,.int .i64 (n:Int)),(24,.int .i64 (k:Int)),(2,.pointer (some ⟨b2,0,none⟩)),(4,.pointer (some ⟨b4,0,none⟩)),(6,.pointer (some ⟨b6,0,none⟩))]) (fun ys2 zs2 sl2=>(b6,cellsO [.slice (some ⟨b15,0,none⟩) n n,.slice (some ⟨bl,0,none⟩) n cl] 84)::(b4,cellsO [.slice none 0 0,.slice none 0 0] 84)::(b2,cellsO (prC p) 24)::(b15,rowS u64E ys2 [])::sl2) ?_ ?_
     · refine cj Z (fun h29=>?_) (fun h29=>?_)
       · have hkk:p.kind=2:=by simpa using h29
         have hA:A0 p k=((k:Nat):Int):=by rw [A0,if_pos hkk]
         have hB:B0 p=true:=by rw [B0,if_neg (by omega)]
         refine tj [.p,.r,.p,.p,.p,.p,.e] Z<|fj Z<|lj Z Z<|mj Z<|mj Z<|uj Z (Pv.asI k (Pv.convI rfl) (wrap_ult rfl (by show k<2 ^ 64;omega)))<|uj Z (Pv.ixA (k) rfl rfl (by omega) (by omega)) ?_
         refine Rg.storeR (E:=u64E) (z:=((k:Nat):Int)) k rfl rfl rfl rfl rfl rfl (Nat.zero_add _) (by omega) rfl<|nl ?_
         exact Vc.inv3 (ys.set k ((k:Nat):Int)) zs _ ⟨by rw [List.length_set,hyl],hzl,own,hYS _ hA,hZ0 hB⟩ (.cons rfl (.cons rfl (.cons rfl (.cons rfl (.cons rfl .nil))))) pulled
       · have hk2 : ¬p.kind=2:=by simpa using h29
         refine sj [.p,.p] Z<|uj Z (Pv.eql Z Z)<|aj Z<|nl<|cj Z (fun h37=>?_) (fun h37=>?_)
         · have hkk:p.kind=4:=by simpa using h37
           have hA:A0 p k=1048576:=by rw [A0,if_neg hk2,if_pos hkk]
           have hB:B0 p=true:=by rw [B0,if_neg (by omega)]
           refine tj [.p,.r,.p,.p,.e] Z<|fj Z<|lj Z Z<|mj Z<|uj Z (Pv.ixA (k) rfl rfl (by omega) (by omega)) ?_
           refine Rg.storeR (E:=u64E) (z:=(1048576:Int)) k rfl rfl rfl rfl rfl rfl (Nat.zero_add _) (by omega) rfl<|nl ?_
           exact Vc.inv3 (ys.set k 1048576) zs _ ⟨by rw [List.length_set,hyl],hzl,own,hYS _ hA,hZ0 hB⟩ (.cons rfl (.cons rfl (.cons rfl (.cons rfl (.cons rfl .nil))))) pulled
         · have hk4 : ¬p.kind=4:=by simpa using h37
           refine wj<|sj [.p,.p] Z<|uj Z (Pv.eql Z Z)<|aj Z<|nl<|Vc.cut1 (fun (bb:Bool)=>bb=true↔(p.kind=1∨p.kind=3)) (fun bb=>[(43,.bool bb),(7,.int .i64 (k:Int)),(23,.int .i64 (n:Int)),(24,.int .i64 (k:Int)),(2,.pointer (some ⟨b2,0,none⟩)),(4,.pointer (some ⟨b4,0,none⟩)),(6,.pointer (some ⟨b6,0,none⟩))]) (fun bb=>(b6,cellsO [.slice (some ⟨b15,0,none⟩) n n,.slice (some ⟨bl,0,none⟩) n cl] 84)::(b4,cellsO [.slice none 0 0,.slice none 0 0] 84)::(b2,cellsO (prC p) 24)::(b15,rowS u64E ys [])::[(bl,rowS boolE zs spl)]) ?_ ?_
           · refine cj Z (fun h43=>?_) (fun h43=>?_)
             · refine kj ?_
               exact Vc.inv1 _ ⟨fun _=>.inl (by simpa using h43),fun _=>h43⟩ (.cons rfl (.cons rfl (.cons rfl (.cons rfl (.cons rfl (.cons rfl (.cons rfl .nil))))))) pulled
             · refine tj [.p,.p] Z<|uj Z (Pv.eql Z Z)<|aj Z<|nl ?_
               exact Vc.inv1 _ ⟨fun h=>.inr (by simpa using h),fun h=>by
                have h1 : ¬p.kind=1:=by simpa using h43
                have h3:=h.resolve_left h1
                simp [h3]⟩ (.cons rfl (.cons rfl (.cons rfl (.cons rfl (.cons rfl (.cons rfl (.cons rfl .nil))))))) pulled
           · rintro bb hbb
             refine cj Z (fun h43=>?_) (fun h43=>?_)
             · have hkk:=hbb.1 h43
               have hA:A0 p k=18446744073709551615:=by rw [A0,if_neg hk2,if_neg hk4,if_pos hkk]
               have hB:B0 p=false:=by rw [B0,if_pos hkk]
               refine Vc.drawS [9] (sd [(0,.pure),(1,.read),(2,.pure),(3,.pure),(4,.read),(5,.pure),(6,.pure),(7,.eff),(8,.pure),(9,.eff)]) [(b6,cellsO [.slice (some ⟨b15,0,none⟩) n n,.slice (some ⟨bl,0,none⟩) n cl] 84)] pulled mixed (by kernel_rfl)<|fj Z<|lj Z Z<|mj Z<|fj Z<|lj Z Z<|mj Z<|uj Z (Pv.ixA (k) rfl rfl (by omega) (by omega)) ?_
               refine Rg.storeRN (E:=u64E) (z:=(18446744073709551615:Int)) k rfl rfl rfl rfl rfl rfl (Nat.zero_add _) (by omega)<|uj Z (Pv.ixA (k) rfl rfl (by omega) (by omega))<|Rg.storeR (E:=boolE) (z:=false) k rfl rfl rfl rfl rfl rfl (Nat.zero_add _) (by omega) rfl<|nl ?_
               exact Vc.inv3 (ys.set k 18446744073709551615) (zs.set k false) [(bl,rowS boolE (zs.set k false) spl)] ⟨by rw [List.length_set,hyl],by rw [List.length_set,hzl],Own.blk' bl cl n _ spl (by rw [List.length_set,hzl]) (by rw [←hzl];exact hcap) hcm,hYS _ hA,hZS _ hB⟩ (.cons rfl (.cons rfl (.cons rfl (.cons rfl (.cons rfl .nil))))) pulled
             · have hkk : ¬(p.kind=1∨p.kind=3):=fun h=>by rw [hbb.2 h] at h43;cases h43
               have hA:A0 p k=0:=by rw [A0,if_neg hk2,if_neg hk4,if_neg hkk]
               have hB:B0 p=true:=by rw [B0,if_neg hkk]
               refine kj ?_
               exact Vc.inv3 ys zs _ ⟨hyl,hzl,own,hY0 hA,hZ0 hB⟩ (.cons rfl (.cons rfl (.cons rfl (.cons rfl (.cons rfl .nil))))) pulled
     · rintro ys2 zs2 sl2 ⟨hyl2,hzl2,own2,hys2,hzs2⟩
       refine dj<|dj<|tj [.p,.p] Z<|uj Z (Pv.asI (k+1) (Pv.add rfl rfl (by omega)) (by omega))<|mj Z<|nl ?_
       exact Vc.inv4 (k+1) ys2 zs2 sl2 ⟨⟨by omega,hyl2,hzl2,own2,hys2,hzs2⟩,by omega⟩ (.cons rfl (.cons rfl (.cons rfl (.cons rfl (.cons rfl .nil))))) pulled
   · simp only [df] at h25
     obtain rfl:k=n:=by omega
     refine Vc.exit Z<|wj<|wj<|Vc.cut1 (fun (bb:Bool)=>bb=true↔(p.kind=1∨p.kind=3)) (fun bb=>[(62,.bool bb),(2,.pointer (some ⟨b2,0,none⟩)),(4,.pointer (some ⟨b4,0,none⟩)),(6,.pointer (some ⟨b6,0,none⟩))]) (fun bb=>(b6,cellsO [.slice (some ⟨b15,0,none⟩) k k,.slice pl k cl] 84)::(b4,cellsO [.slice none 0 0,.slice none 0 0] 84)::(b2,cellsO (prC p) 24)::(b15,rowS u64E ys [])::sl) ?_ ?_
     · refine tj [.p,.r,.p,.p,.p,.r,.p,.p] Z<|fj Z<|lj Z Z<|uj Z (Pv.eql Z Z)<|mj Z ?_
       refine Rg.split (t:=58) Z (fun h58=>?_) (fun h58=>?_)
       · iterate 3 (first | refine Rg.skipP rfl rfl rfl ?_ | refine Rg.skipR rfl rfl rfl ?_ | refine Rg.skipE rfl rfl rfl ?_)
         refine qj Z Z<|nl ?_
         exact Vc.inv1 true ⟨fun _=>.inl (by simpa using h58),fun _=>rfl⟩ (.cons rfl (.cons rfl (.cons rfl (.cons rfl .nil)))) pulled
       · refine fj Z<|lj Z Z<|uj Z (Pv.eql Z Z)<|pj Z Z<|nl ?_
         exact Vc.inv1 _ ⟨fun h=>.inr (by simpa using h),fun h=>by
          have h1 : ¬p.kind=1:=by simpa using h58
          have h3:=h.resolve_left h1
          simp [h3]⟩ (.cons rfl (.cons rfl (.cons rfl (.cons rfl .nil)))) pulled
     · rintro bb hbb
       refine Vc.cut3 (fun (ys2:List Int) (zs2:List Bool) (sl2:Hl)=>ys2=(startC p k).vals∧zs2=(startC p k).live∧Own boolE (.slice pl k cl) zs2 sl2) (fun ys2 zs2 sl2=>[(2,.pointer (some ⟨b2,0,none⟩)),(4,.pointer (some ⟨b4,0,none⟩)),(6,.pointer (some ⟨b6,0,none⟩))]) (fun ys2 zs2 sl2=>(b6,cellsO [.slice (some ⟨b15,0,none⟩) k k,.slice pl k cl] 84)::(b4,cellsO [.slice none 0 0,.slice none 0 0] 84)::(b15,rowS u64E ys2 [])::sl2) ?_ ?_
       · refine cj Z (fun h62=>?_) (fun h62=>?_)
         · have hkk:=hbb.1 h62
           have hps:p.start<k:=by omega
           obtain ⟨bl,cl',spl,e,rfl,hcap,hcm⟩:=own.block (by omega)
           simp only [Value.slice.injEq] at e
           obtain ⟨rfl,_,rfl⟩:=e
           refine Vc.drawS [11] (sd [(0,.pure),(1,.read),(2,.pure),(3,.read),(4,.pure),(5,.read),(6,.pure),(7,.read),(8,.pure),(9,.eff),(10,.pure),(11,.eff)]) [(b6,cellsO [.slice (some ⟨b15,0,none⟩) k k,.slice (some ⟨bl,0,none⟩) k cl] 84),(b2,cellsO (prC p) 24)] pulled mixed (by kernel_rfl)<|fj Z<|lj Z Z<|fj Z<|lj Z Z<|fj Z<|lj Z Z<|fj Z<|lj Z Z<|uj Z (Pv.ixK p.start rfl rfl rfl (by omega)) ?_
           refine Rg.storeRN (E:=u64E) (z:=(0:Int)) p.start rfl rfl rfl rfl rfl rfl (Nat.zero_add _) (by omega)<|uj Z (Pv.ixK p.start rfl rfl rfl (by omega))<|Rg.storeR (E:=boolE) (z:=true) p.start rfl rfl rfl rfl rfl rfl (Nat.zero_add _) (by omega) rfl<|nl ?_
           exact Vc.inv3 (ys.set p.start 0) (zs.set p.start true) [(bl,rowS boolE (zs.set p.start true) spl)] ⟨list_of (by rw [List.length_set,hyl]) (fun j hj=>by
            rw [get_set2 ys p.start j 0 (by omega),hys j hj,if_pos hj,sA_one hkk,A0_one hkk]
            by_cases e:p.start=j
            · rw [if_pos e,if_pos e.symm]
            · rw [if_neg e,if_neg (fun h=>e h.symm)]),list_of (by rw [List.length_set,hzl]) (fun j hj=>by
            rw [get_set2 zs p.start j true (by omega),hzs j hj,if_pos hj,sB,B0,if_pos hkk,if_pos hkk]
            by_cases e:p.start=j
            · rw [if_pos e,decide_eq_true e.symm]
            · rw [if_neg e,decide_eq_false (fun h=>e h.symm)]),Own.blk' bl cl k _ spl (by rw [List.length_set,hzl]) (by rw [←hzl];exact hcap) hcm⟩ (.cons rfl (.cons rfl (.cons rfl .nil))) pulled
         · have hkk : ¬(p.kind=1∨p.kind=3):=fun h=>by rw [hbb.2 h] at h62;cases h62
           refine kj ?_
           exact Vc.inv3 ys zs sl ⟨list_of hyl (fun j hj=>by
            rw [hys j hj,if_pos hj,sA,A0]
            split
            · rfl
            · split
              · rfl
              · simp []),list_of hzl (fun j hj=>by
            rw [hzs j hj,if_pos hj,sB,B0,if_neg hkk,if_neg hkk]),own⟩ (.cons rfl (.cons rfl (.cons rfl .nil))) pulled
       · rintro ys2 zs2 sl2 ⟨rfl,rfl,own2⟩
         refine sj [.r,.e,.p] Z<|rj Z (Ev.ldA Z Z)<|Rg.storeA Z Z Z Z Z Z Z Z<|aj Z<|nl ?_
         exact vr (hl':=[(b15,rowS u64E (startC p k).vals [])]++sl2) rfl (.cons (.cellA rfl rfl) (tz Z)) ⟨_,rfl,_,_,_,sl2,rfl,Own.blk' b15 k k _ [] (by simp [startC]) (by simp [u64E]) (by (show k≤9223372036854775807);omega),own2,rfl⟩ pulled
end
open ED (Eg egV egC edgeE InE grV)
def outN (es:List Eg) (v:Nat):Nat:=(es.filter fun e=>decide (e.f=v)).length
def msg1 (p:Prg) (es:List Eg) (c:Cf) (e:Eg):Option Rc:=if sendsP p c e.f=true then some ⟨(e.t:Int),msgP p c.vals[e.f]! (outN es e.f:Nat) (e.w:Int)⟩ else none
def msgsC (p:Prg) (es:List Eg) (c:Cf):List Rc:=es.filterMap (msg1 p es c)
def stepT (p:Prg) (es:List Eg) (c:Cf):Cf :=
 if quietC c=true then c else ⟨(List.range c.vals.length).map fun v:Nat=>(nextP p c.vals[v]! (tot (howP p) (v:Int) (msgsC p es c))).1,(List.range c.vals.length).map fun v:Nat=>(nextP p c.vals[v]! (tot (howP p) (v:Int) (msgsC p es c))).2⟩
def InG (n:Nat) (es:List Eg):Prop:=∀e∈es,e.f<n∧e.t<n∧InE e
theorem outN_snoc (es:List Eg) (e:Eg) (v:Nat):outN (es++[e]) v=outN es v+if e.f=v then 1 else 0:=by
 unfold outN
 rw [List.filter_append,ly]
 congr 1
 by_cases h:e.f=v<;>simp [h]
theorem outN_le (es:List Eg) (v:Nat):outN es v≤es.length:=List.length_filter_le _ _
theorem tot_in {how k:Int}:∀{l:List Rc},(∀r∈l,InU r.val)→∀x,tot how k l=some x→InU x:=by
 intro l
 induction l using snocRec with
 | nil=>intro _ x h;simp [tot] at h
 | snoc l r ih =>
  intro h x hx
  rw [tot_snoc] at hx
  split at hx
  · have hr:=h r (by simp)
    cases ht:tot how k l with
    | none=>rw [ht] at hx;simp only [addO,Option.some.injEq] at hx;rw [←hx];exact hr
    | some y =>
     rw [ht] at hx
     simp only [addO,Option.some.injEq] at hx
     rw [←hx]
     exact comb_in (ih (fun q hq=>h q (by simp [hq])) y ht) hr
  · exact ih (fun q hq=>h q (by simp [hq])) x hx
theorem msgs_in {p:Prg} {n:Nat} {es all:List Eg} {c:Cf} (hi:InC c n) (hg:InG n es):∀r∈es.filterMap (msg1 p all c),InU r.val:=by
 intro r hr
 obtain ⟨e,he,h⟩:=List.mem_filterMap.1 hr
 unfold msg1 at h
 split at h
 · simp only [Option.some.injEq] at h
   rw [←h]
   exact msgP_in (hi.in_ e.f (hg e he).1) ⟨by omega,by have:=(hg e he).2.2.2.2;omega⟩ (by omega)
 · cases h
section
variable {F : Fm} {p : Prg}
theorem Rg.callPN {P:Program} {Qf:Exit→Act→World→Prop} {n:Nf} {F:Fm} {ks:List KItem} {ops:List Oper} {clr:List Nat} {hs hl q:Hl} {r:Sd} {l:Env} {i:Nat} {ty:TypeId} {pos:String} {af:Array Edge} {g:Option (Nat×Bool)} {t f:Nat} {o:Op} {args:Array Value} {post:Value→Prop} (ho:nth ops i=some ⟨some t,o,ty,pos,af,g⟩) (hg:wantB ops l g=some true) (ht:Nat.blt t n.n=true) (hc:Callz P n l ⟨some t,o,ty,pos,af,g⟩ f args)
 (hspec:Spec P f args (frz F hl) [] fun v _=>post v) [hq:PullL hl hs q] (h:∀v,post v→Rg P Qf n F ks ops clr hs r ((t,v)::l) hl):Rg P Qf n F ks ops clr hs (.st i .eff r) l hl:=fun a w hf hh=>by
 show wpOpX _ _ _ _ _ _ _ _
 unfold wpOpX wpOpIn
 rw [nth_eq] at ho
 have ho':ops.toArray[i]? = some ⟨some t,o,ty,pos,af,g⟩:=by simpa using ho
 simp only [ho',wantB_spec (o:=⟨some t,o,ty,pos,af,g⟩) hg hf,if_true]
 unfold Oper.wpIn
 refine ⟨fun _ _=>trivial,?_⟩
 rw [semAt_run (hc a w hf) (by intro d h;cases h)]
 obtain ⟨h1,h2,h3⟩:=Hp.frz_iff.1 (show Hp F ([]++hl) w from hh)
 refine ⟨(by intro h;cases h),fe_calls ((hspec w h1).mono fun e w' ⟨v,hl',he,hpost,hh'⟩=>?_)⟩
 subst he
 have hfin:Hp F (hl'++hl) w':=Hp.frz_iff.2 ⟨hh',h2,h3⟩
 have hfin':Hp F hl w':=Hp.forget (hfin.perm List.perm_append_comm)
 exact ⟨_,fun _ _ h=>h,⟨q,hfin'.perm (hq.perm.trans List.perm_append_comm)⟩,h v hpost _ w' (hf.put ht v) hfin'⟩
end
def kW (z:Int):Value:=.int .u32 z
instance : KeyTy Tryz.prog 22 kW:=KeyTy.of ⟨.int .u32,Tryz.underlying22,fun _=>rfl⟩ (fun a b h=>by simpa [kW] using h)
section
variable {κ : Type} [DecidableEq κ]
theorem updM_keys {ms:List (Me κ)} {k:κ} {v:Value} {c:Nat} (h:(ms.map (·.k)).Nodup):((updM ms k v c).map (·.k)).Nodup:=by
 unfold updM
 split
 · have hk:(ms.map fun m=>if m.k=k then (⟨m.k,v,m.born⟩:Me κ) else m).map (·.k)=ms.map (·.k):=by
    rw [List.map_map];refine List.map_congr_left fun m _=>?_
    simp only [Function.comp];split<;>rfl
   rw [hk];exact h
 · rename_i hs
   have hno:findM ms k=none:=by cases hf:findM ms k with | none=>rfl | some m=>rw [hf] at hs;exact absurd rfl hs
   rw [List.map_append,List.nodup_append]
   exact ⟨h,by simp,fun a ha b hb=>by
    simp at hb
    subst hb
    obtain ⟨x,hx,rfl⟩:=List.mem_map.1 ha
    exact findM_none.1 hno x hx⟩
theorem findM_map (ms:List (Me κ)) (k j:κ) (v:Value):(findM (ms.map fun m=>if m.k=k then (⟨m.k,v,m.born⟩:Me κ) else m) j).map (·.v)=if j=k then (findM ms j).map (fun _=>v) else (findM ms j).map (·.v):=by
 unfold findM
 induction ms with
 | nil=>simp
 | cons m ms ih =>
  rw [List.map_cons,List.find?_cons,List.find?_cons]
  by_cases e:m.k=k
  · rw [if_pos e]
    by_cases ej:m.k=j
    · simp only [ej,decide_true,Option.map_some]
      rw [if_pos (by rw [←ej,e])]
    · simp only [decide_eq_false ej]
      exact ih
  · rw [if_neg e]
    by_cases ej:m.k=j
    · simp only [ej,decide_true,Option.map_some]
      rw [if_neg (fun h=>e (by rw [ej,h]))]
    · simp only [decide_eq_false ej]
      exact ih
theorem findM_upd (ms:List (Me κ)) (k j:κ) (v:Value) (c:Nat):(findM (updM ms k v c) j).map (·.v)=if j=k then some v else (findM ms j).map (·.v):=by
 unfold updM
 split
 · rename_i hs
   rw [findM_map]
   by_cases e:j=k
   · rw [if_pos e,if_pos e,e]
     cases hf:findM ms k with
     | none=>rw [hf] at hs;cases hs
     | some m=>rfl
   · rw [if_neg e,if_neg e]
 · rename_i hs
   have hno:findM ms k=none:=by cases hf:findM ms k with | none=>rfl | some m=>rw [hf] at hs;exact absurd rfl hs
   unfold findM at hno ⊢
   rw [List.find?_append]
   by_cases e:j=k
   · rw [if_pos e,e,hno];simp
   · rw [if_neg e]
     have e' : ¬k=j:=fun h=>e h.symm
     cases hf:List.find? (fun m:Me κ=>decide (m.k=j)) ms<;>simp [e']
end
section
variable {F : Fm} {bb db B : Nat} {C : Cx} {D : Dk} {s1 s2 : Hl} {now msgs : List Rc} {fs : List (List Rc)} {p : Prg} {c : Cf} {n : Nat}
theorem howP_or (p:Prg):howP p=1∨howP p=2:=by unfold howP;split<;>simp
structure SnS where
 now:List Rc
 fs:List (List Rc)
 D:Dk
 h1:Hl
 h2:Hl
set_option maxHeartbeats 8000000 in
theorem stSends_z (hC:C.Ok) (hB:1≤B) (hS:BoxAt bb db B (howP p) now fs.length s1) (hI:BoxI (howP p) D now fs msgs) {a b we:Value} (hc:CfA F a b c) (hic:InC c n) (hq:quietC c=false) {W:List Eg} (hW:Arg edgeE F we W) (hG:InG n W) (hl:msgs.length+W.length<49) (hcap:16*(msgs.length+W.length)+6≤C.cap) (hk:∀k,1≤k→k≤msgs.length+W.length→boxN k∈C.S) (hD:DiskAt db D s2) (hw:Wz C D) (hup:D.down=false) :
 Spec Tryz.prog 240 #[.pointer (some ⟨bb,0,none⟩),prV p,cfV a b,we] F (s1++s2) fun v s'=>∃e D' h1 h2,v=.int .i64 e∧s'=h1++h2∧DiskAt db D' h2∧(∃now' nx',BoxAt bb db B (howP p) now' nx' h1)∧Out C BoxT (fun D'=>∃now' fs',BoxAt bb db B (howP p) now' fs'.length h1∧BoxI (howP p) D' now' fs' (msgs++W.filterMap (msg1 p W c))) D 0 e D':=by
 obtain ⟨pw,cw,rfl⟩:=hW.shape
 obtain ⟨pv,cv,e1⟩:=hc.va.shape
 obtain ⟨pl,cl,e2⟩:=hc.la.shape
 subst e1;subst e2
 have hva:=hc.va
 have hla:=hc.la
 obtain ⟨hvl,hll,hfew,hin⟩:=hic
 have hic:InC c n:=⟨hvl,hll,hfew,hin⟩
 rw [hvl] at hva ⊢
 rw [hll] at hla ⊢
 refine Spec.of (n:=75) (vs:=[.pointer (some ⟨bb,0,none⟩),prV p,cfV (.slice pv n cv) (.slice pl n cl),.slice pw W.length cw]) Tryz.func240 rfl Tryz.ntmps240 rfl ?_
 refine sj [.e,.e,.p] Z<|Rg.box Z Z Z Z Z (fun b5=>?_)
 refine Rg.box Z Z Z Z Z (fun b6=>?_)
 refine aj Z<|nl<|sj [.e,.p] Z<|Rg.makeMap kW Z Z Z (fun b17=>?_)
 refine aj Z<|nl<|wj<|sj [.p,.p,.p] Z<|mj Z<|uj Z (Pv.lenS Z)<|mj Z<|nl<|bj ?_
 refine Vc.loop3 (fun (k:Nat) (ms:List (Me Int)) (mc:Nat)=>k≤W.length∧(ms.map (·.k)).Nodup∧∀j:Nat,(((findM ms (j:Int)).map (·.v)).getD (.int .i64 0))=.int .i64 ((outN (W.take k) j:Nat):Int)) (fun k ms mc=>[(18,.slice pw W.length cw),(19,.int .i64 (W.length:Int)),(20,.int .i64 (k:Int)),(0,.pointer (some ⟨bb,0,none⟩)),(3,.slice pw W.length cw),(5,.pointer (some ⟨b5,0,none⟩)),(6,.pointer (some ⟨b6,0,none⟩)),(9,.map (some b17))]) (fun k ms mc=>(b17,mapO kW ms mc)::(b5,cellsO (prC p) 24)::(b6,cellsO [.slice pv n cv,.slice pl n cl] 84)::(s1++s2)) (fun k ms mc=>W.length-k) 0 [] 0 ⟨Nat.zero_le _,.nil,fun j=>Z⟩ (.cons Z (.cons Z (.cons Z (.cons Z (.cons Z (.cons Z (.cons Z (.cons Z .nil)))))))) pulled ?_
 rintro k ms mc ⟨hk1,hnd,hcn⟩
 refine sj [.p] Z<|uj Z (Pv.lss Z Z)<|nl<|wj<|cj Z (fun h21=>?_) (fun h21=>?_)
 · simp only [dt] at h21
   have hk2:k<W.length:=by omega
   obtain ⟨be,oe,ce',e,_⟩:=hW.block (by omega)
   simp only [Value.slice.injEq] at e
   obtain ⟨rfl,_,rfl⟩:=e
   have htk:W.take (k+1)=W.take k++[W[k]!]:=by rw [List.take_succ_eq_append_getElem hk2,getElem!_pos W k hk2]
   have hol:=outN_le (W.take k) W[k]!.f
   rw [List.length_take] at hol
   refine kj<|wj<|bj<|sj [.p,.r,.e,.e] Z<|uj Z (Pv.ixA (k) rfl rfl (by omega) (by omega))<|rj Z (Ev.as (egV W[k]!) (Ev.ldS (E:=edgeE) k hW.src Z Z Z hk2) Z)<|Rg.alloc Z Z Z Z (fun b11=>?_)
   refine Rg.storeA Z Z Z Z Z Z Z Z<|nl<|tj [.p,.p,.r,.r,.p,.e] Z<|mj Z<|fj Z<|lj Z Z<|rj Z (Ev.as (.int .i64 ((outN (W.take k) W[k]!.f:Nat):Int)) (Ev.lookup (kv:=kW) (k:=(W[k]!.f:Int)) Z Z hnd) (hcn _))<|uj Z (Pv.asI (outN (W.take k) W[k]!.f+1) (Pv.add rfl rfl (by omega)) (by omega)) ?_
   refine Rg.mapUpd (kv:=kW) (dk:=.int .u32) (k:=(W[k]!.f:Int)) (v:=.int .i64 ((outN (W.take k) W[k]!.f+1:Nat):Int)) Z Z Z Z Z Z Z hnd Z<|nl<|dj<|tj [.p,.p] Z<|uj Z (Pv.asI (k+1) (Pv.add rfl rfl (by omega)) (by omega))<|mj Z<|nl ?_
   exact Vc.inv3 (k+1) (updM ms (W[k]!.f:Int) (.int .i64 ((outN (W.take k) W[k]!.f+1:Nat):Int)) mc) (updC ms (W[k]!.f:Int) mc) ⟨⟨by omega,updM_keys hnd,fun j=>by
    rw [findM_upd,htk,outN_snoc]
    by_cases e:W[k]!.f=j
    · rw [if_pos (by rw [e]),if_pos e,e];rfl
    · rw [if_neg (by omega),if_neg e,hcn j];rfl⟩,by omega⟩ (.cons rfl (.cons rfl (.cons rfl (.cons rfl (.cons rfl (.cons rfl (.cons rfl (.cons rfl .nil)))))))) pulled
 · simp only [df] at h21
   rw [show k=W.length by omega,List.take_length] at hcn
   refine Vc.exit Z<|sj [.p,.r,.p,.p] Z<|fj Z<|lj Z Z<|uj Z (Pv.eql Z Z)<|aj Z<|nl<|wj<|sj [.p,.p,.p] Z<|mj Z<|uj Z (Pv.lenS Z)<|mj Z<|nl<|bj ?_
   refine Vc.loop2 (fun (k:Nat) (R:SnS)=>k≤W.length∧BoxAt bb db B (howP p) R.now R.fs.length R.h1∧BoxI (howP p) R.D R.now R.fs (msgs++(W.take k).filterMap (msg1 p W c))∧DiskAt db R.D R.h2∧Wz C R.D∧Gd BoxT D R.D) (fun k R=>[(12,.bool (p.kind==4)),(33,.slice pw W.length cw),(34,.int .i64 (W.length:Int)),(35,.int .i64 (k:Int)),(0,.pointer (some ⟨bb,0,none⟩)),(3,.slice pw W.length cw),(5,.pointer (some ⟨b5,0,none⟩)),(6,.pointer (some ⟨b6,0,none⟩)),(9,.map (some b17))]) (fun k R=>(b17,mapO kW ms mc)::(b5,cellsO (prC p) 24)::(b6,cellsO [.slice pv n cv,.slice pl n cl] 84)::(R.h1++R.h2)) (fun k R=>W.length-k) 0 (⟨now,fs,D,s1,s2⟩:SnS) ⟨Nat.zero_le _,hS,by rw [List.take_zero,List.filterMap_nil,List.append_nil];exact hI,hD,hw,.refl hup⟩ (.cons rfl (.cons rfl (.cons rfl (.cons rfl (.cons rfl (.cons rfl (.cons rfl (.cons rfl (.cons rfl .nil))))))))) pulled ?_
   clear hS hI hD hw
   rintro k R ⟨hk1,hS,hI,hD,hw,hG1⟩
   have hfl:=List.length_filterMap_le (msg1 p W c) (W.take k)
   rw [List.length_take] at hfl
   refine sj [.p] Z<|uj Z (Pv.lss Z Z)<|nl<|wj<|cj Z (fun h36=>?_) (fun h36=>?_)
   · simp only [dt] at h36
     have hk2:k<W.length:=by omega
     obtain ⟨be,oe,ce',e,_⟩:=hW.block (by omega)
     simp only [Value.slice.injEq] at e
     obtain ⟨rfl,_,rfl⟩:=e
     have htk:W.take (k+1)=W.take k++[W[k]!]:=by rw [List.take_succ_eq_append_getElem hk2,getElem!_pos W k hk2]
     have hem:=hG W[k]! (by rw [getElem!_pos W k hk2];exact List.getElem_mem _)
     obtain ⟨bv,ov,cv',e,_⟩:=hva.block (by rw [hvl];omega)
     simp only [Value.slice.injEq] at e
     obtain ⟨rfl,_,rfl⟩:=e
     obtain ⟨bL,oL,cL',e,_⟩:=hla.block (by rw [hll];omega)
     simp only [Value.slice.injEq] at e
     obtain ⟨rfl,_,rfl⟩:=e
     have hfm:(W.take (k+1)).filterMap (msg1 p W c)=(W.take k).filterMap (msg1 p W c)++(match msg1 p W c W[k]! with | some r=>[r] | none=>[]):=by
      rw [htk,List.filterMap_append]
      congr 1
      cases hmm:msg1 p W c W[k]! <;> simp only [List.filterMap_cons,hmm,List.filterMap_nil]
     refine kj<|wj<|bj<|sj [.p,.r,.e,.e] Z<|uj Z (Pv.ixA (k) rfl rfl (by omega) (by omega))<|rj Z (Ev.as (egV W[k]!) (Ev.ldS (E:=edgeE) k hW.src Z Z Z hk2) Z)<|Rg.alloc Z Z Z Z (fun b14=>?_)
     refine Rg.storeA Z Z Z Z Z Z Z Z<|nl<|wj<|wj<|Vc.cut1 (fun (bl:Bool)=>bl = !sendsP p c W[k]!.f) (fun bl=>[(49,.bool bl),(14,.pointer (some ⟨b14,0,none⟩)),(12,.bool (p.kind==4)),(33,.slice (some ⟨be,oe,none⟩) W.length cw),(34,.int .i64 (W.length:Int)),(35,.int .i64 (k:Int)),(0,.pointer (some ⟨bb,0,none⟩)),(3,.slice (some ⟨be,oe,none⟩) W.length cw),(5,.pointer (some ⟨b5,0,none⟩)),(6,.pointer (some ⟨b6,0,none⟩)),(9,.map (some b17))]) (fun bl=>(b14,cellsO (egC W[k]!) 79)::(b17,mapO kW ms mc)::(b5,cellsO (prC p) 24)::(b6,cellsO [.slice (some ⟨bv,ov,none⟩) n cv,.slice (some ⟨bL,oL,none⟩) n cl] 84)::(R.h1++R.h2)) ?_ ?_
     · refine tj [.p,.p,.p,.p,.r,.p,.r,.p,.r,.p,.p] Z<|mj Z<|uj Z (Pv.not Z)<|mj Z<|Rg.split (t:=41) Z (fun h41=>?_) (fun h41=>?_)
       · have hk4 : ¬p.kind=4:=by simpa using h41
         refine fj Z<|lj Z Z<|fj Z<|lj Z Z<|uj Z (Pv.ixK W[k]!.f rfl rfl rfl (by omega))<|rj Z (Ev.as (.bool c.live[W[k]!.f]!) (Ev.ldS (E:=boolE) W[k]!.f hla.src rfl rfl rfl (by rw [hll];exact hem.1)) rfl)<|uj Z (Pv.not Z)<|qj Z Z<|nl ?_
         exact Vc.inv1 (!c.live[W[k]!.f]!) (by rw [sendsP,if_neg hk4]) (.cons rfl (.cons rfl (.cons rfl (.cons rfl (.cons rfl (.cons rfl (.cons rfl (.cons rfl (.cons rfl (.cons rfl (.cons rfl .nil))))))))))) pulled
       · have hk4:p.kind=4:=by simpa using h41
         iterate 7 (first | refine Rg.skipP rfl rfl rfl ?_ | refine Rg.skipR rfl rfl rfl ?_ | refine Rg.skipE rfl rfl rfl ?_)
         refine pj Z Z<|nl ?_
         exact Vc.inv1 false (by rw [sendsP,if_pos hk4,hq];rfl) (.cons rfl (.cons rfl (.cons rfl (.cons rfl (.cons rfl (.cons rfl (.cons rfl (.cons rfl (.cons rfl (.cons rfl (.cons rfl .nil))))))))))) pulled
     · rintro bl hbl
       refine cj Z (fun h49=>?_) (fun h49=>?_)
       · have hsn:sendsP p c W[k]!.f=false:=by rw [h49] at hbl;simpa using hbl.symm
         have hmn:msg1 p W c W[k]! = none:=by rw [msg1,hsn];rfl
         rw [hmn] at hfm
         simp only [List.append_nil] at hfm
         refine Vc.exit Z<|tj [.p,.p] Z<|uj Z (Pv.asI (k+1) (Pv.add rfl rfl (by omega)) (by omega))<|mj Z<|nl ?_
         exact Vc.inv2 (k+1) R ⟨⟨by omega,hS,by rw [hfm];exact hI,hD,hw,hG1⟩,by omega⟩ (.cons rfl (.cons rfl (.cons rfl (.cons rfl (.cons rfl (.cons rfl (.cons rfl (.cons rfl (.cons rfl .nil))))))))) pulled
       · have hsn:sendsP p c W[k]!.f=true:=by rw [h49] at hbl;simpa using hbl.symm
         obtain ⟨m,hm⟩:∃m,m=msgP p c.vals[W[k]!.f]! (outN W W[k]!.f:Nat) (W[k]!.w:Int):=⟨_,rfl⟩
         have hms:msg1 p W c W[k]! = some ⟨(W[k]!.t:Int),m⟩:=by rw [msg1,hsn,hm];rfl
         rw [hms] at hfm
         simp only at hfm
         have hov:=outN_le W W[k]!.f
         have hmu:InU m:=by rw [hm];exact msgP_in (hin _ hem.1) ⟨by omega,by have:=hem.2.2.2.2;omega⟩ (by omega)
         refine kj<|wj ?_
         refine Vc.draw [] (sd [(0,.read),(1,.pure),(2,.read),(3,.pure),(4,.read),(5,.pure),(6,.read),(7,.pure),(8,.pure),(9,.read),(10,.read),(11,.pure),(12,.read),(13,.eff),(14,.pure)]) mixed (by kernel_rfl)<|rj Z (Ev.as (prV p) (Ev.ldA Z Z) Z)<|fj Z<|lj Z Z<|fj Z<|lj Z Z<|uj Z (Pv.ixK W[k]!.f rfl rfl rfl (by omega))<|rj Z (Ev.as (.int .u64 c.vals[W[k]!.f]!) (Ev.ldS (E:=u64E) W[k]!.f hva.src rfl rfl rfl (by rw [hvl];exact hem.1)) rfl)<|mj Z<|fj Z<|lj Z Z<|rj Z (Ev.as (.int .i64 ((outN W W[k]!.f:Nat):Int)) (Ev.lookup (kv:=kW) (k:=(W[k]!.f:Int)) Z Z hnd) (hcn _))<|fj Z<|lj Z Z ?_
         refine Rg.callP Z Z Z (mz Z) (tmsg_spec c.vals[W[k]!.f]! (hin _ hem.1) ((outN W W[k]!.f:Nat):Int) ⟨by omega,by omega⟩ W[k]!.w hem.2.2.2.2) ?_
         rintro _ rfl
         rw [←hm]
         refine aj Z<|nl<|sj [.p,.p,.r,.p,.p,.p,.e,.p] Z<|mj Z<|fj Z<|lj Z Z<|uj Z (Pv.asI W[k]!.t (Pv.convI rfl) (wrap_ult rfl (by show _<18446744073709551616;have:=hem.2.2.2.1;omega)))<|mj Z<|uj Z (Pv.build (c:=#[.int .u64 (W[k]!.t:Int),.int .u64 m]) Z Z) ?_
         refine Rg.callH Z Z Z (mz Z) (fun F' hF'=>boxPut_z (F:=F') (r:=⟨(W[k]!.t:Int),m⟩) hC (howP_or p) hB hS hI (by rw [ly];omega) (by rw [ly];omega) ⟨⟨by simp only;omega,by have:=hem.2.2.2.1;simp only;omega⟩,hmu⟩ (fun j h1 h2=>hk j h1 (by rw [ly] at h2;omega)) hD hw hG1.up) rfl ?_
         rintro _ _ ⟨e,D1,g1,g2,rfl,rfl,hD1,hbx,hO⟩
         rw [lx]
         refine aj Z<|nl<|sj [.p,.p] Z<|mj Z<|uj Z (Pv.neq Z Z)<|nl<|cj Z (fun h72=>?_) (fun h72=>?_)
         · simp only [bne_iff_ne,ne_eq] at h72
           obtain ⟨he7,hB7⟩:=hO.bad h72
           refine sj [.p,.p] Z<|mj Z<|aj Z<|nl ?_
           exact vr (hl':=g1++g2) rfl (tz Z) ⟨e,D1,g1,g2,rfl,rfl,hD1,hbx,hO.wz,.inr ⟨he7,hG1.dn hB7⟩⟩ pulled
         · simp only [bne_eq_false_iff_eq] at h72
           subst h72
           obtain ⟨_,hG2,now2,fs2,hS2,hI2⟩:=hO.good (by decide)
           refine kj<|dj<|tj [.p,.p] Z<|uj Z (Pv.asI (k+1) (Pv.add rfl rfl (by omega)) (by omega))<|mj Z<|nl ?_
           exact Vc.inv2 (k+1) (⟨now2,fs2,D1,g1,g2⟩:SnS) ⟨⟨by omega,hS2,by rw [hfm,←lx];exact hI2,hD1,hO.wz,hG1.trans hG2⟩,by omega⟩ (.cons rfl (.cons rfl (.cons rfl (.cons rfl (.cons rfl (.cons rfl (.cons rfl (.cons rfl (.cons rfl .nil))))))))) pulled
   · simp only [df] at h36
     rw [show k=W.length by omega,List.take_length] at hI
     refine Vc.exit Z<|sj [.p] Z<|aj Z<|nl ?_
     exact vr (hl':=R.h1++R.h2) rfl (tz Z) ⟨0,R.D,R.h1,R.h2,rfl,rfl,hD,⟨_,_,hS⟩,hw,.inl ⟨rfl,hG1,R.now,R.fs,hS,hI⟩⟩ pulled
end
theorem filter_split {α:Type} (f:α→Nat) (k:Nat):∀l:List α,(l.filter fun e=>decide (k≤f e)).Perm ((l.filter fun e=>decide (f e=k))++l.filter fun e=>decide (k+1≤f e))
 | []=>.nil
 | e::l=>by
  have ih:=filter_split f k l
  simp only [List.filter_cons]
  rcases Nat.lt_trichotomy (f e) k with h | h | h
  · rw [if_neg (by simp;omega),if_neg (by simp;omega),if_neg (by simp;omega)];exact ih
  · rw [if_pos (by simp;omega),if_pos (by simp;omega),if_neg (by simp;omega),List.cons_append];exact ih.cons e
  · rw [if_pos (by simp;omega),if_neg (by simp;omega),if_pos (by simp;omega)]
    exact (ih.cons e).trans List.perm_middle.symm
theorem filter_parts {α:Type} (f:α→Nat) (l:List α):∀k,(((List.range k).flatMap fun i=>l.filter fun e=>decide (f e=i))++l.filter fun e=>decide (k≤f e)).Perm l
 | 0=>by rw [List.range_zero,List.flatMap_nil,List.nil_append];exact List.Perm.of_eq (List.filter_eq_self.2 fun e _=>by simp)
 | k+1=>by
  have ih:=filter_parts f l k
  rw [List.range_succ,List.flatMap_append,lx]
  refine List.Perm.trans (List.Perm.append_left _ ?_) ih
  simp only [List.flatMap_cons,List.flatMap_nil,List.append_nil]
  exact (filter_split f k l).symm
theorem flatMap_two {α β:Type} (f g:α→List β):∀l:List α,((l.flatMap f)++(l.flatMap g)).Perm (l.flatMap fun x=>f x++g x)
 | []=>.nil
 | x::l=>by
  simp only [List.flatMap_cons,lx]
  refine List.Perm.append_left _ ?_
  refine List.Perm.trans ?_ ((flatMap_two f g l).append_left _)
  rw [←lx,←lx]
  exact List.perm_append_comm.append_right _
theorem outN_perm {a b:List Eg} (h:a.Perm b) (v:Nat):outN a v=outN b v:=(h.filter _).length_eq
theorem outN_app (a b:List Eg) (v:Nat):outN (a++b) v=outN a v+outN b v:=by simp [outN]
theorem outN_zero {a:List Eg} {v:Nat} (h:∀e∈a,e.f≠v):outN a v=0:=by
 unfold outN
 rw [List.length_eq_zero_iff,List.filter_eq_nil_iff]
 exact fun e he=>by simpa using h e he
abbrev LeF (a b:Rc):Prop:=(upE a).f≤(upE b).f
theorem dwL_ge {m:Nat}:∀{l:List Rc},l.Pairwise LeF→∀r∈dwL m l,m≤(upE r).f
 | [],_,r,hr=>by cases hr
 | x::l,hp,r,hr=>by
  rw [List.pairwise_cons] at hp
  by_cases h:(upE x).f<m
  · have e:dwL m (x::l)=dwL m l:=by simp only [dwL,List.dropWhile_cons,decide_eq_true h,if_true]
    rw [e] at hr
    exact dwL_ge hp.2 r hr
  · have e:dwL m (x::l)=x::l:=by simp only [dwL,List.dropWhile_cons,decide_eq_false h];rfl
    rw [e] at hr
    rcases List.mem_cons.1 hr with rfl | hr
    · omega
    · have:=hp.1 r hr;simp only [LeF] at this;omega
theorem twL_lt {m:Nat}:∀{l:List Rc},∀r∈twL m l,(upE r).f<m
 | [],r,hr=>by cases hr
 | x::l,r,hr=>by
  by_cases h:(upE x).f<m
  · have e:twL m (x::l)=x::twL m l:=by simp only [twL,List.takeWhile_cons,decide_eq_true h,if_true]
    rw [e] at hr
    rcases List.mem_cons.1 hr with rfl | hr
    · exact h
    · exact twL_lt r hr
  · have e:twL m (x::l)=[]:=by simp only [twL,List.takeWhile_cons,decide_eq_false h];rfl
    rw [e] at hr;cases hr
structure WinI (es:List Eg) (m0:Nat) (O:List Eg) (cs:List (Nat×Bool×List Rc)):Prop where
 perm:(O++(allW cs).map upE).Perm es
 lo:∀r∈allW cs,m0≤(upE r).f
 srt:∀c∈cs,c.2.2.Pairwise LeF
 out:∀e∈O,e.f<m0
theorem outW_mem {m:Nat} {cs:List (Nat×Bool×List Rc)} {e:Eg} (h:e∈outW m cs):e.f<m∧∃r∈allW cs,e=upE r:=by
 obtain ⟨c,hc,he⟩:=List.mem_flatMap.1 h
 obtain ⟨r,hr,rfl⟩:=List.mem_map.1 he
 exact ⟨twL_lt r hr,r,List.mem_flatMap.2 ⟨c,hc,(List.takeWhile_sublist _).subset hr⟩,rfl⟩
theorem allW_next {m:Nat} {cs:List (Nat×Bool×List Rc)}:allW (nextW m cs)=cs.flatMap fun c=>dwL m c.2.2:=by
 unfold allW nextW
 rw [List.flatMap_map]
theorem WinI.perm_next {es O:List Eg} {m0 m:Nat} {cs:List (Nat×Bool×List Rc)} (h:WinI es m0 O cs):((O++outW m cs)++(allW (nextW m cs)).map upE).Perm es:=by
 refine List.Perm.trans ?_ h.perm
 rw [lx]
 refine List.Perm.append_left _ ?_
 rw [allW_next,List.map_flatMap]
 refine (flatMap_two _ _ cs).trans (List.Perm.of_eq ?_)
 unfold allW
 rw [List.map_flatMap]
 congr 1
 funext c
 rw [←List.map_append,tw_dw]
theorem WinI.next {es O:List Eg} {m0 m:Nat} {cs:List (Nat×Bool×List Rc)} (h:WinI es m0 O cs) (hm:m0≤m):WinI es m (O++outW m cs) (nextW m cs) where
 perm:=h.perm_next
 lo:=fun r hr=>by
  rw [allW_next] at hr
  obtain ⟨c,hc,hr⟩:=List.mem_flatMap.1 hr
  exact dwL_ge (h.srt c hc) r hr
 srt:=fun c hc=>by
  obtain ⟨d,hd,rfl⟩:=List.mem_map.1 hc
  exact (h.srt d hd).sublist (List.dropWhile_sublist _)
 out:=fun e he=>by
  rcases List.mem_append.1 he with he | he
  · have:=h.out e he;omega
  · exact (outW_mem he).1
theorem WinI.count {es O:List Eg} {m0 m:Nat} {cs:List (Nat×Bool×List Rc)} (h:WinI es m0 O cs) {e:Eg} (he:e∈outW m cs):outN (outW m cs) e.f=outN es e.f:=by
 obtain ⟨h1,r,hr,rfl⟩:=outW_mem he
 have h2:=h.lo r hr
 rw [←outN_perm h.perm_next,outN_app,outN_app,outN_zero (a:=O) (fun e he=>by have:=h.out e he;omega),outN_zero (a:=(allW (nextW m cs)).map upE) (fun e he=>by
  obtain ⟨q,hq,rfl⟩:=List.mem_map.1 he
  rw [allW_next] at hq
  obtain ⟨c,hc,hq⟩:=List.mem_flatMap.1 hq
  have:=dwL_ge (m:=m) (h.srt c hc) q hq
  omega)]
 omega
theorem filterMap_same {α β:Type} {f g:α→Option β}:∀{l:List α},(∀x∈l,f x=g x)→l.filterMap f=l.filterMap g
 | [],_=>rfl
 | x::l,h=>by rw [List.filterMap_cons,List.filterMap_cons,h x (by simp),filterMap_same fun y hy=>h y (by simp [hy])]
theorem WinI.msgs {es O:List Eg} {m0 m:Nat} {cs:List (Nat×Bool×List Rc)} (h:WinI es m0 O cs) (p:Prg) (c:Cf):(outW m cs).filterMap (msg1 p (outW m cs) c)=(outW m cs).filterMap (msg1 p es c):=by
 refine filterMap_same fun e he=>?_
 unfold msg1
 rw [h.count he]
theorem WinI.fin {es O:List Eg} {n:Nat} {cs:List (Nat×Bool×List Rc)} (h:WinI es n O cs) (hn:∀e∈es,e.f<n):O.Perm es:=by
 have h0:allW cs=[]:=List.eq_nil_iff_forall_not_mem.2 fun r hr=>by
  have h1:=h.lo r hr
  have h2:=hn (upE r) (h.perm.mem_iff.1 (List.mem_append_right _ (List.mem_map.2 ⟨r,hr,rfl⟩)))
  omega
 have:=h.perm
 rw [h0,List.map_nil,List.append_nil] at this
 exact this
theorem leF_of {a b:Rc} (ha:InR a) (h:a.key≤b.key):LeF a b:=by
 obtain ⟨⟨h1,h2⟩,_⟩:=ha
 simp only [LeF,upE]
 exact Nat.div_le_div_right (by omega)
theorem WinI.init {n sh:Nat} {es:List Eg} (h0:0<sh) (hG:OkG n es) {cs:List (Nat×Bool×List Rc)} (hcs:cs.map (·.2.2)=(List.range sh).map fun i=>sortL (inSL n sh i es)):WinI es 0 [] cs where
 perm:=by
  have h1:allW cs=(List.range sh).flatMap fun i=>sortL (inSL n sh i es):=by
   rw [allW,List.flatMap_def,hcs,←List.flatMap_def]
  rw [List.nil_append,h1,List.map_flatMap]
  have h2:∀i,((sortL (inSL n sh i es)).map upE).Perm (es.filter fun e=>decide (ofN n sh e.t=i)):=fun i=>by
   refine ((sortL_perm _).map _).trans (List.Perm.of_eq ?_)
   unfold inSL
   rw [List.map_map]
   conv=>rhs;rw [←List.map_id (es.filter _)]
   exact List.map_congr_left fun e he=>upE_pkR (hG e (List.mem_filter.1 he).1).2
  have h3:∀l:List Nat,(l.flatMap fun i=>(sortL (inSL n sh i es)).map upE).Perm (l.flatMap fun i=>es.filter fun e=>decide (ofN n sh e.t=i)):=fun l=>by
   induction l with
   | nil=>exact .nil
   | cons i l ih=>simp only [List.flatMap_cons];exact (h2 i).append ih
  refine (h3 _).trans ?_
  have h4:=filter_parts (fun e:Eg=>ofN n sh e.t) es sh
  have h5:(es.filter fun e=>decide (sh≤ofN n sh e.t))=[]:=List.filter_eq_nil_iff.2 fun e he=>by
   have hv:=(hG e he).1
   have:=bnd_top (n:=n) h0
   have hlt:ofN n sh e.t<sh:=by
    unfold ofN
    cases hf:(List.range sh).find? fun i=>decide (e.t<bnd n sh (i+1)) with
    | none =>
     have:=List.find?_eq_none.1 hf (sh-1) (by simp;omega)
     rw [show sh-1+1=sh by omega,bnd_top h0] at this
     simp at this;omega
    | some i=>have:=List.mem_of_find?_eq_some hf;simpa using this
   simp;omega
  rw [h5,List.append_nil] at h4
  exact h4
 lo:=fun r _=>Nat.zero_le _
 srt:=fun c hc=>by
  have:c.2.2∈(List.range sh).map fun i=>sortL (inSL n sh i es):=by rw [←hcs];exact List.mem_map.2 ⟨c,hc,rfl⟩
  obtain ⟨i,_,hi⟩:=List.mem_map.1 this
  rw [←hi]
  have hp:=rises_keys (sortL_rises (inSL n sh i es))
  refine hp.imp_of_mem fun {a b} ha hb h=>leF_of ?_ h
  exact inSL_in hG a ((sortL_perm _).mem_iff.1 ha)
 out:=fun e he=>by cases he
theorem shN_box {i:Nat} : ¬BoxT (shN i):=fun ⟨j,_,_,e⟩=>by simp [boxN,boxB,shN] at e
section
variable {F : Fm} {bb db B : Nat} {C : Cx} {D : Dk} {s1 s2 : Hl} {p : Prg} {c : Cf} {n sh : Nat} {es : List Eg}
structure MsS where
 O:List Eg
 cs:List (Nat×Bool×List Rc)
 b:Bool
 now:List Rc
 fs:List (List Rc)
 D:Dk
 sS:Hl
 sB:Hl
 q:Hl
set_option maxHeartbeats 8000000 in
theorem messages_z (hC:C.Ok) (hB:1≤B) (hS:BoxAt bb db B (howP p) [] 0 s1) (hbf:BxF D []) {a b:Value} (hc:CfA F a b c) (hic:InC c n) (hq:quietC c=false) (hn:n≤1048576) (h1:1≤sh) (h2:sh<100) (hG:OkG n es) (hG2:InG n es) (hl:es.length<49) (hcap:16*es.length+6≤C.cap) (hk:∀k,1≤k→k≤es.length→boxN k∈C.S) (hsh:∀i,i<sh→ShOk n sh es D i) (hD:DiskAt db D s2) (hw:Wz C D) (hup:D.down=false) :
 Spec Tryz.prog 208 #[.pointer (some ⟨db,0,none⟩),.pointer (some ⟨bb,0,none⟩),prV p,.int .i64 (sh:Int),cfV a b] F (s1++s2) fun v s'=>∃u e D' sB sU h2 now' nx',v=.tuple #[u,.int .i64 e]∧u.oneCell'=true∧s'=sB++(sU++h2)∧DiskAt db D' h2∧BoxAt bb db B (howP p) now' nx' sB∧Out C BoxT (fun D'=>(∃fs',fs'.length=nx'∧nx'<100∧BxF D' fs')∧Own recE u (sortedG (howP p) (msgsC p es c)) sU) D 0 e D':=by
 obtain ⟨pv,cv,e1⟩:=hc.va.shape
 obtain ⟨pl,cl,e2⟩:=hc.la.shape
 subst e1;subst e2
 have hvl:=hic.vl
 rw [hvl]
 obtain ⟨Q,hQd⟩:∃Q:Nm→List Rc→Prop,Q=fun nm l=>∃i,i<sh∧nm=shN i∧l=sortL (inSL n sh i es):=⟨_,rfl⟩
 have hQf:∀{D':Dk},Gd BoxT D D'→∀nm l,Q nm l→∃f,findF D'.files nm=some f∧f.now=fileB l:=fun {D'} hG nm l h=>by
  rw [hQd] at h
  obtain ⟨i,hi,rfl,rfl⟩:=h
  exact ⟨_,(hG.same _ shN_box).trans (hsh i hi),rfl⟩
 have hih:InRs (msgsC p es c):=fun r hr=>by
  obtain ⟨e,he,hm⟩:=List.mem_filterMap.1 hr
  have hem:=hG2 e he
  unfold msg1 at hm
  split at hm
  · cases hm
    have hov:=outN_le es e.f
    exact ⟨⟨by simp only;omega,by have:=hem.2.2.2.1;simp only;omega⟩,msgP_in (hic.in_ _ hem.1) ⟨by omega,by have:=hem.2.2.2.2;omega⟩ (by omega)⟩
  · cases hm
 refine Spec.of (n:=53) (vs:=[.pointer (some ⟨db,0,none⟩),.pointer (some ⟨bb,0,none⟩),prV p,.int .i64 (sh:Int),cfV (.slice pv n cv) (.slice pl c.live.length cl)]) Tryz.func208 rfl Tryz.ntmps208 rfl ?_
 refine sj [.e,.e,.p,.p] Z<|Rg.box Z Z Z Z Z (fun b7=>?_)
 refine Rg.box Z Z Z Z Z (fun b9=>?_)
 refine aj Z<|aj Z<|nl<|sj [.p,.p,.r,.p,.p,.e,.p,.p,.p,.p,.p] Z<|mj Z<|fj Z<|lj Z Z<|uj Z (Pv.lenS Z)<|mj Z ?_
 refine Rg.callH Z Z Z (mz Z) (fun F' hF'=>newSweep_z (F:=F') (Q:=Q) hC hD hw hup hn h1 h2 (fun i=>sortL (inSL n sh i es)) (fun i hi=>⟨_,hsh i hi,rfl⟩) (fun i hi=>by rw [hQd];exact ⟨i,hi,rfl,rfl⟩)) rfl ?_
 rintro _ _ ⟨ps,e,D1,g1,g2,rfl,rfl,hD1,hO1⟩
 rw [lx]
 refine mj Z<|xj Z Z<|xj Z Z<|aj Z<|aj Z<|nl<|wj<|sj [.p,.p] Z<|mj Z<|uj Z (Pv.neq Z Z)<|nl<|cj Z (fun h28=>?_) (fun h28=>?_)
 · simp only [bne_iff_ne,ne_eq] at h28
   obtain ⟨he7,hB7⟩:=hO1.bad h28
   refine sj [.p,.p,.p] Z<|mj Z<|aj Z<|aj Z<|nl ?_
   exact vr (hl':=s1++([]++g2)) rfl (.cons (.tmp rfl) (tz Z)) ⟨.slice none 0 0,e,D1,s1,[],g2,[],0,rfl,rfl,rfl,hD1,hS,hO1.wz,.inr ⟨he7,hB7.any⟩⟩ pulled
 · simp only [bne_eq_false_iff_eq] at h28
   subst h28
   obtain ⟨_,hG1,pb,cs0,rfl,hcs0,hSw⟩:=hO1.good (by decide)
   have hcl0:cs0.length=sh:=by have:=congrArg List.length hcs0;simpa using this
   refine kj<|bj ?_
   refine Vc.loop2 (fun (j:Nat) (R:MsS)=>j≤sh∧SwAt db Q n sh pb R.cs j R.b R.sS∧R.cs.length=sh∧WinI es (bnd n sh j) R.O R.cs∧BoxAt bb db B (howP p) R.now R.fs.length R.sB∧BoxI (howP p) R.D R.now R.fs (R.O.filterMap (msg1 p es c))∧DiskAt db R.D R.q∧Wz C R.D∧Gd BoxT D R.D∧InRs (allW R.cs)) (fun j R=>[(1,.pointer (some ⟨bb,0,none⟩)),(7,.pointer (some ⟨b7,0,none⟩)),(9,.pointer (some ⟨b9,0,none⟩)),(12,.pointer (some ⟨pb,0,none⟩))]) (fun j R=>(b7,cellsO (prC p) 24)::(b9,cellsO [.slice pv n cv,.slice pl c.live.length cl] 84)::(R.sS++(R.sB++R.q))) (fun j R=>sh-j) 0 (⟨[],cs0,false,[],[],D1,g1,s1,g2⟩:MsS) ⟨Nat.zero_le _,hSw,hcl0,by rw [bnd_zero];exact WinI.init (by omega) hG hcs0,hS,⟨⟨fun i hi=>(by cases hi),fun k h3 h4=>by rw [hG1.same _ (fun h=>h.elim)];exact hbf.non k h3 h4⟩,fun k=>rfl,fun r hr=>(by cases hr),fun r hr=>(by cases hr),Nat.le_refl _,Nat.le_refl _⟩,hD1,hO1.wz,hG1.any,fun r hr=>by
    obtain ⟨x,hx,hr⟩:=List.mem_flatMap.1 hr
    have hx2:x.2.2∈(List.range sh).map fun i=>sortL (inSL n sh i es):=by rw [←hcs0];exact List.mem_map.2 ⟨x,hx,rfl⟩
    obtain ⟨i,_,hi⟩:=List.mem_map.1 hx2
    rw [←hi] at hr
    exact inSL_in hG r ((sortL_perm _).mem_iff.1 hr)⟩ (.cons rfl (.cons rfl (.cons rfl (.cons rfl .nil)))) pulled ?_
   clear hSw hD1 hO1 hG1 hD hw hup hS hbf hcs0
   rintro j ⟨O,cs,b0,now,fs,D1,sS,sB,q⟩ ⟨hj,hSw,hcl,hWi,hBx,hBi,hD1,hw1,hG1,hIw⟩
   simp only at hSw hcl hWi hBx hBi hD1 hw1 hG1 hIw ⊢
   have hpl:=hWi.perm.length_eq
   rw [ly,List.length_map] at hpl
   have hfl:=List.length_filterMap_le (msg1 p es c) O
   have hbil:=hBi.len
   have hbif:=hBi.fl
   refine bj<|sj [.p,.e,.p,.p,.p,.p,.p,.p,.p] Z<|mj Z<|Rg.callH Z Z Z (mz Z) (fun F' hF'=>sweepNext_z (F:=F') (Q:=Q) (at_:=j) hC hn h1 h2 hSw hj (by omega) (by omega) hIw hD1 hw1 hG1.up (hQf hG1)) rfl ?_
   rintro _ _ ⟨u,is,e,D2,g1,g2,rfl,hu1,rfl,hD2,hO⟩
   rw [lx]
   refine mj Z<|xj Z Z<|xj Z Z<|xj Z Z<|aj Z<|aj Z<|aj Z<|nl<|wj<|sj [.p,.p] Z<|mj Z<|uj Z (Pv.neq Z Z)<|nl<|cj Z (fun h37=>?_) (fun h37=>?_)
   · simp only [bne_iff_ne,ne_eq] at h37
     obtain ⟨he7,hB7⟩:=hO.bad h37
     refine sj [.p,.p,.p] Z<|mj Z<|aj Z<|aj Z<|nl ?_
     exact vr (hl':=sB++([]++g2)) rfl (.cons (.tmp rfl) (tz Z)) ⟨.slice none 0 0,e,D2,sB,[],g2,now,fs.length,rfl,rfl,rfl,hD2,hBx,hO.wz,.inr ⟨he7,hG1.dn hB7.any⟩⟩ pulled
   · simp only [bne_eq_false_iff_eq] at h37
     subst h37
     obtain ⟨_,hG2',hcase⟩:=hO.good (by decide)
     have hGd:Gd BoxT D D2:=hG1.trans hG2'.any
     have hBi2:=hBi.same hG2' (fun _ h=>h)
     refine kj<|wj<|sj [.p,.p] Z<|mj Z<|uj Z (Pv.not Z)<|nl<|cj Z (fun h40=>?_) (fun h40=>?_)
     · simp only [Bool.not_eq_true'] at h40
       obtain ⟨hjs,_⟩:=hcase.resolve_right (fun h=>by rw [h.2.1] at h40;cases h40)
       have hOp:O.Perm es:=by
        refine WinI.fin (n:=n) (cs:=cs) ?_ (fun e he=>(hG2 e he).1)
        rw [hjs,bnd_top (by omega)] at hWi
        exact hWi
       have hmp:(O.filterMap (msg1 p es c)).Perm (msgsC p es c):=hOp.filterMap _
       refine sj [.p,.e,.p,.p,.p,.p] Z<|mj Z<|Rg.callH Z Z Z (mz Z) (fun F' hF'=>boxAll_z (F:=F') hC (howP_or p) hBx hBi2 (by omega) (fun r hr=>hih r (hmp.mem_iff.1 hr)) hD2 hO.wz hGd.up) rfl ?_
       rintro _ _ ⟨u3,e3,D3,h1',h2',rfl,hu3,rfl,hD3,hO3⟩
       rw [lx,lx]
       refine xj Z Z<|xj Z Z<|aj Z<|aj Z<|nl ?_
       exact vr (hl':=sB++(h1'++h2')) rfl (.cons (.tmp rfl) (tz Z)) ⟨u3,e3,D3,sB,h1',h2',now,fs.length,rfl,hu3,rfl,hD3,hBx,hO3.wz,hO3.2.imp (fun h=>⟨h.1,hGd.trans h.2.1.any,⟨fs,rfl,by omega,(hBi2.same h.2.1 (fun _ h=>h)).files⟩,by rw [←sortedG_congr hmp];exact h.2.2⟩) (fun h=>⟨h.1,hGd.dn h.2.any⟩)⟩ pulled
     · simp only [Bool.not_eq_false'] at h40
       obtain ⟨hjs,_,sS2,sU,rfl,hSw2,hU⟩:=hcase.resolve_left (fun h=>by rw [h.2] at h40;cases h40)
       have hWn:=hWi.next (m:=bnd n sh (j+1)) (bnd_mono (by omega))
       have hWm:=hWi.msgs (m:=bnd n sh (j+1)) p c
       have hWl:=hWn.perm.length_eq
       rw [ly,ly,List.length_map] at hWl
       have hGW:InG n (outW (bnd n sh (j+1)) cs):=fun e he=>hG2 e (hWn.perm.mem_iff.1 (List.mem_append_left _ (List.mem_append_right _ he)))
       refine kj<|sj [.p,.r,.r,.p,.e,.p] Z<|mj Z<|rj Z (Ev.as (prV p) (Ev.ldA Z Z) Z)<|rj Z (Ev.as (cfV (.slice pv n cv) (.slice pl c.live.length cl)) (Ev.ldA Z Z) Z)<|mj Z<|Rg.callH Z Z Z (mz Z) (fun F' hF'=>stSends_z (F:=F') (W:=outW (bnd n sh (j+1)) cs) hC hB hBx hBi2 (by rw [hvl] at hc;exact hc.mono fun b o h=>hF' b o (.inr h)) hic hq (Arg.own hU fun b o hb=>hF' b o (.inl (by simp [hb]))) hGW (by omega) (by omega) (fun k h3 h4=>hk k h3 (by omega)) hD2 hO.wz hGd.up) rfl ?_
       rintro _ _ ⟨e3,D3,f1,f2,rfl,rfl,hD3,⟨now3,nx3,hbx3⟩,hO3⟩
       rw [lx]
       refine aj Z<|nl<|sj [.p,.p] Z<|mj Z<|uj Z (Pv.neq Z Z)<|nl<|cj Z (fun h51=>?_) (fun h51=>?_)
       · simp only [bne_iff_ne,ne_eq] at h51
         obtain ⟨he7,hB7⟩:=hO3.bad h51
         refine sj [.p,.p,.p] Z<|mj Z<|aj Z<|aj Z<|nl ?_
         exact vr (hl':=f1++([]++f2)) rfl (.cons (.tmp rfl) (tz Z)) ⟨.slice none 0 0,e3,D3,f1,[],f2,now3,nx3,rfl,rfl,rfl,hD3,hbx3,hO3.wz,.inr ⟨he7,hGd.dn hB7⟩⟩ pulled
       · simp only [bne_eq_false_iff_eq] at h51
         subst h51
         obtain ⟨_,hG3,now4,fs4,hS4,hI4⟩:=hO3.good (by decide)
         refine kj<|dj ?_
         exact Vc.inv2 (j+1) (⟨O++outW (bnd n sh (j+1)) cs,nextW (bnd n sh (j+1)) cs,true,now4,fs4,D3,sS2,f1,f2⟩:MsS) ⟨⟨by omega,hSw2,by simp only [nextW,List.length_map];exact hcl,hWn,hS4,by rw [List.filterMap_append,←hWm];exact hI4,hD3,hO3.wz,hGd.trans hG3,fun r hr=>by
          simp only [allW_next] at hr
          obtain ⟨x,hx,hr⟩:=List.mem_flatMap.1 hr
          exact hIw r (List.mem_flatMap.2 ⟨x,hx,(List.dropWhile_sublist _).subset hr⟩)⟩,by omega⟩ (.cons rfl (.cons rfl (.cons rfl (.cons rfl .nil)))) (by rw [lx sS2 sU];exact pulled)
end
end Go.Proofs.YtkpiakgmkpbikaaGreatDoor
