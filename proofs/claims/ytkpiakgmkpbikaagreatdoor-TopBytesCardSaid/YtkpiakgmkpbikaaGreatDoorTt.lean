/- Proved here: steps of the proof (Te Tt). -/
import Derived.Test.YtkpiakgmkpbikaaGreatDoorTw
import Derived.Test.YtkpiakgmkpbikaaGreatDoorTp
import Derived.Laws.StructEq
set_option linter.unusedVariables false
namespace Go.Proofs.YtkpiakgmkpbikaaGreatDoor
namespace ED
structure Eg where
 f:Nat
 t:Nat
 w:Nat
 deriving DecidableEq
instance:Inhabited Eg:=⟨⟨0,0,0⟩⟩
def InE (e:Eg):Prop:=e.f<4294967296∧e.t<4294967296∧e.w<4294967296
abbrev egC (e:Eg):List Value:=[.int .u32 (e.f:Int),.int .u32 (e.t:Int),.int .u32 (e.w:Int)]
abbrev egV (e:Eg):Value:=.agg #[.int .u32 (e.f:Int),.int .u32 (e.t:Int),.int .u32 (e.w:Int)]
def edgeE:Enc Eg where
 k:=3
 tid:=79
 cells:=egC
 val:=egV
 pos:=by decide
 len:=fun _=>rfl
 one:=fun x v hv=>by simp [egC] at hv; rcases hv with rfl | rfl | rfl<;>rfl
 vc:=fun _=>rfl
instance:RowTy Tryz.prog edgeE 79:=⟨Tryz.sizeOf79,.inl ⟨Tryz.isAgg79,fun _=>rfl⟩⟩
instance:TySl Tryz.prog 25 edgeE 12:=⟨Tryz.underlying25,Tryz.t79,.agg #[.int .u32 0,.int .u32 0,.int .u32 0],by kernel_rfl,by kernel_rfl,rfl,rfl,rfl⟩
abbrev grV (N:Int) (v:Value):Value:=.agg #[.int .i64 N,v]
def rightG (N:Int) (es:List Eg):Bool:=decide (0≤N)&&decide (N≤1048576)&&decide (es.length≤1048576)&&!es.any fun e=>decide (N≤(e.f:Int))||decide (N≤(e.t:Int))
theorem right1_spec {F:Fm} {bg:Nat} {N:Int} {va:Value} [f1:Fat F bg (cellsO [.int .i64 N,va] 27)] (e:Eg) (he:InE e) :
 Spec Tryz.prog 198 #[egV e,.pointer (some ⟨bg,0,none⟩)] F [] fun v _=>v=.bool (decide (N≤(e.f:Int))||decide (N≤(e.t:Int))):=by
 refine Spec.of (n:=18) (vs:=[egV e,.pointer (some ⟨bg,0,none⟩)]) Tryz.func198 rfl Tryz.ntmps198 rfl ?_
 have h1:=he.1
 have h2:=he.2.1
 refine sj [.e,.p] Z<|Rg.box Z Z Z Z Z (fun b2 => ?_)
 refine aj Z<|nl<|sj [.p,.r,.p,.p,.r,.p,.p,.p,.r,.p,.p,.r,.p,.p,.p] Z<|fj Z<|lj Z Z<|uj Z (Pv.asI e.f (Pv.convI rfl) (i64_wrap (by omega)))<|fj Z<|lj Z Z<|uj Z (Pv.geq Z Z)<|mj Z ?_
 refine Rg.split (t:=10) Z (fun h10 => ?_) (fun h10 => ?_)
 · simp only [decide_eq_true_eq] at h10
   iterate 6 (first | refine Rg.skipP rfl rfl rfl ?_ | refine Rg.skipR rfl rfl rfl ?_ | refine Rg.skipE rfl rfl rfl ?_)
   refine qj Z Z<|aj Z<|nl<|Vc.ret (Vc.rets Z (.cons (.tmp Z) (.nil)) ?_)
   exact congrArg Value.bool (by simp [*])
 · simp only [decide_eq_false_iff_not] at h10
   refine fj Z<|lj Z Z<|uj Z (Pv.asI e.t (Pv.convI rfl) (i64_wrap (by omega)))<|fj Z<|lj Z Z<|uj Z (Pv.geq Z Z)<|pj Z Z<|aj Z<|nl<|Vc.ret (Vc.rets Z (.cons (.tmp Z) (.nil)) ?_)
   exact congrArg Value.bool (by simp [*])
theorem indexFunc_spec {F:Fm} {va:Value} {xs:List Eg} (ha:Arg edgeE F va xs) (hN:xs.length<1073741824) (p:Eg→Bool) (g:Nat) [TyCall Tryz.prog g] (cs:List Value)
 (hs:∀F',(∀b o,F.at_ b o→F'.at_ b o)→∀x∈xs,Spec Tryz.prog g (egV x::cs).toArray F' [] fun v _=>v=.bool (p x)) :
 Spec Tryz.prog 215 #[va,.func (.func g) #[] cs.toArray] F [] fun v _=>∃r:Int,v=.int .i64 r∧decide (0≤r)=xs.any p:=by
 obtain ⟨q,c,rfl⟩:=ha.shape
 refine Spec.of (n:=19) (vs:=[.slice q xs.length c,.func (.func g) #[] cs.toArray]) Tryz.func215 rfl Tryz.ntmps215 rfl ?_
 refine sj [.p] Z<|aj Z<|nl<|wj<|sj [.p,.p,.p] Z<|mj Z<|uj Z (Pv.lenS Z)<|mj Z<|nl<|bj ?_
 refine Vc.loop1 (fun (i:Nat)=>i≤xs.length∧(xs.take i).any p=false) (fun i=>[(0,.slice q xs.length c),(1,.func (.func g) #[] cs.toArray),(7,.int .i64 (xs.length:Int)),(8,.int .i64 (i:Int))]) (fun i=>[]) (fun i=>xs.length-i) 0 ⟨Nat.zero_le _,by simp⟩ (.cons rfl (.cons rfl (.cons rfl (.cons rfl .nil)))) pulled ?_
 rintro i ⟨h1,h2⟩
 refine sj [.p] Z<|uj Z (Pv.lss Z Z)<|nl<|wj<|cj Z (fun h9 => ?_) (fun h9 => ?_)
 · simp only [decide_eq_true_eq] at h9
   obtain ⟨b,off,c',e,_⟩:=ha.block (by omega)
   cases e
   have hsn:xs.take (i+1)=xs.take i++[xs[i]!]:=(take_snoc (by rw [getElem!_pos xs i (by omega)]; exact List.getElem?_eq_getElem (by omega))).symm
   refine kj<|wj<|bj<|sj [.p,.p] Z<|mj Z<|aj Z<|nl<|sj [.p,.p,.p,.p,.r,.e] Z<|mj Z<|mj Z<|mj Z<|uj Z (Pv.ixA (i) rfl rfl (by omega) (by omega))<|rj Z (Ev.ldS (i) (ha.src) rfl rfl rfl (by omega))<|Rg.callP Z Z Z (run_callV rfl rfl) (hs _ (fun _ _ h=>Or.inr h) xs[i]! (by rw [getElem!_pos xs i (by omega)]; exact List.getElem_mem _)) ?_
   rintro _ rfl
   refine nl<|cj Z (fun h16 => ?_) (fun h16 => ?_)
   · refine sj [.p,.p] Z<|mj Z<|aj Z<|nl<|Vc.ret (Vc.rets Z (.cons (.tmp Z) (.nil)) ?_)
     refine ⟨(i:Int),rfl,?_⟩
     rw [decide_eq_true (by omega),eq_comm,List.any_eq_true]
     exact ⟨xs[i]!,by rw [getElem!_pos xs i (by omega)]; exact List.getElem_mem _,h16⟩
   · refine kj<|dj<|tj [.p,.p] Z<|uj Z (Pv.asI (i+1) (Pv.add rfl rfl (by omega)) (by omega))<|mj Z<|nl ?_
     exact Vc.inv1 (i+1) ⟨⟨by omega,by rw [hsn,List.any_append,h2]; simpa using h16⟩,by omega⟩ (.cons rfl (.cons rfl (.cons rfl (.cons rfl .nil)))) pulled
 · simp only [decide_eq_false_iff_not] at h9
   rw [List.take_of_length_le (by omega)] at h2
   refine Vc.exit Z<|sj [.p] Z<|aj Z<|nl<|Vc.ret (Vc.rets Z (.cons (.tmp Z) (.nil)) ?_)
   exact ⟨-1,rfl,by rw [h2]; rfl⟩
theorem containsFunc_spec {F:Fm} {va:Value} {xs:List Eg} (ha:Arg edgeE F va xs) (hN:xs.length<1073741824) (p:Eg→Bool) (g:Nat) [TyCall Tryz.prog g] (cs:List Value)
 (hs:∀F',(∀b o,F.at_ b o→F'.at_ b o)→∀x∈xs,Spec Tryz.prog g (egV x::cs).toArray F' [] fun v _=>v=.bool (p x)) :
 Spec Tryz.prog 197 #[va,.func (.func g) #[] cs.toArray] F [] fun v _=>v=.bool (xs.any p):=by
 refine Spec.of (n:=9) (vs:=[va,.func (.func g) #[] cs.toArray]) Tryz.func197 rfl Tryz.ntmps197 rfl ?_
 refine sj [.p] Z<|aj Z<|nl<|sj [.p,.p,.e,.p,.p] Z<|mj Z<|mj Z<|Rg.callP Z Z Z (run_callF Z) (indexFunc_spec (ha.mono fun b o h=>Or.inr h) hN p g cs (fun F' hF'=>hs F' fun b o h=>hF' b o (Or.inr h))) ?_
 rintro _ ⟨r,rfl,hr⟩
 refine uj Z (Pv.geq Z Z)<|aj Z<|nl<|Vc.ret (Vc.rets Z (.cons (.tmp Z) (.nil)) ?_)
 exact congrArg Value.bool hr
theorem right_spec {F:Fm} {va:Value} {es:List Eg} (ha:Arg edgeE F va es) (hN:es.length<1073741824) (hE:∀e∈es,InE e) (N:Int) :
 Spec Tryz.prog 189 #[grV N va] F [] fun v _=>v=.bool (rightG N es):=by
 obtain ⟨p,c,rfl⟩:=ha.shape
 refine Spec.of (n:=22) (vs:=[grV N (.slice p es.length c)]) Tryz.func189 rfl Tryz.ntmps189 rfl ?_
 refine sj [.e,.p] Z<|Rg.box Z Z Z Z Z (fun b1 => ?_)
 refine aj Z<|nl<|wj<|sj [.p,.r,.p,.p,.p,.r,.p,.p,.p,.p,.r,.p,.p,.p] Z<|fj Z<|lj Z Z<|uj Z (Pv.lss Z Z)<|mj Z ?_
 refine Rg.split (t:=6) Z (fun h6 => ?_) (fun h6 => ?_)
 · simp only [decide_eq_true_eq] at h6
   iterate 3 (first | refine Rg.skipP rfl rfl rfl ?_ | refine Rg.skipR rfl rfl rfl ?_ | refine Rg.skipE rfl rfl rfl ?_)
   refine qj Z Z<|mj Z ?_
   iterate 4 (first | refine Rg.skipP rfl rfl rfl ?_ | refine Rg.skipR rfl rfl rfl ?_ | refine Rg.skipE rfl rfl rfl ?_)
   refine qj Z Z<|nl<|Vc.condT Z<|sj [.p] Z<|aj Z<|nl<|Vc.ret (Vc.rets Z (.cons (.tmp Z) (.nil)) ?_)
   exact congrArg Value.bool (by unfold rightG; rw [decide_eq_false (show ¬0≤N by omega)]; rfl)
 · simp only [decide_eq_false_iff_not] at h6
   refine fj Z<|lj Z Z<|uj Z (Pv.gtr Z Z)<|pj Z Z<|mj Z ?_
   refine Rg.split (t:=11) Z (fun h11 => ?_) (fun h11 => ?_)
   · simp only [decide_eq_true_eq] at h11
     iterate 4 (first | refine Rg.skipP rfl rfl rfl ?_ | refine Rg.skipR rfl rfl rfl ?_ | refine Rg.skipE rfl rfl rfl ?_)
     refine qj Z Z<|nl<|Vc.condT Z<|sj [.p] Z<|aj Z<|nl<|Vc.ret (Vc.rets Z (.cons (.tmp Z) (.nil)) ?_)
     exact congrArg Value.bool (by unfold rightG; rw [decide_eq_false (show ¬N≤1048576 by omega)]; simp)
   · simp only [decide_eq_false_iff_not] at h11
     refine fj Z<|lj Z Z<|uj Z (Pv.lenS Z)<|uj Z (Pv.gtr Z Z)<|pj Z Z<|nl<|cj Z (fun h16 => ?_) (fun h16 => ?_)
     · simp only [decide_eq_true_eq] at h16
       refine sj [.p] Z<|aj Z<|nl<|Vc.ret (Vc.rets Z (.cons (.tmp Z) (.nil)) ?_)
       exact congrArg Value.bool (by unfold rightG; rw [decide_eq_false (show ¬es.length≤1048576 by omega)]; simp)
     · simp only [decide_eq_false_iff_not] at h16
       refine kj<|sj [.p,.r,.p,.e,.p,.p] Z<|fj Z<|lj Z Z<|uj Z (Pv.mkF Z Z) ?_
       refine Rg.callP Z Z Z (run_callF rfl) (containsFunc_spec (ha.mono fun b o h=>Or.inr h) hN (fun e=>decide (N≤(e.f:Int))||decide (N≤(e.t:Int))) 198 [.pointer (some ⟨b1,0,none⟩)] (fun F' hF' x hx=>by have:Fat F' b1 (cellsO [.int .i64 N,.slice p es.length c] 27):=⟨hF' _ _ (.inl (by simp))⟩; exact right1_spec x (hE x hx))) ?_
       rintro _ rfl
       refine uj Z (Pv.not Z)<|aj Z<|nl<|Vc.ret (Vc.rets Z (.cons (.tmp Z) (.nil)) ?_)
       exact congrArg Value.bool (by unfold rightG; rw [decide_eq_true (show 0≤N by omega),decide_eq_true (show N≤1048576 by omega),decide_eq_true (show es.length≤1048576 by omega)]; rfl)
def nums (e:Eg):List Nat:=[e.f,e.t,e.w]
def encE (e:Eg):List UInt8:=(nums e).flatMap (leBytes 4)
def encG (N:Nat) (es:List Eg):List UInt8:=leBytes 4 N++es.flatMap encE
@[simp] theorem encE_length (e:Eg):(encE e).length=12:=by simp [encE,nums]
@[simp] theorem encs_length:∀es:List Eg,(es.flatMap encE).length=12*es.length
 | []=>rfl
 | e::es=>by simp [encs_length es]; omega
def egAt (bs:List UInt8) (i:Nat):Eg:=⟨getB bs (4+12*i) 4,getB bs (4+12*i+4) 4,getB bs (4+12*i+8) 4⟩
def scanE (n:Nat) (bs:List UInt8):Nat→Nat→Option Nat
 | _,0=>none
 | i,k+1=>if n≤(egAt bs i).f then some (4+12*i) else if n≤(egAt bs i).t then some (4+12*i+4) else scanE n bs (i+1) k
def decG (bs:List UInt8):Nat×List Eg×Nat×Nat :=
 if bs.length % 12≠4 then (0,[],bs.length,2)
 else if 1048576<getB bs 0 4 then (0,[],0,1)
 else if 1048576<bs.length / 12 then (0,[],4,1)
 else match scanE (getB bs 0 4) bs 0 (bs.length / 12) with
  | some place=>(0,[],place,1)
  | none=>(getB bs 0 4,(List.range (bs.length / 12)).map (egAt bs),0,0)
theorem getB_lt (bs:List UInt8) (at_:Nat):getB bs at_ 4<4294967296:=by
 have h:=leNum_lt ((bs.drop at_).take 4)
 have h2:((bs.drop at_).take 4).length≤4:=by simp; omega
 have h3:256 ^ ((bs.drop at_).take 4).length≤256 ^ 4:=Nat.pow_le_pow_right (by decide) h2
 unfold getB
 omega
theorem set_get {α:Type} [Inhabited α] (ys:List α) {i:Nat} (x:α) (h:i<ys.length):(ys.set i x)[i]! = x:=by
 rw [getElem!_pos _ _ (by simpa using h)]; simp
theorem set_take {α:Type} [Inhabited α] (ys:List α) {i:Nat} (x:α) (h:i<ys.length):(ys.set i x).take (i+1)=ys.take i++[x]:=by
 rw [take_get _ (by simpa using h),set_get ys x h,List.take_set,List.set_eq_of_length_le (by simp; omega)]
theorem number_spec {F:Fm} {va:Value} {bs:List UInt8} (ha:Arg byteE F va bs) (hN:bs.length<1073741824) (at_:Nat) (hat:at_+4≤bs.length) :
 Spec Tryz.prog 188 #[va,.int .i64 (at_:Int)] F [] fun v _=>v=.int .u32 (getB bs at_ 4:Nat):=by
 have hlt:=getB_lt bs at_
 refine Spec.of (n:=15) (vs:=[va,.int .i64 (at_:Int)]) Tryz.func188 rfl Tryz.ntmps188 rfl ?_
 refine sj [.p] Z<|aj Z<|nl<|sj [.p,.p,.e,.p,.p,.p,.p,.p] Z<|mj Z<|mj Z<|Rg.callP Z Z Z (run_callF rfl) (get_spec (ha.mono fun b o h=>Or.inr h) hN at_ 4 (by decide) (by decide) hat) ?_
 rintro _ rfl
 refine mj Z<|xj Z Z<|xj Z Z<|aj Z<|aj Z<|nl<|sj [.p,.p,.p] Z<|mj Z<|uj Z (Pv.asI (getB bs at_ 4) (Pv.convI rfl) (wrap_ult rfl (by show _<2 ^ 32; omega)))<|aj Z<|nl<|Vc.ret (Vc.rets Z (.cons (.tmp Z) (.nil)) ?_)
 rfl
theorem decode_spec {F:Fm} {va:Value} {bs:List UInt8} (ha:Arg byteE F va bs) (hN:bs.length<1073741824) :
 Spec Tryz.prog 182 #[va] F [] fun v s=>∃u,v=.tuple #[grV ((decG bs).1:Int) u,.int .i64 ((decG bs).2.2.1:Int),.int .i64 ((decG bs).2.2.2:Int)]∧Own edgeE u (decG bs).2.1 s:=by
 obtain ⟨p,c,rfl⟩:=ha.shape
 refine Spec.of (n:=81) (vs:=[.slice p bs.length c]) Tryz.func182 rfl Tryz.ntmps182 rfl ?_
 refine sj [.e,.p,.p] Z<|Rg.alloc Z Z Z Z (fun b2 => ?_)
 refine aj Z<|aj Z<|nl<|wj<|sj [.p,.p,.p,.p] Z<|mj Z<|uj Z (Pv.lenS Z)<|uj Z (Pv.rem rfl rfl (by omega))<|uj Z (Pv.neq Z Z)<|nl<|cj Z (fun h13 => ?_) (fun h13 => ?_)
 · simp only [bne_iff_ne,ne_eq] at h13
   have hd:decG bs=(0,[],bs.length,2):=by
    have:bs.length % 12≠4:=by omega
    simp [decG,this]
   refine sj [.r,.p,.p,.e,.p,.p] Z<|rj Z (Ev.ldA Z Z)<|mj Z<|uj Z (Pv.lenS Z)<|Rg.storeA Z Z Z Z Z Z Z Z<|aj Z<|aj Z<|nl ?_
   exact Vc.ret (Vc.retsH (hl':=[]) rfl (.cons (.cellA rfl rfl) (.cons (.tmp rfl) (.cons (.tmp rfl) .nil))) (by rw [hd]; exact ⟨.slice none 0 0,rfl,Own.nil⟩) pulled)
 · simp only [bne_eq_false_iff_eq] at h13
   have hm:bs.length % 12=4:=by omega
   have hlt:=getB_lt bs 0
   generalize hn:getB bs 0 4=n at hlt
   refine kj<|sj [.p,.e,.p,.p,.p,.p,.p] Z<|mj Z<|Rg.callP Z Z Z (run_callF rfl) (number_spec (ha.mono fun b o h=>Or.inr h) hN 0 (by omega)) ?_
   rintro _ rfl
   rw [hn]
   refine mj Z<|uj Z (Pv.lenS Z)<|uj Z (Pv.asI (bs.length / 12) (Pv.quo rfl rfl (by omega)) (by omega))<|aj Z<|aj Z<|nl<|wj<|bj<|sj [.p,.p,.p] Z<|mj Z<|uj Z (Pv.gtr Z Z)<|aj Z<|nl<|cj Z (fun h22 => ?_) (fun h22 => ?_)
   · simp only [decide_eq_true_eq] at h22
     have hd:decG bs=(0,[],0,1):=by
      have:1048576<n:=by omega
      simp [decG,hm,hn,this]
     refine sj [.r,.e,.p,.p] Z<|rj Z (Ev.ldA Z Z)<|Rg.storeA Z Z Z Z Z Z Z Z<|aj Z<|aj Z<|nl ?_
     exact Vc.ret (Vc.retsH (hl':=[]) rfl (.cons (.cellA rfl rfl) (.cons (.tmp rfl) (.cons (.tmp rfl) .nil))) (by rw [hd]; exact ⟨.slice none 0 0,rfl,Own.nil⟩) pulled)
   · simp only [decide_eq_false_iff_not] at h22
     have hnb : ¬1048576<n:=by omega
     refine sj [.p,.p,.p] Z<|mj Z<|uj Z (Pv.gtr Z Z)<|aj Z<|nl<|cj Z (fun h26 => ?_) (fun h26 => ?_)
     · simp only [decide_eq_true_eq] at h26
       have hd:decG bs=(0,[],4,1):=by
        have:1048576<bs.length / 12:=by omega
        simp [decG,hm,hn,this,hnb]
       refine sj [.r,.e,.p,.p] Z<|rj Z (Ev.ldA Z Z)<|Rg.storeA Z Z Z Z Z Z Z Z<|aj Z<|aj Z<|nl ?_
       exact Vc.ret (Vc.retsH (hl':=[]) rfl (.cons (.cellA rfl rfl) (.cons (.tmp rfl) (.cons (.tmp rfl) .nil))) (by rw [hd]; exact ⟨.slice none 0 0,rfl,Own.nil⟩) pulled)
     · simp only [decide_eq_false_iff_not] at h26
       have hmb : ¬1048576<bs.length / 12:=by omega
       have hlen12:bs.length=12*(bs.length / 12)+4:=by omega
       generalize hk:bs.length / 12=many at hmb hlen12
       refine kj<|dj<|sj [.p,.e,.p] Z<|mj Z<|Rg.makeN edgeE ⟨0,0,0⟩ (hz:=⟨Tryz.zeroValue79⟩) rfl rfl rfl rfl rfl (by simp [maxLen]<;>omega) (fun b31 own31 => ?_)
       refine aj Z<|nl<|wj<|sj [.p,.p,.p] Z<|mj Z<|uj Z (Pv.lenS Z)<|mj Z<|nl<|bj ?_
       refine Vc.loop2 (fun (i:Nat) (ys:List Eg)=>i≤many∧ys.length=many∧ys.take i=(List.range i).map (egAt bs)∧scanE n bs 0 many=scanE n bs i (many-i)) (fun i ys=>[(0,.slice p bs.length c),(2,.pointer (some ⟨b2,0,none⟩)),(5,.int .u32 (n:Int)),(7,.slice (some ⟨b31,0,none⟩) many many),(33,.int .i64 (many:Int)),(34,.int .i64 (i:Int))]) (fun i ys=>[(b31,rowS edgeE ys []),(b2,cellsO [.int .i64 0,.slice none 0 0] 27)]) (fun i ys=>many-i) 0 (List.replicate many ⟨0,0,0⟩) ⟨Nat.zero_le _,by simp,by simp,rfl⟩ (.cons rfl (.cons rfl (.cons rfl (.cons rfl (.cons rfl (.cons rfl .nil)))))) pulled ?_
       rintro i ys ⟨h1,h2,h3,h4⟩
       refine sj [.p] Z<|uj Z (Pv.lss Z Z)<|nl<|wj<|cj Z (fun h35 => ?_) (fun h35 => ?_)
       · simp only [decide_eq_true_eq] at h35
         have hiy:i<ys.length:=by omega
         have hg:=set_get ys (egAt bs i) hiy
         have hst:=set_take ys (egAt bs i) hiy
         rw [show many-i=(many-(i+1))+1 by omega,scanE] at h4
         refine kj<|wj<|bj<|sj [.p,.p] Z<|mj Z<|aj Z<|nl<|sj [.p,.p,.p,.p] Z<|mj Z<|uj Z (Pv.asI (12*i) (Pv.mul rfl rfl (by omega)) (by omega))<|uj Z (Pv.asI (4+12*i) (Pv.add rfl rfl (by omega)) (by omega))<|aj Z<|nl<|sj [.p,.p,.p,.p,.e,.p,.p,.p,.e,.p,.p,.p,.e,.p,.p,.e] Z<|mj Z ?_
         refine mj Z<|mj Z<|mj Z<|Rg.callP Z Z Z (run_callF rfl) (number_spec (ha.mono fun b o h=>Or.inr h) hN (4+12*i) (by omega)) ?_
         rintro _ rfl
         refine mj Z<|mj Z<|uj Z (Pv.asI (4+12*i+4) (Pv.add rfl rfl (by omega)) (by omega))<|Rg.callP Z Z Z (run_callF rfl) (number_spec (ha.mono fun b o h=>Or.inr h) hN (4+12*i+4) (by omega)) ?_
         rintro _ rfl
         refine mj Z<|mj Z<|uj Z (Pv.asI (4+12*i+8) (Pv.add rfl rfl (by omega)) (by omega))<|Rg.callP Z Z Z (run_callF rfl) (number_spec (ha.mono fun b o h=>Or.inr h) hN (4+12*i+8) (by omega)) ?_
         rintro _ rfl
         refine uj Z (Pv.build Z Z)<|uj Z (Pv.ixA (i) rfl rfl (by omega) (by omega))<|Rg.storeR (z:=egAt bs i) (i) Z Z Z Z Z Z (Nat.zero_add _) hiy Z<|nl<|bj<|sj [.p,.p,.p,.p,.r,.p,.p,.p] Z<|mj Z<|mj Z<|uj Z (Pv.ixA (i) rfl rfl (by omega) (by omega))<|fj Z<|rj Z (Ev.ldRf (E:=edgeE) (u:=.int .u32 ((egAt bs i).f:Int)) i 0 rfl (by rw [Nat.zero_add]; rfl) (by simpa using hiy) (by rw [hg]; rfl))<|mj Z<|uj Z (Pv.geq Z Z)<|aj Z<|nl ?_
         refine cj Z (fun h55 => ?_) (fun h55 => ?_)
         · simp only [decide_eq_true_eq] at h55
           rw [if_pos (by omega)] at h4
           have hd:decG bs=(0,[],4+12*i,1):=by
            simp [decG,hm,hn,hnb,hk,hmb,h4]
           refine sj [.r,.p,.e,.p,.p] Z<|rj Z (Ev.ldA Z Z)<|mj Z<|Rg.storeA Z Z Z Z Z Z Z Z<|aj Z<|aj Z<|nl ?_
           exact Vc.ret (Vc.retsH (hl':=[]) rfl (.cons (.cellA rfl rfl) (.cons (.tmp rfl) (.cons (.tmp rfl) .nil))) (by rw [hd]; exact ⟨.slice none 0 0,rfl,Own.nil⟩) pulled)
         · simp only [decide_eq_false_iff_not] at h55
           rw [if_neg (by omega)] at h4
           refine sj [.p,.p,.p,.p,.r,.p,.p,.p] Z<|mj Z<|mj Z<|uj Z (Pv.ixA (i) rfl rfl (by omega) (by omega))<|fj Z<|rj Z (Ev.ldRf (E:=edgeE) (u:=.int .u32 ((egAt bs i).t:Int)) i 1 rfl (by rw [Nat.zero_add]; rfl) (by simpa using hiy) (by rw [hg]; rfl))<|mj Z<|uj Z (Pv.geq Z Z)<|aj Z<|nl<|cj Z (fun h65 => ?_) (fun h65 => ?_)
           · simp only [decide_eq_true_eq] at h65
             rw [if_pos (by omega)] at h4
             have hd:decG bs=(0,[],4+12*i+4,1):=by
              simp [decG,hm,hn,hnb,hk,hmb,h4]
             refine sj [.r,.p,.p,.e,.p,.p] Z<|rj Z (Ev.ldA Z Z)<|mj Z<|uj Z (Pv.asI (4+12*i+4) (Pv.add rfl rfl (by omega)) (by omega))<|Rg.storeA Z Z Z Z Z Z Z Z<|aj Z<|aj Z<|nl ?_
             exact Vc.ret (Vc.retsH (hl':=[]) rfl (.cons (.cellA rfl rfl) (.cons (.tmp rfl) (.cons (.tmp rfl) .nil))) (by rw [hd]; exact ⟨.slice none 0 0,rfl,Own.nil⟩) pulled)
           · simp only [decide_eq_false_iff_not] at h65
             rw [if_neg (by omega)] at h4
             refine kj<|dj<|dj<|tj [.p,.p] Z<|uj Z (Pv.asI (i+1) (Pv.add rfl rfl (by omega)) (by omega))<|mj Z<|nl ?_
             exact Vc.inv2 (i+1) (ys.set i (egAt bs i)) ⟨⟨by omega,by simpa using h2,by rw [hst,h3,List.range_succ,List.map_append]; rfl,h4⟩,by omega⟩ (.cons rfl (.cons rfl (.cons rfl (.cons rfl (.cons rfl (.cons rfl .nil)))))) pulled
       · simp only [decide_eq_false_iff_not] at h35
         obtain rfl:i=many:=by omega
         rw [List.take_of_length_le (by omega)] at h3
         rw [Nat.sub_self,scanE] at h4
         have hd:decG bs=(n,ys,0,0):=by
          simp [decG,hm,hn,hnb,hk,hmb,h4,h3]
         refine Vc.exit Z<|sj [.p,.p,.p,.p,.e,.p,.p] Z<|mj Z<|uj Z (Pv.asI n (Pv.convI rfl) (i64_wrap (by omega)))<|mj Z<|uj Z (Pv.build Z Z)<|Rg.storeA Z Z Z Z Z Z Z Z<|aj Z<|aj Z<|nl ?_
         exact Vc.ret (Vc.retsH (hl':=[(b31,rowS edgeE ys [])]) rfl (.cons (.cellA rfl rfl) (.cons (.tmp rfl) (.cons (.tmp rfl) .nil))) (by rw [hd]; exact ⟨_,rfl,Own.blk' b31 i i ys [] h2.symm (by simp) (by simp [maxLen]; omega)⟩) pulled)
theorem rdecode_spec {F:Fm} {va:Value} {bs:List UInt8} (ha:Arg byteE F va bs) (hN:bs.length<1073741824) :
 Spec Tryz.prog 14 #[va] F [] fun v s=>∃u,v=.tuple #[grV ((decG bs).1:Int) u,.int .i64 ((decG bs).2.2.1:Int),.int .i64 ((decG bs).2.2.2:Int)]∧Own edgeE u (decG bs).2.1 s:=by
 obtain ⟨p,c,rfl⟩:=ha.shape
 refine Spec.of (n:=93) (vs:=[.slice p bs.length c]) Tryz.func14 rfl Tryz.ntmps14 rfl ?_
 refine sj [.e,.p,.p] Z<|Rg.alloc Z Z Z Z (fun b2 => ?_)
 refine aj Z<|aj Z<|nl<|wj<|sj [.p,.p,.p,.p,.p,.p,.p,.p,.p] Z<|mj Z<|uj Z (Pv.lenS Z)<|uj Z (Pv.lss Z Z)<|mj Z<|Rg.split (t:=18) Z (fun h18 => ?_) (fun h18 => ?_)
 · simp only [decide_eq_true_eq] at h18
   have hm : ¬bs.length % 12=4:=by omega
   have hd:decG bs=(0,[],bs.length,2):=by simp [decG,hm]
   iterate 4 (first | refine Rg.skipP rfl rfl rfl ?_ | refine Rg.skipR rfl rfl rfl ?_ | refine Rg.skipE rfl rfl rfl ?_)
   refine qj Z Z<|nl<|Vc.condT Z<|sj [.p,.p,.p,.e,.p,.p] Z<|uj Z (Pv.build Z Z)<|mj Z<|uj Z (Pv.lenS Z)<|Rg.storeA Z Z Z Z Z Z Z Z<|aj Z<|aj Z<|nl ?_
   exact Vc.ret (Vc.retsH (hl':=[]) rfl (.cons (.cellA rfl rfl) (.cons (.tmp rfl) (.cons (.tmp rfl) .nil))) (by rw [hd]; exact ⟨.slice none 0 0,rfl,Own.nil⟩) pulled)
 · simp only [decide_eq_false_iff_not] at h18
   refine mj Z<|uj Z (Pv.lenS Z)<|uj Z (Pv.rem rfl rfl (by omega))<|uj Z (Pv.neq Z Z)<|pj Z Z<|nl<|cj Z (fun h23 => ?_) (fun h23 => ?_)
   · simp only [bne_iff_ne,ne_eq] at h23
     have hd:decG bs=(0,[],bs.length,2):=by
      have:bs.length % 12≠4:=by omega
      simp [decG,this]
     refine sj [.p,.p,.p,.e,.p,.p] Z<|uj Z (Pv.build Z Z)<|mj Z<|uj Z (Pv.lenS Z)<|Rg.storeA Z Z Z Z Z Z Z Z<|aj Z<|aj Z<|nl ?_
     exact Vc.ret (Vc.retsH (hl':=[]) rfl (.cons (.cellA rfl rfl) (.cons (.tmp rfl) (.cons (.tmp rfl) .nil))) (by rw [hd]; exact ⟨.slice none 0 0,rfl,Own.nil⟩) pulled)
   · simp only [bne_eq_false_iff_eq] at h23
     have hm:bs.length % 12=4:=by omega
     have hlt:=getB_lt bs 0
     generalize hn:getB bs 0 4=n at hlt
     refine kj<|sj [.p,.e,.p,.p,.p,.p,.p] Z<|mj Z<|Rg.callP Z Z Z (run_callF rfl) (rget_spec (ha.mono fun b o h=>Or.inr h) hN 0 4 (by decide) (by decide) (by omega)) ?_
     rintro _ rfl
     rw [hn]
     refine mj Z<|xj Z Z<|xj Z Z<|aj Z<|aj Z<|nl<|wj<|sj [.p,.p] Z<|mj Z<|uj Z (Pv.gtr Z Z)<|nl<|cj Z (fun h33 => ?_) (fun h33 => ?_)
     · simp only [decide_eq_true_eq] at h33
       have hd:decG bs=(0,[],0,1):=by
        have:1048576<n:=by omega
        simp [decG,hm,hn,this]
       refine sj [.p,.e,.p,.p] Z<|uj Z (Pv.build Z Z)<|Rg.storeA Z Z Z Z Z Z Z Z<|aj Z<|aj Z<|nl ?_
       exact Vc.ret (Vc.retsH (hl':=[]) rfl (.cons (.cellA rfl rfl) (.cons (.tmp rfl) (.cons (.tmp rfl) .nil))) (by rw [hd]; exact ⟨.slice none 0 0,rfl,Own.nil⟩) pulled)
     · simp only [decide_eq_false_iff_not] at h33
       have hnb : ¬1048576<n:=by omega
       refine kj<|wj<|sj [.p,.p,.p,.p] Z<|mj Z<|uj Z (Pv.lenS Z)<|uj Z (Pv.asI (bs.length / 12) (Pv.quo rfl rfl (by omega)) (by omega))<|uj Z (Pv.gtr Z Z)<|nl<|cj Z (fun h38 => ?_) (fun h38 => ?_)
       · simp only [decide_eq_true_eq] at h38
         have hd:decG bs=(0,[],4,1):=by
          have:1048576<bs.length / 12:=by omega
          simp [decG,hm,hn,this,hnb]
         refine sj [.p,.e,.p,.p] Z<|uj Z (Pv.build Z Z)<|Rg.storeA Z Z Z Z Z Z Z Z<|aj Z<|aj Z<|nl ?_
         exact Vc.ret (Vc.retsH (hl':=[]) rfl (.cons (.cellA rfl rfl) (.cons (.tmp rfl) (.cons (.tmp rfl) .nil))) (by rw [hd]; exact ⟨.slice none 0 0,rfl,Own.nil⟩) pulled)
       · simp only [decide_eq_false_iff_not] at h38
         have hmb : ¬1048576<bs.length / 12:=by omega
         have hlen12:bs.length=12*(bs.length / 12)+4:=by omega
         generalize hk:bs.length / 12=many at hmb hlen12
         refine kj<|sj [.p,.p,.p,.e,.e] Z<|mj Z<|uj Z (Pv.asI n (Pv.convI rfl) (i64_wrap (by omega)))<|uj Z (Pv.build (c:=#[.int .i64 (n:Int),.slice none 0 0]) Z Z)<|Rg.alloc Z Z Z Z (fun b7 => ?_)
         refine Rg.storeA Z Z Z Z Z Z Z Z<|nl<|wj<|sj [.p] Z<|aj Z<|nl<|bj ?_
         refine Vc.loop3 (fun (i:Nat) (v:Value) (sg:Hl)=>i≤many∧Own edgeE v ((List.range i).map (egAt bs)) sg∧scanE n bs 0 many=scanE n bs i (many-i)) (fun i v sg=>[(0,.slice p bs.length c),(2,.pointer (some ⟨b2,0,none⟩)),(5,.int .u64 (n:Int)),(7,.pointer (some ⟨b7,0,none⟩)),(8,.int .i64 ((4+12*i:Nat):Int))]) (fun i v sg=>(b7,cellsO [.int .i64 (n:Int),v] 27)::(b2,cellsO [.int .i64 0,.slice none 0 0] 27)::sg) (fun i v sg=>many-i) 0 (.slice none 0 0) [] ⟨Nat.zero_le _,Own.nil,Z⟩ (.cons Z (.cons Z (.cons Z (.cons Z (.cons Z .nil))))) pulled ?_
         rintro i v sg ⟨h1,own,h4⟩
         refine wj<|sj [.p,.p,.p,.p] Z<|mj Z<|mj Z<|uj Z (Pv.lenS Z)<|uj Z (Pv.lss Z Z)<|nl<|cj Z (fun h46 => ?_) (fun h46 => ?_)
         · simp only [decide_eq_true_eq] at h46
           rw [show many-i=(many-(i+1))+1 by omega,scanE] at h4
           have hl1:=getB_lt bs (4+12*i)
           have hl2:=getB_lt bs (4+12*i+4)
           have hl3:=getB_lt bs (4+12*i+8)
           refine kj<|wj<|bj<|sj [.p,.p,.e,.p,.p,.p,.p,.p] Z<|mj Z<|mj Z<|Rg.callP Z Z Z (run_callF rfl) (rget_spec (ha.mono fun b o h=>Or.inr h) hN (4+12*i) 4 (by decide) (by decide) (by omega)) ?_
           rintro _ rfl
           refine mj Z<|xj Z Z<|xj Z Z<|aj Z<|aj Z<|nl<|sj [.p,.p,.p,.e,.p,.p,.p,.p,.p] Z<|mj Z<|mj Z<|uj Z (Pv.asI (4+12*i+4) (Pv.add rfl rfl (by omega)) (by omega))<|Rg.callP Z Z Z (run_callF rfl) (rget_spec (ha.mono fun b o h=>Or.inr h) hN (4+12*i+4) 4 (by decide) (by decide) (by omega)) ?_
           rintro _ rfl
           refine mj Z<|xj Z Z<|xj Z Z<|aj Z<|aj Z<|nl<|sj [.p,.p,.p,.e,.p,.p,.p,.p,.p] Z<|mj Z<|mj Z<|uj Z (Pv.asI (4+12*i+8) (Pv.add rfl rfl (by omega)) (by omega))<|Rg.callP Z Z Z (run_callF rfl) (rget_spec (ha.mono fun b o h=>Or.inr h) hN (4+12*i+8) 4 (by decide) (by decide) (by omega)) ?_
           rintro _ rfl
           refine mj Z<|xj Z Z<|xj Z Z<|aj Z<|aj Z<|nl<|wj<|sj [.p,.p,.p] Z<|mj Z<|mj Z<|uj Z (Pv.geq Z Z)<|nl<|cj Z (fun h71 => ?_) (fun h71 => ?_)
           · simp only [decide_eq_true_eq] at h71
             rw [if_pos (show n≤(egAt bs i).f by show n≤getB bs (4+12*i) 4; omega)] at h4
             have hd:decG bs=(0,[],4+12*i,1):=by
              simp [decG,hm,hn,hnb,hk,hmb,h4]
             refine sj [.p,.p,.e,.p,.p] Z<|uj Z (Pv.build Z Z)<|mj Z<|Rg.storeA Z Z Z Z Z Z Z Z<|aj Z<|aj Z<|nl ?_
             exact Vc.ret (Vc.retsH (hl':=[]) rfl (.cons (.cellA rfl rfl) (.cons (.tmp rfl) (.cons (.tmp rfl) .nil))) (by rw [hd]; exact ⟨.slice none 0 0,rfl,Own.nil⟩) pulled)
           · simp only [decide_eq_false_iff_not] at h71
             rw [if_neg (show ¬n≤(egAt bs i).f by show ¬n≤getB bs (4+12*i) 4; omega)] at h4
             refine kj<|wj<|sj [.p,.p,.p] Z<|mj Z<|mj Z<|uj Z (Pv.geq Z Z)<|nl<|cj Z (fun h76 => ?_) (fun h76 => ?_)
             · simp only [decide_eq_true_eq] at h76
               rw [if_pos (show n≤(egAt bs i).t by show n≤getB bs (4+12*i+4) 4; omega)] at h4
               have hd:decG bs=(0,[],4+12*i+4,1):=by
                simp [decG,hm,hn,hnb,hk,hmb,h4]
               refine sj [.p,.p,.p,.e,.p,.p] Z<|uj Z (Pv.build Z Z)<|mj Z<|uj Z (Pv.asI (4+12*i+4) (Pv.add rfl rfl (by omega)) (by omega))<|Rg.storeA Z Z Z Z Z Z Z Z<|aj Z<|aj Z<|nl ?_
               exact Vc.ret (Vc.retsH (hl':=[]) rfl (.cons (.cellA rfl rfl) (.cons (.tmp rfl) (.cons (.tmp rfl) .nil))) (by rw [hd]; exact ⟨.slice none 0 0,rfl,Own.nil⟩) pulled)
             · simp only [decide_eq_false_iff_not] at h76
               rw [if_neg (show ¬n≤(egAt bs i).t by show ¬n≤getB bs (4+12*i+4) 4; omega)] at h4
               refine kj<|tj [.p,.r,.p,.p,.p,.p,.p,.p,.p,.e,.e,.p,.e] Z<|fj Z<|lj Z Z<|mj Z<|uj Z (Pv.asI (egAt bs i).f (Pv.convI rfl) (wrap_ult rfl (by show _<2 ^ 32; omega)))<|mj Z<|uj Z (Pv.asI (egAt bs i).t (Pv.convI rfl) (wrap_ult rfl (by show _<2 ^ 32; omega)))<|mj Z<|uj Z (Pv.asI (egAt bs i).w (Pv.convI rfl) (wrap_ult rfl (by show _<2 ^ 32; omega)))<|uj Z (Pv.build Z Z) ?_
               refine Rg.bslice1 Z Z Z Z Z Z Z (fun b89 => ?_)
               refine Rg.append Z Z Z Z Z own (Src.one (y:=egAt bs i) rfl) (by simp<;>omega) (by simp [maxLen]<;>omega) rfl (fun v90 s90 own90 => ?_)
               refine fj Z ?_
               refine Rg.store Z Z Z Z Z own90.one Z Z<|nl<|dj<|tj [.p,.p,.p] Z<|mj Z<|uj Z (Pv.asI (4+12*(i+1)) (Pv.add rfl rfl (by omega)) (by omega))<|aj Z<|nl ?_
               exact Vc.inv3 (i+1) v90 s90 ⟨⟨by omega,by rw [List.range_succ,List.map_append]; exact own90,h4⟩,by omega⟩ (.cons rfl (.cons rfl (.cons rfl (.cons rfl (.cons rfl .nil))))) pulled
         · simp only [decide_eq_false_iff_not] at h46
           obtain rfl:i=many:=by omega
           rw [Nat.sub_self,scanE] at h4
           obtain ⟨qv,cv,rfl⟩:=own.shape
           have hd:decG bs=(n,(List.range i).map (egAt bs),0,0):=by
            simp [decG,hm,hn,hnb,hk,hmb,h4]
           refine Vc.exit Z<|sj [.r,.e,.p,.p] Z<|rj Z (Ev.ldA Z Z)<|Rg.storeA Z Z Z Z Z Z Z Z<|aj Z<|aj Z<|nl ?_
           exact Vc.ret (Vc.retsH (hl':=sg) rfl (.cons (.cellA rfl rfl) (.cons (.tmp rfl) (.cons (.tmp rfl) .nil))) (by rw [hd]; exact ⟨_,rfl,own⟩) pulled)
end ED
end Go.Proofs.YtkpiakgmkpbikaaGreatDoor
namespace Go.Proofs.YtkpiakgmkpbikaaGreatDoor
structure Prg where
 kind:Int
 start:Nat
abbrev prV (p:Prg):Value:=.agg #[.int .i64 p.kind,.int .u32 (p.start:Int)]
abbrev prC (p:Prg):List Value:=[.int .i64 p.kind,.int .u32 (p.start:Int)]
structure Cf where
 vals:List Int
 live:List Bool
abbrev cfV (a b:Value):Value:=.agg #[a,b]
def rightP (p:Prg) (n:Int):Bool:=decide (1≤p.kind)&&(decide (p.kind≤5)&&(decide (0≤n)&&(decide (n≤1048576)&&(decide (p.kind≠1∧p.kind≠3)||decide ((p.start:Int)<n)))))
theorem rightP_iff {p:Prg} {n:Int}:rightP p n=true↔1≤p.kind∧p.kind≤5∧0≤n∧n≤1048576∧((p.kind≠1∧p.kind≠3)∨(p.start:Int)<n):=by simp [rightP]
def howP (p:Prg):Int:=if p.kind=4∨p.kind=5 then 1 else 2
def msgP (p:Prg) (val:Int) (out w:Int):Int:=if p.kind=1 then comb 1 val 1 else if p.kind=3 then comb 1 val w else if p.kind=4 then (if out<1 then 0 else val / out) else if p.kind=5 then 1 else val
def lessN (val:Int):Option Int→Int×Bool
 | some s=>if s<val then (s,true) else (val,false)
 | none=>(val,false)
def nextP (p:Prg) (val:Int) (o:Option Int):Int×Bool :=
 if p.kind=4 then (157284+o.getD 0 / 20*17,decide (157284+o.getD 0 / 20*17≠val)) else if p.kind=5 then (o.getD 0,false) else lessN val o
def quietC (c:Cf):Bool:=!c.live.any id
def sA (p:Prg) (v:Nat):Int:=if p.kind=2 then v else if p.kind=4 then 1048576 else if p.kind=1∨p.kind=3 then (if v=p.start then 0 else 18446744073709551615) else 0
def sB (p:Prg) (v:Nat):Bool:=if p.kind=1∨p.kind=3 then decide (v=p.start) else true
def startC (p:Prg) (n:Nat):Cf:=⟨(List.range n).map (sA p),(List.range n).map (sB p)⟩
def InU (x:Int):Prop:=0≤x∧x<18446744073709551616
def u64E:Enc Int where
 k:=1
 tid:=36
 cells:=fun a=>[.int .u64 a]
 val:=fun a=>.int .u64 a
 pos:=by decide
 len:=fun _=>rfl
 one:=fun x v hv=>by simp at hv; subst hv; rfl
 vc:=fun _=>rfl
instance:RowTy Tryz.prog u64E 36:=⟨Tryz.sizeOf36,.inr ⟨Tryz.isAgg36,rfl,fun _=>rfl⟩⟩
instance:TySl Tryz.prog 82 u64E 8:=⟨Tryz.underlying82,Tryz.t36,.int .u64 0,by kernel_rfl,by kernel_rfl,rfl,rfl,rfl⟩
instance:TyZero Tryz.prog u64E.tid (u64E.val 0):=inferInstanceAs (TyZero Tryz.prog 36 (.int .u64 0))
instance:TyZero Tryz.prog boolE.tid (boolE.val false):=inferInstanceAs (TyZero Tryz.prog 4 (.bool false))
theorem list_of {α:Type} [Inhabited α] {ys:List α} {n:Nat} {f:Nat→α} (hl:ys.length=n) (h:∀j,j<n→ys[j]! = f j):ys=(List.range n).map f:=by
 refine List.ext_getElem (by simp [hl]) fun i h1 h2 => ?_
 have:=h i (by omega)
 rw [getElem!_pos ys i h1] at this
 simp [this]
theorem get_set2 {α:Type} [Inhabited α] (l:List α) (i j:Nat) (x:α) (hj:j<l.length):(l.set i x)[j]! = if i=j then x else l[j]! := by
 rw [getElem!_pos (l.set i x) j (by rw [List.length_set]; exact hj),List.getElem_set,getElem!_pos l j hj]
theorem rep_at {α:Type} [Inhabited α] (n j:Nat) (x:α) (h:j<n):(List.replicate n x)[j]! = x:=by
 rw [getElem!_pos (List.replicate n x) j (by simpa using h)]; simp
section
variable {P : Program} {n : Nf} {F : Fm} {l : Env} {hl : Hl} {d : Option Tmp} {ty : TypeId} {pos : String} {af : Array Edge} {g : Option (Nat × Bool)}
variable {Qf : Exit → Act → World → Prop} {ks : List KItem} {ops : List Oper} {clr : List Nat} {hs : Hl} {r : Sd} {i : Nat}
theorem Pv.ixK {t e k b off m c:Nat} {kd:IntKind} {x y:Operand} {z:Int} (j:Nat) [ht:TyUnder P t (.slice e)] [hs:TySize P e k] (hx:ev l x=some (.slice (some ⟨b,off,none⟩) m c)) (hy:ev l y=some (.int kd z)) (hij:z=(j:Int)) (hj:j<m) :
 Pv P n l ⟨d,.indexAddr t x y,ty,pos,af,g⟩ (.pointer (some ⟨b,off+j*k,none⟩)):=fun a w hf=>by
 subst hij
 have h2:((⟨b,off,none⟩:Addr).add (j*k))=⟨b,off+j*k,none⟩:=by unfold Addr.add; split<;>simp_all
 simp [execOp,Instr.indexAt,run_underlying ht.under,hf.ev hx,hf.ev hy,asIntOf,hs.size,hj,h2,Int.toNat_natCast]
theorem Rg.storeRN {α:Type} {E:Enc α} [Inhabited α] {t b off:Nat} {x y:Operand} {d:Option Tmp} {z:α} {v:Value} {ys:List α} {sp:List Value} {rest q2:Hl} (j:Nat) (ho:nth ops i=some ⟨d,.store t x y,ty,pos,af,g⟩) (hg:wantB ops l g=some true) (hd:d=none)
 (hx:ev l x=some (.pointer (some ⟨b,off,none⟩))) (hy:ev l y=some v) [hb:Pull1 hl b (rowS E ys sp) rest] [ht:RowTy P E t] (hv:v=E.val z) (hoff:off=j*E.k) (hj:j<ys.length) [hr:PullL rest hs q2]
 (h:Rg P Qf n F ks ops clr hs r l ((b,rowS E (ys.set j z) sp)::rest)):Rg P Qf n F ks ops clr hs (.st i .eff r) l hl :=
 Rg.run ho hg fun a w hf hh=>by
  subst hd; subst hv; subst hoff
  have hlen:=flat_lt E ys (i:=E.k-1) hj (by have:=E.pos; omega)
  have hpos:=E.pos
  have hq:setsL (flat E ys++sp) (j*E.k) (E.cells z)=some (flat E (ys.set j z)++sp):=by
   rw [setsL_mk _ _ _ (by rw [E.len,List.length_append]; omega),flat_set ys j z hj,E.len]
   congr 1
   rw [List.take_append_of_le_length (by omega),List.drop_append_of_le_length (by omega)]
   simp
  have hc:(E.val z).cells=(E.cells z).toArray:=by rw [←E.vc]
  have hh':=hh.perm hb.perm
  have hrun:=run_storeAt (P:=P) (t:=t) ht.size hc (E.len z) (E.one z) (hh'.own b _ List.mem_cons_self) hq
  have hh2:=Lens.putB (put:=fun o'=>(b,o')::rest) ⟨[],rest,rfl,fun _=>rfl⟩ hh' (rowS E (ys.set j z) sp)
  exact ⟨_,l,_,hs,.inr ⟨by simp [execOp,hf.ev hx,hf.ev hy,hrun,rowS],hf⟩,hh2,⟨(b,rowS E (ys.set j z) sp)::q2,hh2.perm ((hr.perm.trans List.perm_append_comm).cons _)⟩,.same,h⟩
end
theorem cloneU_spec {F:Fm} {va:Value} {xs:List Int} (ha:Arg u64E F va xs) (hN:xs.length<4294967296) :
 Spec Tryz.prog 207 #[va] F [] fun v s=>Own u64E v xs s:=by
 obtain ⟨p,c,rfl⟩:=ha.shape
 refine Spec.of (n:=8) (vs:=[.slice p xs.length c]) Tryz.func207 rfl Tryz.ntmps207 rfl ?_
 refine sj [.p] Z<|aj Z<|nl<|wj<|sj [.p,.p] Z<|mj Z<|uj Z (Pv.eqlNilS Z Z)<|nl<|cj Z (fun h4 => ?_) (fun h4 => ?_)
 · obtain rfl:p=none:=by cases p with | none=>rfl | some a=>cases h4
   obtain rfl:xs=[]:=by
    rcases ha with ⟨_,e⟩ | ⟨_,_,_,e,_⟩
    · exact e
    · cases e
   refine sj [.p] Z<|aj Z<|nl<|Vc.ret (Vc.rets Z (.cons (.tmp Z) (.nil)) ?_)
   exact Own.nil
 · refine kj<|sj [.e,.p,.e,.p] Z<|Rg.bslice0 (E:=u64E) Z Z Z (fun b5 own5 => ?_)
   refine mj Z<|Rg.append Z Z Z Z Z own5 ha.src (by simp<;>omega) (by simp [maxLen]<;>omega) rfl (fun v7 s7 own7 => ?_)
   refine aj Z<|nl ?_
   exact Vc.ret (Vc.retsH rfl (.cons (.tmp rfl) (.nil)) (own7) pulled)
theorem indexT_spec {F:Fm} {va:Value} {xs:List Bool} (ha:Arg boolE F va xs) (hN:xs.length<4294967296) :
 Spec Tryz.prog 236 #[va,.bool true] F [] fun v _=>∃z:Int,v=.int .i64 z∧(0≤z↔xs.any id=true):=by
 obtain ⟨p,c,rfl⟩:=ha.shape
 refine Spec.of (n:=19) (vs:=[.slice p xs.length c,.bool true]) Tryz.func236 rfl Tryz.ntmps236 rfl ?_
 refine sj [.p] Z<|aj Z<|nl<|wj<|sj [.p,.p,.p] Z<|mj Z<|uj Z (Pv.lenS Z)<|mj Z<|nl<|bj ?_
 refine Vc.loop1 (fun (k:Nat)=>k≤xs.length∧(xs.take k).any id=false) (fun k=>[(0,.slice p xs.length c),(1,.bool true),(7,.int .i64 (xs.length:Int)),(8,.int .i64 (k:Int))]) (fun k=>[]) (fun k=>xs.length-k) 0 ⟨Nat.zero_le _,Z⟩ (.cons Z (.cons Z (.cons Z (.cons Z .nil)))) pulled ?_
 rintro k ⟨hk,hno⟩
 refine sj [.p] Z<|uj Z (Pv.lss Z Z)<|nl<|wj<|cj Z (fun h9 => ?_) (fun h9 => ?_)
 · simp only [decide_eq_true_eq] at h9
   have hk1:k<xs.length:=by omega
   obtain ⟨b,off,c',e,_⟩:=ha.block (by omega)
   cases e
   refine kj<|wj<|bj<|sj [.p,.p] Z<|mj Z<|aj Z<|nl<|sj [.p,.p,.p,.p,.r,.p] Z<|mj Z<|mj Z<|mj Z<|uj Z (Pv.ixA (k) rfl rfl (by omega) (by omega))<|rj Z (Ev.ldS (k) (ha.src) rfl rfl rfl (by omega))<|uj Z (Pv.eqlB Z Z)<|nl ?_
   refine cj Z (fun h16 => ?_) (fun h16 => ?_)
   · refine sj [.p,.p] Z<|mj Z<|aj Z<|nl<|Vc.ret (Vc.rets Z (.cons (.tmp Z) (.nil)) ?_)
     exact ⟨_,rfl,by
      have h1:xs[k]! = true:=by simpa using h16
      refine ⟨fun _ => ?_,fun _=>by omega⟩
      rw [List.any_eq_true]
      exact ⟨xs[k]!,by rw [getElem!_pos xs k hk1]; exact List.getElem_mem _,by simp [h1]⟩⟩
   · refine kj<|dj<|tj [.p,.p] Z<|uj Z (Pv.asI (k+1) (Pv.add rfl rfl (by omega)) (by omega))<|mj Z<|nl ?_
     exact Vc.inv1 (k+1) ⟨⟨by omega,by
      have h1:xs[k]! = false:=by simpa using h16
      rw [List.take_succ_eq_append_getElem hk1,List.any_append,hno,←getElem!_pos xs k hk1,h1]; rfl⟩,by omega⟩ (.cons rfl (.cons rfl (.cons rfl (.cons rfl .nil)))) pulled
 · simp only [decide_eq_false_iff_not] at h9
   rw [List.take_of_length_le (by omega)] at hno
   refine Vc.exit Z<|sj [.p] Z<|aj Z<|nl<|Vc.ret (Vc.rets Z (.cons (.tmp Z) (.nil)) ?_)
   exact ⟨_,rfl,by rw [hno]; simp⟩
theorem containsT_spec {F:Fm} {va:Value} {xs:List Bool} (ha:Arg boolE F va xs) (hN:xs.length<4294967296) :
 Spec Tryz.prog 204 #[va,.bool true] F [] fun v _=>v=.bool (xs.any id):=by
 obtain ⟨p,c,rfl⟩:=ha.shape
 refine Spec.of (n:=9) (vs:=[.slice p xs.length c,.bool true]) Tryz.func204 rfl Tryz.ntmps204 rfl ?_
 refine sj [.p] Z<|aj Z<|nl<|sj [.p,.p,.e,.p,.p] Z<|mj Z<|mj Z<|Rg.callP Z Z Z (run_callF Z) (indexT_spec (ha.mono fun b o h=>Or.inr h) hN) ?_
 rintro _ ⟨z,rfl,hz⟩
 refine uj Z (Pv.geq Z Z)<|aj Z<|nl<|Vc.ret (Vc.rets Z (.cons (.tmp Z) (.nil)) ?_)
 exact congrArg Value.bool (by rw [Bool.eq_iff_iff,decide_eq_true_eq]; exact hz)
theorem mul64_spec {F:Fm} (n:Nat) (hn:n≤1048576):Spec Tryz.prog 274 #[.int .u64 1,.int .u64 (n:Int)] F [] fun v _=>v=.tuple #[.int .u64 0,.int .u64 (n:Int)]:=by
 have hand:∀a b:Nat,a<4294967296→a &&& 4294967295=a:=fun a b h=>by
  rw [show (4294967295:Nat)=2 ^ 32-1 by decide,Nat.and_two_pow_sub_one_eq_mod,Nat.mod_eq_of_lt (by omega)]
 have hsh:∀a:Nat,a<4294967296→a / 2 ^ 32=0:=fun a h=>Nat.div_eq_of_lt (by omega)
 refine Spec.of (n:=51) (vs:=[.int .u64 ((1:Nat):Int),.int .u64 (n:Int)]) Tryz.func274 rfl Tryz.ntmps274 rfl ?_
 refine sj [.p,.p] Z<|aj Z<|aj Z<|nl<|sj [.p,.p,.p] Z<|mj Z<|uj Z (Pv.asI 1 (Pv.andN' 1 4294967295 rfl rfl rfl (by show (1:Nat)<2 ^ 64; omega) (by show (4294967295:Nat)<2 ^ 64; omega)) (by rw [hand 1 0 (by omega)]))<|aj Z<|nl<|sj [.p,.p,.p] Z<|mj Z<|uj Z (Pv.asI 0 (Pv.shrN 1 32 rfl rfl (by decide)) (by decide))<|aj Z<|nl<|sj [.p,.p,.p] Z ?_
 refine mj Z<|uj Z (Pv.asI n (Pv.andN' n 4294967295 rfl rfl rfl (by show n<2 ^ 64; omega) (by show (4294967295:Nat)<2 ^ 64; omega)) (by rw [hand n 0 (by omega)]))<|aj Z<|nl<|sj [.p,.p,.p] Z<|mj Z<|uj Z (Pv.asI 0 (Pv.shrN n 32 rfl rfl (by decide)) (by rw [hsh n (by omega)]))<|aj Z<|nl<|sj [.p,.p,.p,.p] Z<|mj Z<|mj Z<|uj Z (Pv.asI n (Pv.mulW rfl rfl) (by rw [wrap_u64i (by omega)]; omega))<|aj Z<|nl ?_
 refine sj [.p,.p,.p,.p,.p,.p,.p] Z<|mj Z<|mj Z<|uj Z (Pv.asI 0 (Pv.mulW rfl rfl) (by rw [wrap_u64i (by omega)]; omega))<|mj Z<|uj Z (Pv.asI 0 (Pv.shrN n 32 rfl rfl (by decide)) (by rw [hsh n (by omega)]))<|uj Z (Pv.asI 0 (Pv.addW rfl rfl) (by decide))<|aj Z<|nl<|sj [.p,.p,.p] Z<|mj Z<|uj Z (Pv.asI 0 (Pv.andN' 0 4294967295 rfl rfl rfl (by show (0:Nat)<2 ^ 64; omega) (by show (4294967295:Nat)<2 ^ 64; omega)) (by decide))<|aj Z<|nl<|sj [.p,.p,.p] Z ?_
 refine mj Z<|uj Z (Pv.asI 0 (Pv.shrN 0 32 rfl rfl (by decide)) (by decide))<|aj Z<|nl<|sj [.p,.p,.p,.p,.p,.p] Z<|mj Z<|mj Z<|mj Z<|uj Z (Pv.asI 0 (Pv.mulW rfl rfl) (by decide))<|uj Z (Pv.asI 0 (Pv.addW rfl rfl) (by decide))<|aj Z<|nl<|sj [.p,.p,.p,.p,.p,.p,.p,.p,.p] Z<|mj Z<|mj Z ?_
 refine uj Z (Pv.asI 0 (Pv.mulW rfl rfl) (by decide))<|mj Z<|uj Z (Pv.asI 0 (Pv.addW rfl rfl) (by decide))<|mj Z<|uj Z (Pv.asI 0 (Pv.shrN 0 32 rfl rfl (by decide)) (by decide))<|uj Z (Pv.asI 0 (Pv.addW rfl rfl) (by decide))<|aj Z<|nl<|sj [.p,.p,.p,.p] Z<|mj Z<|mj Z<|uj Z (Pv.asI n (Pv.mulW rfl rfl) (by rw [wrap_u64i (by omega)]; omega))<|aj Z<|nl<|Vc.ret (Vc.rets Z (.cons (.tmp Z) (.cons (.tmp Z) (.nil))) ?_)
 rfl
theorem mul_spec {F:Fm} (n:Nat) (hn:n≤1048576):Spec Tryz.prog 257 #[.int .u64 1,.int .u64 (n:Int)] F [] fun v _=>v=.tuple #[.int .u64 0,.int .u64 (n:Int)]:=by
 refine Spec.of (n:=30) (vs:=[.int .u64 1,.int .u64 (n:Int)]) Tryz.func257 rfl Tryz.ntmps257 rfl ?_
 refine sj [.p,.p] Z<|aj Z<|aj Z<|nl<|wj<|Vc.condF Z<|kj<|sj [.p,.p,.e,.p,.p,.p,.p,.p] Z<|mj Z<|mj Z<|Rg.callP Z Z Z (run_callF Z) (mul64_spec n hn) ?_
 rintro _ rfl
 refine mj Z<|xj Z Z<|xj Z Z<|aj Z<|aj Z<|nl<|sj [.p,.p,.p,.p] Z<|mj Z<|mj Z<|aj Z<|aj Z<|nl<|Vc.ret (Vc.rets Z (.cons (.tmp Z) (.cons (.tmp Z) (.nil))) ?_)
 rfl
theorem rep_step {n k:Nat} (hk:k≤n):(List.replicate k true++List.replicate (n-k) false).take k++(List.replicate k true).take (min k (n-k))++(List.replicate k true++List.replicate (n-k) false).drop (k+min k (n-k))=List.replicate (k+min k (n-k)) true++List.replicate (n-(k+min k (n-k))) false:=by
 rw [List.take_left' (by simp),List.take_replicate,List.drop_append,List.drop_replicate,List.drop_replicate,←List.append_assoc]
 simp only [List.length_replicate]
 rw [show k-(k+min k (n-k))=0 by omega,List.replicate_zero,List.append_nil,List.replicate_append_replicate,show min (min k (n-k)) k=min k (n-k) by omega,show n-k-(k+min k (n-k)-k)=n-(k+min k (n-k)) by omega]
theorem rep_one (n:Nat):List.take (min 1 n) [true]++List.drop (min 1 n) (List.replicate n false)=List.replicate (min 1 n) true++List.replicate (n-min 1 n) false:=by
 rw [List.drop_replicate]
 rcases Nat.eq_zero_or_pos n with h | h
 · subst h; rfl
 · rw [show min 1 n=1 by omega]; rfl
set_option maxHeartbeats 1000000 in
theorem repeatT_spec {F:Fm} {va:Value} (ha:Arg boolE F va [true]) (n:Nat) (hn:n≤1048576) :
 Spec Tryz.prog 235 #[va,.int .i64 (n:Int)] F [] fun v s=>Own boolE v (List.replicate n true) s:=by
 obtain ⟨p,c,rfl⟩:=ha.shape
 refine Spec.of (n:=48) (vs:=[.slice p 1 c,.int .i64 (n:Int)]) Tryz.func235 rfl Tryz.ntmps235 rfl ?_
 refine sj [.p] Z<|aj Z<|nl<|wj<|sj [.p,.p] Z<|mj Z<|uj Z (Pv.lss Z Z)<|nl<|cj Z (fun h10=>absurd h10 (by (simp only [decide_eq_true_eq]; omega))) (fun h10 => ?_)
 refine kj<|sj [.p,.p,.p,.p,.p,.e,.p,.p,.p,.p,.p] Z<|mj Z<|uj Z (Pv.lenS Z)<|uj Z (Pv.as (.int .u64 1) (Pv.convI Z) Z)<|mj Z<|uj Z (Pv.asI n (Pv.convI rfl) (wrap_ult rfl (by show n<2 ^ 64; omega)))<|Rg.callP Z Z Z (run_callF Z) (mul_spec n hn) ?_
 rintro _ rfl
 refine mj Z<|xj Z Z<|xj Z Z<|aj Z<|aj Z<|nl<|wj<|sj [.p,.p,.p,.p,.p,.p] Z<|mj Z<|uj Z (Pv.gtr Z Z)<|mj Z<|Rg.split (t:=23) rfl (fun h23=>absurd h23 (by decide)) (fun h23 => ?_)
 refine mj Z<|uj Z (Pv.gtr Z Z)<|pj Z Z<|nl<|cj Z (fun h26=>absurd h26 (by (simp only [decide_eq_true_eq]; omega))) (fun h26 => ?_)
 refine kj<|sj [.p,.p,.e,.p] Z<|mj Z<|uj Z (Pv.asI n (Pv.convI rfl) (i64_wrap (by omega)))<|Rg.makeN boolE false (m:=n) rfl rfl rfl rfl rfl ⟨by omega,by (show n≤9223372036854775807); omega⟩ (fun b30 own30 => ?_)
 refine aj Z<|nl<|sj [.p,.p,.e,.p] Z<|mj Z<|mj Z<|Rg.copy (E:=boolE) (ys:=List.replicate n false) (sp:=[]) (zs:=[true]) 0 rfl rfl rfl rfl rfl ha.src (.inr rfl) (by simp) rfl ?_
 simp only [List.take_zero,List.nil_append,Nat.zero_add,List.length_singleton]
 rw [rep_one]
 refine aj Z<|nl<|wj<|bj ?_
 refine Vc.loop1 (fun (k:Nat)=>k≤n∧(0<n→0<k)) (fun k=>[(7,.slice (some ⟨b30,0,none⟩) n n),(8,.int .i64 (k:Int))]) (fun k=>[(b30,rowS boolE (List.replicate k true++List.replicate (n-k) false) [])]) (fun k=>n-k) (min 1 n) ⟨by omega,by omega⟩ (.cons rfl (.cons rfl .nil)) pulled ?_
 rintro k ⟨hk,hk0⟩
 have hlen:(List.replicate k true++List.replicate (n-k) false).length=n:=by simp; omega
 refine wj<|sj [.p,.p,.p,.p] Z<|mj Z<|mj Z<|uj Z (Pv.lenS Z)<|uj Z (Pv.lss Z Z)<|nl<|cj Z (fun h37 => ?_) (fun h37 => ?_)
 · simp only [decide_eq_true_eq] at h37
   refine kj<|bj ?_
   refine Vc.draw [7] (sd [(0,.pure),(1,.pure),(2,.pure),(3,.pure),(4,.pure),(5,.pure),(6,.pure),(7,.eff),(8,.pure),(9,.pure)]) mixed (by kernel_rfl)<|mj Z<|mj Z<|mj Z<|uj Z (Pv.slFrom (k) rfl rfl (by omega) (by omega))<|mj Z<|mj Z<|uj Z (Pv.slTo (k) rfl rfl (by omega))<|Rg.copy (E:=boolE) (ys:=List.replicate k true++List.replicate (n-k) false) (sp:=[]) (zs:=List.replicate k true) k rfl rfl rfl rfl rfl (by
    have h:=Arg.own (F:=frz F [(b30,rowS boolE (List.replicate k true++List.replicate (n-k) false) [])]) (Own.blk' b30 n n _ [] hlen.symm rfl (by (show n≤9223372036854775807); omega)) fun b o hb=>Or.inl hb
    have h2:=h.take (k:=k) (by omega)
    rw [List.take_left' (by simp)] at h2
    exact h2.srcF) (by
    by_cases e:n=k
    · left; omega
    · right; rw [if_neg e,Nat.zero_add]; rfl) (by omega) rfl ?_
   simp only [List.length_replicate]
   rw [rep_step hk]
   refine uj Z (Pv.asI (k+min k (n-k)) (Pv.add rfl rfl (by omega)) (by omega))<|aj Z<|nl<|dj ?_
   exact Vc.inv1 (k+min k (n-k)) ⟨⟨by omega,by omega⟩,by omega⟩ (.cons rfl (.cons rfl .nil)) pulled
 · simp only [decide_eq_false_iff_not] at h37
   obtain rfl:k=n:=by omega
   refine Vc.exit Z<|sj [.p,.p] Z<|mj Z<|aj Z<|nl ?_
   exact Vc.ret (Vc.retsH rfl (.cons (.tmp rfl) (.nil)) ((by
    have h:Own boolE (.slice (some ⟨b30,0,none⟩) k k) (List.replicate k true) [(b30,rowS boolE (List.replicate k true++List.replicate (k-k) false) [])]:=by
     rw [Nat.sub_self,List.replicate_zero,List.append_nil]
     exact Own.blk' b30 k k _ [] (by simp) rfl (by (show k≤9223372036854775807); omega)
    exact h)) pulled)
section
variable {F : Fm} {p : Prg}
theorem tright_spec (hp:p.start<4294967296) (n:Int):Spec Tryz.prog 143 #[prV p,.int .i64 n] F [] fun v _=>v=.bool (rightP p n):=by
 refine Spec.of (n:=41) (vs:=[prV p,.int .i64 n]) Tryz.func143 rfl Tryz.ntmps143 rfl ?_
 refine sj [.e,.p] Z<|Rg.box Z Z Z Z Z (fun b2 => ?_)
 refine aj Z<|nl<|wj<|Vc.cut1 (fun (bb:Bool)=>bb = !decide (p.kind≠1∧p.kind≠3)) (fun bb=>[(5,.bool bb),(1,.int .i64 n),(2,.pointer (some ⟨b2,0,none⟩))]) (fun bb=>[(b2,cellsO (prC p) 24)]) ?_ ?_
 · refine tj [.p,.r,.p,.p,.p,.r,.p,.p,.p] Z<|fj Z<|lj Z Z<|uj Z (Pv.eql Z Z)<|mj Z ?_
   refine Rg.split (t:=9) Z (fun h9 => ?_) (fun h9 => ?_)
   · iterate 3 (first | refine Rg.skipP rfl rfl rfl ?_ | refine Rg.skipR rfl rfl rfl ?_ | refine Rg.skipE rfl rfl rfl ?_)
     refine qj Z Z<|aj Z<|nl ?_
     exact Vc.inv1 _ (by
      have h:p.kind=1:=by simpa using h9
      simp [h]) (.cons rfl (.cons rfl (.cons rfl .nil))) pulled
   · refine fj Z<|lj Z Z<|uj Z (Pv.eql Z Z)<|pj Z Z<|aj Z<|nl ?_
     exact Vc.inv1 _ (by
      have h : ¬p.kind=1:=by simpa using h9
      by_cases h3:p.kind=3<;>simp [h,h3]) (.cons rfl (.cons rfl (.cons rfl .nil))) pulled
 · rintro bb rfl
   refine sj [.p,.r,.p,.p,.p,.r,.p,.p,.p,.p,.p,.p,.p,.p,.p,.p,.p,.p,.p,.p,.p,.r,.p,.p,.p,.p,.p,.p] Z<|fj Z<|lj Z Z<|uj Z (Pv.geq Z Z)<|mj Z ?_
   refine Rg.split (t:=17) Z (fun h17 => ?_) (fun h17 => ?_)
   · simp only [decide_eq_true_eq] at h17
     refine fj Z<|lj Z Z<|uj Z (Pv.leq Z Z)<|qj Z Z<|mj Z ?_
     refine Rg.split (t:=22) Z (fun h22 => ?_) (fun h22 => ?_)
     · simp only [decide_eq_true_eq] at h22
       refine mj Z<|uj Z (Pv.geq Z Z)<|qj Z Z<|mj Z<|Rg.split (t:=26) Z (fun h26 => ?_) (fun h26 => ?_)
       · simp only [decide_eq_true_eq] at h26
         refine mj Z<|uj Z (Pv.leq Z Z)<|qj Z Z<|mj Z<|Rg.split (t:=30) Z (fun h30 => ?_) (fun h30 => ?_)
         · simp only [decide_eq_true_eq] at h30
           refine mj Z<|uj Z (Pv.not Z)<|mj Z<|Rg.split (t:=33) Z (fun h33 => ?_) (fun h33 => ?_)
           · iterate 5 (first | refine Rg.skipP rfl rfl rfl ?_ | refine Rg.skipR rfl rfl rfl ?_ | refine Rg.skipE rfl rfl rfl ?_)
             refine qj Z Z<|qj Z Z<|aj Z<|nl<|Vc.ret (Vc.rets Z (.cons (.tmp Z) (.nil)) ?_)
             exact congrArg Value.bool (by
              unfold rightP
              simp_all<;>(intros; exfalso; omega))
           · refine fj Z<|lj Z Z<|uj Z (Pv.asI p.start (Pv.convI rfl) (i64_wrap (by omega)))<|mj Z<|uj Z (Pv.lss Z Z)<|pj Z Z<|qj Z Z<|aj Z<|nl<|Vc.ret (Vc.rets Z (.cons (.tmp Z) (.nil)) ?_)
             exact congrArg Value.bool (by
              unfold rightP
              simp_all<;>(intros; exfalso; omega))
         · simp only [decide_eq_false_iff_not] at h30
           iterate 9 (first | refine Rg.skipP rfl rfl rfl ?_ | refine Rg.skipR rfl rfl rfl ?_ | refine Rg.skipE rfl rfl rfl ?_)
           refine pj Z Z<|aj Z<|nl<|Vc.ret (Vc.rets Z (.cons (.tmp Z) (.nil)) ?_)
           exact congrArg Value.bool (by
            unfold rightP
            simp_all<;>(intros; exfalso; omega))
       · simp only [decide_eq_false_iff_not] at h26
         iterate 2 (first | refine Rg.skipP rfl rfl rfl ?_ | refine Rg.skipR rfl rfl rfl ?_ | refine Rg.skipE rfl rfl rfl ?_)
         refine pj Z Z<|mj Z ?_
         iterate 9 (first | refine Rg.skipP rfl rfl rfl ?_ | refine Rg.skipR rfl rfl rfl ?_ | refine Rg.skipE rfl rfl rfl ?_)
         refine pj Z Z<|aj Z<|nl<|Vc.ret (Vc.rets Z (.cons (.tmp Z) (.nil)) ?_)
         exact congrArg Value.bool (by
          unfold rightP
          simp_all<;>(intros; exfalso; omega))
     · simp only [decide_eq_false_iff_not] at h22
       iterate 2 (first | refine Rg.skipP rfl rfl rfl ?_ | refine Rg.skipR rfl rfl rfl ?_ | refine Rg.skipE rfl rfl rfl ?_)
       refine pj Z Z<|mj Z ?_
       iterate 2 (first | refine Rg.skipP rfl rfl rfl ?_ | refine Rg.skipR rfl rfl rfl ?_ | refine Rg.skipE rfl rfl rfl ?_)
       refine pj Z Z<|mj Z ?_
       iterate 9 (first | refine Rg.skipP rfl rfl rfl ?_ | refine Rg.skipR rfl rfl rfl ?_ | refine Rg.skipE rfl rfl rfl ?_)
       refine pj Z Z<|aj Z<|nl<|Vc.ret (Vc.rets Z (.cons (.tmp Z) (.nil)) ?_)
       exact congrArg Value.bool (by
        unfold rightP
        simp_all<;>(intros; exfalso; omega))
   · simp only [decide_eq_false_iff_not] at h17
     iterate 3 (first | refine Rg.skipP rfl rfl rfl ?_ | refine Rg.skipR rfl rfl rfl ?_ | refine Rg.skipE rfl rfl rfl ?_)
     refine pj Z Z<|mj Z ?_
     iterate 2 (first | refine Rg.skipP rfl rfl rfl ?_ | refine Rg.skipR rfl rfl rfl ?_ | refine Rg.skipE rfl rfl rfl ?_)
     refine pj Z Z<|mj Z ?_
     iterate 2 (first | refine Rg.skipP rfl rfl rfl ?_ | refine Rg.skipR rfl rfl rfl ?_ | refine Rg.skipE rfl rfl rfl ?_)
     refine pj Z Z<|mj Z ?_
     iterate 9 (first | refine Rg.skipP rfl rfl rfl ?_ | refine Rg.skipR rfl rfl rfl ?_ | refine Rg.skipE rfl rfl rfl ?_)
     refine pj Z Z<|aj Z<|nl<|Vc.ret (Vc.rets Z (.cons (.tmp Z) (.nil)) ?_)
     exact congrArg Value.bool (by
      unfold rightP
      simp_all<;>(intros; exfalso; omega))
theorem how_spec:Spec Tryz.prog 206 #[prV p] F [] fun v _=>v=.int .i64 (howP p):=by
 refine Spec.of (n:=11) (vs:=[prV p]) Tryz.func206 rfl Tryz.ntmps206 rfl ?_
 refine sj [.e,.p] Z<|Rg.box Z Z Z Z Z (fun b1 => ?_)
 refine aj Z<|nl<|wj<|sj [.p,.r,.p,.p,.p,.r,.p,.p] Z<|fj Z<|lj Z Z<|uj Z (Pv.eql Z Z)<|mj Z ?_
 refine Rg.split (t:=6) Z (fun h6 => ?_) (fun h6 => ?_)
 · iterate 3 (first | refine Rg.skipP rfl rfl rfl ?_ | refine Rg.skipR rfl rfl rfl ?_ | refine Rg.skipE rfl rfl rfl ?_)
   refine qj Z Z<|nl<|Vc.condT Z<|sj [.p] Z<|aj Z<|nl<|Vc.ret (Vc.rets Z (.cons (.tmp Z) (.nil)) ?_)
   exact congrArg (Value.int .i64) (by unfold howP; simp_all)
 · refine fj Z<|lj Z Z<|uj Z (Pv.eql Z Z)<|pj Z Z<|nl<|cj Z (fun h10 => ?_) (fun h10 => ?_)
   · refine sj [.p] Z<|aj Z<|nl<|Vc.ret (Vc.rets Z (.cons (.tmp Z) (.nil)) ?_)
     exact congrArg (Value.int .i64) (by unfold howP; simp_all)
   · refine kj<|sj [.p] Z<|aj Z<|nl<|Vc.ret (Vc.rets Z (.cons (.tmp Z) (.nil)) ?_)
     exact congrArg (Value.int .i64) (by unfold howP; simp_all)
end
end Go.Proofs.YtkpiakgmkpbikaaGreatDoor
