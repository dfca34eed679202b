/- Steps of the proof. -/
import Derived.Test.YtkpiakgmkpbikaaGreatDoorTv
import Derived.Test.YtkpiakgmkpbikaaGreatDoorTo
set_option linter.unusedVariables false
namespace Go.Proofs.YtkpiakgmkpbikaaGreatDoor
open ED (Eg egV egC edgeE InE grV)
def outN (es:List Eg) (v:Nat):Nat:=(es.filter fun e=>decide (e.f=v)).length
def msg1 (p:Prg) (es:List Eg) (c:Cf) (e:Eg):Option Rc:=if sendsP p c e.f=true then some ⟨(e.t:Int),msgP p c.vals[e.f]! (outN es e.f:Nat) (e.w:Int)⟩ else none
def msgsC (p:Prg) (es:List Eg) (c:Cf):List Rc:=es.filterMap (msg1 p es c)
def stepT (p:Prg) (es:List Eg) (c:Cf):Cf :=
 if quietC c=true then c else ⟨(List.range c.vals.length).map fun v:Nat=>(nextP p c.vals[v]! (tot (howP p) (v:Int) (msgsC p es c))).1,(List.range c.vals.length).map fun v:Nat=>(nextP p c.vals[v]! (tot (howP p) (v:Int) (msgsC p es c))).2⟩
def InG (n:Nat) (es:List Eg):Prop:=∀e∈es,e.f<n∧e.t<n∧InE e
theorem outN_snoc (es:List Eg) (e:Eg) (v:Nat):outN (es++[e]) v=outN es v+if e.f=v then 1 else 0:=by
 unfold outN
 rw [List.filter_append,ly]
 congr 1
 by_cases h:e.f=v<;>simp [h]
theorem outN_le (es:List Eg) (v:Nat):outN es v≤es.length:=List.length_filter_le _ _
theorem tot_in {how k:Int}:∀{l:List Rc},(∀r∈l,InU r.val)→∀x,tot how k l=some x→InU x:=by
 intro l
 induction l using snocRec with
 | nil=>intro _ x h;simp [tot] at h
 | snoc l r ih =>
  intro h x hx
  rw [tot_snoc] at hx
  split at hx
  · have hr:=h r (by simp)
    cases ht:tot how k l with
    | none=>rw [ht] at hx;simp only [addO,Option.some.injEq] at hx;rw [←hx];exact hr
    | some y =>
     rw [ht] at hx
     simp only [addO,Option.some.injEq] at hx
     rw [←hx]
     exact comb_in (ih (fun q hq=>h q (by simp [hq])) y ht) hr
  · exact ih (fun q hq=>h q (by simp [hq])) x hx
theorem msgs_in {p:Prg} {n:Nat} {es all:List Eg} {c:Cf} (hi:InC c n) (hg:InG n es):∀r∈es.filterMap (msg1 p all c),InU r.val:=by
 intro r hr
 obtain ⟨e,he,h⟩:=List.mem_filterMap.1 hr
 unfold msg1 at h
 split at h
 · simp only [Option.some.injEq] at h
   rw [←h]
   exact msgP_in (hi.in_ e.f (hg e he).1) ⟨by omega,by have:=(hg e he).2.2.2.2;omega⟩ (by omega)
 · cases h
section
variable {F : Fm} {p : Prg}
set_option maxHeartbeats 4000000 in
theorem rstart_spec (hp:p.start<4294967296) (n:Nat) (hn:n≤1048576) (hr:rightP p n=true) {pe:Option Addr} {me ce:Nat}:Spec Tryz.prog 24 #[prV p,grV (n:Int) (.slice pe me ce)] F [] fun v s=>CfO v (startC p n) s:=by
 obtain ⟨hk1,hk5,_,_,hks⟩:=rightP_iff.1 hr
 refine Spec.of (n:=47) (vs:=[prV p,grV (n:Int) (.slice pe me ce)]) Tryz.func24 rfl Tryz.ntmps24 rfl ?_
 refine sj [.e,.e,.e] Z<|Rg.box Z Z Z Z Z (fun b2=>?_)
 refine Rg.box Z Z Z Z Z (fun b3=>?_)
 refine Rg.alloc Z Z Z Z (fun b4=>?_)
 refine nl<|sj [.p,.e,.e] Z<|uj Z (Pv.build (c:=#[.slice none 0 0,.slice none 0 0]) Z Z)<|Rg.alloc Z Z Z Z (fun b5=>?_)
 refine Rg.storeA Z Z Z Z Z Z Z Z<|nl<|wj<|sj [.p] Z<|aj Z<|nl<|bj ?_
 refine Vc.loop6 (fun (k:Nat) (p1:Option Addr) (c1:Nat) (p2:Option Addr) (c2:Nat) (q:Hl×Hl)=>k≤n∧Own u64E (.slice p1 k c1) ((List.range k).map (sA p)) q.1∧Own boolE (.slice p2 k c2) ((List.range k).map (sB p)) q.2) (fun k p1 c1 p2 c2 q=>[(2,.pointer (some ⟨b2,0,none⟩)),(3,.pointer (some ⟨b3,0,none⟩)),(4,.pointer (some ⟨b4,0,none⟩)),(5,.pointer (some ⟨b5,0,none⟩)),(6,.int .i64 (k:Int))]) (fun k p1 c1 p2 c2 q=>(b5,cellsO [.slice p1 k c1,.slice p2 k c2] 84)::(b4,cellsO [.slice none 0 0,.slice none 0 0] 84)::(b3,cellsO [.int .i64 (n:Int),.slice pe me ce] 27)::(b2,cellsO (prC p) 24)::(q.1++q.2)) (fun k p1 c1 p2 c2 q=>n-k) 0 none 0 none 0 ([],[]) ⟨Nat.zero_le _,.nil,.nil⟩ (.cons Z (.cons Z (.cons Z (.cons Z (.cons Z .nil))))) pulled ?_
 rintro k p1 c1 p2 c2 ⟨q1,q2⟩ ⟨hk,o1,o2⟩
 simp only at o1 o2 ⊢
 have e1:((List.range k).map (sA p)).length=k:=by simp
 have e2:((List.range k).map (sB p)).length=k:=by simp
 refine wj<|sj [.p,.p,.r,.p] Z<|mj Z<|fj Z<|lj Z Z<|uj Z (Pv.lss Z Z)<|nl<|cj Z (fun h13=>?_) (fun h13=>?_)
 · simp only [dt] at h13
   have hkn:k<n:=by omega
   refine kj<|wj<|bj<|sj [.p] Z<|aj Z<|nl<|sj [.p] Z<|aj Z<|nl<|wj<|sj [.p,.r] Z<|fj Z<|lj Z Z<|nl<|bj ?_
   refine wj<|sj [.p,.p] Z<|uj Z (Pv.eql Z Z)<|aj Z<|nl<|Vc.cut1 (fun (bb:Bool)=>bb=true↔(p.kind=1∨p.kind=3)) (fun bb=>[(18,.bool bb),(17,.int .i64 p.kind),(7,.int .u64 0),(8,.bool true),(2,.pointer (some ⟨b2,0,none⟩)),(3,.pointer (some ⟨b3,0,none⟩)),(4,.pointer (some ⟨b4,0,none⟩)),(5,.pointer (some ⟨b5,0,none⟩)),(6,.int .i64 (k:Int))]) (fun bb=>(b5,cellsO [.slice p1 k c1,.slice p2 k c2] 84)::(b4,cellsO [.slice none 0 0,.slice none 0 0] 84)::(b3,cellsO [.int .i64 (n:Int),.slice pe me ce] 27)::(b2,cellsO (prC p) 24)::(q1++q2)) ?_ ?_
   · refine cj Z (fun h18=>?_) (fun h18=>?_)
     · refine kj ?_
       exact Vc.inv1 _ ⟨fun _=>.inl (by simpa using h18),fun _=>h18⟩ (.cons rfl (.cons rfl (.cons rfl (.cons rfl (.cons rfl (.cons rfl (.cons rfl (.cons rfl (.cons rfl .nil))))))))) pulled
     · refine tj [.p,.p] Z<|uj Z (Pv.eql Z Z)<|aj Z<|nl ?_
       exact Vc.inv1 _ ⟨fun h=>.inr (by simpa using h),fun h=>by
        have h1 : ¬p.kind=1:=by simpa using h18
        have h3:=h.resolve_left h1
        simp [h3]⟩ (.cons rfl (.cons rfl (.cons rfl (.cons rfl (.cons rfl (.cons rfl (.cons rfl (.cons rfl (.cons rfl .nil))))))))) pulled
   · rintro bb hbb
     refine Vc.cut0 True [(7,.int .u64 (sA p k)),(8,.bool (sB p k)),(2,.pointer (some ⟨b2,0,none⟩)),(3,.pointer (some ⟨b3,0,none⟩)),(4,.pointer (some ⟨b4,0,none⟩)),(5,.pointer (some ⟨b5,0,none⟩)),(6,.int .i64 (k:Int))] ((b5,cellsO [.slice p1 k c1,.slice p2 k c2] 84)::(b4,cellsO [.slice none 0 0,.slice none 0 0] 84)::(b3,cellsO [.int .i64 (n:Int),.slice pe me ce] 27)::(b2,cellsO (prC p) 24)::(q1++q2)) ?_ ?_
     · refine cj Z (fun h18=>?_) (fun h18=>?_)
       · have hkk:=hbb.1 h18
         have hA:=sA_one hkk k
         have hB:sB p k=decide (k=p.start):=by rw [sB,if_pos hkk]
         refine sj [.p,.p,.p,.r,.p,.p] Z<|mj Z<|uj Z (Pv.asI k (Pv.convI rfl) (wrap_ult rfl (by show k<2 ^ 32;omega)))<|fj Z<|lj Z Z<|uj Z (Pv.as (.bool (sB p k)) (Pv.eql rfl rfl) (congrArg Value.bool (by rw [hB,Bool.eq_iff_iff,beq_iff_eq,dt];omega)))<|aj Z<|nl<|sj [.p,.p] Z<|mj Z<|uj Z (Pv.not Z)<|nl<|cj Z (fun h27=>?_) (fun h27=>?_)
         · simp only [Bool.not_eq_true'] at h27
           have hne : ¬k=p.start:=by rw [hB] at h27;simpa using h27
           rw [if_neg hne] at hA
           refine tj [.p] Z<|aj Z<|nl ?_
           exact Vc.inv0 trivial (.cons (by rw [hA];rfl) (.cons rfl (.cons rfl (.cons rfl (.cons rfl (.cons rfl (.cons rfl .nil))))))) pulled
         · simp only [Bool.not_eq_false'] at h27
           have heq:k=p.start:=by rw [hB] at h27;simpa using h27
           rw [if_pos heq] at hA
           refine kj ?_
           exact Vc.inv0 trivial (.cons (by rw [hA];rfl) (.cons rfl (.cons rfl (.cons rfl (.cons rfl (.cons rfl (.cons rfl .nil))))))) pulled
       · have hkk : ¬(p.kind=1∨p.kind=3):=fun h=>by rw [hbb.2 h] at h18;cases h18
         have hB:sB p k=true:=by rw [sB,if_neg hkk]
         refine sj [.p,.p] Z<|uj Z (Pv.eql Z Z)<|aj Z<|nl<|cj Z (fun h28=>?_) (fun h28=>?_)
         · have h2:p.kind=2:=by simpa using h28
           have hA:sA p k=((k:Nat):Int):=by rw [sA,if_pos h2]
           refine tj [.p,.p,.p] Z<|mj Z<|uj Z (Pv.asI k (Pv.convI rfl) (wrap_ult rfl (by show k<2 ^ 64;omega)))<|aj Z<|nl ?_
           exact Vc.inv0 trivial (.cons (by rw [hA];rfl) (.cons (by rw [hB];rfl) (.cons rfl (.cons rfl (.cons rfl (.cons rfl (.cons rfl .nil))))))) pulled
         · have h2 : ¬p.kind=2:=by simpa using h28
           refine sj [.p,.p] Z<|uj Z (Pv.eql Z Z)<|aj Z<|nl<|cj Z (fun h32=>?_) (fun h32=>?_)
           · have h4:p.kind=4:=by simpa using h32
             have hA:sA p k=1048576:=by rw [sA,if_neg h2,if_pos h4]
             refine tj [.p] Z<|aj Z<|nl ?_
             exact Vc.inv0 trivial (.cons (by rw [hA];rfl) (.cons (by rw [hB];rfl) (.cons rfl (.cons rfl (.cons rfl (.cons rfl (.cons rfl .nil))))))) pulled
           · have h4 : ¬p.kind=4:=by simpa using h32
             have hA:sA p k=0:=by rw [sA,if_neg h2,if_neg h4,if_neg hkk]
             refine kj ?_
             exact Vc.inv0 trivial (.cons (by rw [hA];rfl) (.cons (by rw [hB];rfl) (.cons rfl (.cons rfl (.cons rfl (.cons rfl (.cons rfl .nil))))))) pulled
     · rintro _
       refine dj<|sj [.p,.r,.p,.e,.e,.p,.e] Z<|fj Z<|lj Z Z<|mj Z ?_
       refine Rg.bslice1 Z Z Z Z Z Z Z (fun b37=>?_)
       refine Rg.append Z Z Z Z Z o1 (Src.one (y:=sA p k) rfl) (by simp<;>omega) (by simp [maxLen]<;>omega) rfl (fun v38 s38 own38=>?_)
       have l38:((List.range k).map (sA p)++[sA p k]).length=k+1:=by simp
       obtain ⟨p38,c38,rfl⟩:=own38.shape
       rw [l38] at own38 ⊢
       refine fj Z ?_
       refine Rg.store Z Z Z Z Z Z Z Z<|nl<|tj [.p,.r,.p,.e,.e,.p,.e] Z<|fj Z<|lj Z Z<|mj Z ?_
       refine Rg.bslice1 Z Z Z Z Z Z Z (fun b43=>?_)
       refine Rg.append Z Z Z Z Z o2 (Src.one (y:=sB p k) rfl) (by simp<;>omega) (by simp [maxLen]<;>omega) rfl (fun v44 s44 own44=>?_)
       have l44:((List.range k).map (sB p)++[sB p k]).length=k+1:=by simp
       obtain ⟨p44,c44,rfl⟩:=own44.shape
       rw [l44] at own44 ⊢
       refine fj Z ?_
       refine Rg.store Z Z Z Z Z Z Z Z<|nl<|dj<|tj [.p,.p,.p] Z<|mj Z<|uj Z (Pv.asI (k+1) (Pv.add rfl rfl (by omega)) (by omega))<|aj Z<|nl ?_
       exact Vc.inv6 (k+1) p38 c38 p44 c44 (s38,s44) ⟨⟨by omega,by rw [List.range_succ,List.map_append];exact own38,by rw [List.range_succ,List.map_append];exact own44⟩,by omega⟩ (.cons rfl (.cons rfl (.cons rfl (.cons rfl (.cons rfl .nil))))) pulled
 · simp only [df] at h13
   obtain rfl:k=n:=by omega
   refine Vc.exit Z<|sj [.r,.e] Z<|rj Z (Ev.ldA Z Z)<|Rg.storeA Z Z Z Z Z Z Z Z<|nl ?_
   exact vr (hl':=q1++q2) rfl (.cons (.cellA rfl rfl) .nil) ⟨_,_,q1,q2,rfl,o1,o2,rfl⟩ pulled
theorem Rg.callPN {P:Program} {Qf:Exit→Act→World→Prop} {n:Nf} {F:Fm} {ks:List KItem} {ops:List Oper} {clr:List Nat} {hs hl q:Hl} {r:Sd} {l:Env} {i:Nat} {ty:TypeId} {pos:String} {af:Array Edge} {g:Option (Nat×Bool)} {t f:Nat} {o:Op} {args:Array Value} {post:Value→Prop} (ho:nth ops i=some ⟨some t,o,ty,pos,af,g⟩) (hg:wantB ops l g=some true) (ht:Nat.blt t n.n=true) (hc:Callz P n l ⟨some t,o,ty,pos,af,g⟩ f args)
 (hspec:Spec P f args (frz F hl) [] fun v _=>post v) [hq:PullL hl hs q] (h:∀v,post v→Rg P Qf n F ks ops clr hs r ((t,v)::l) hl):Rg P Qf n F ks ops clr hs (.st i .eff r) l hl:=fun a w hf hh=>by
 show wpOpX _ _ _ _ _ _ _ _
 unfold wpOpX wpOpIn
 rw [nth_eq] at ho
 have ho':ops.toArray[i]? = some ⟨some t,o,ty,pos,af,g⟩:=by simpa using ho
 simp only [ho',wantB_spec (o:=⟨some t,o,ty,pos,af,g⟩) hg hf,if_true]
 unfold Oper.wpIn
 refine ⟨fun _ _=>trivial,?_⟩
 rw [semAt_run (hc a w hf) (by intro d h;cases h)]
 obtain ⟨h1,h2,h3⟩:=Hp.frz_iff.1 (show Hp F ([]++hl) w from hh)
 refine ⟨(by intro h;cases h),fe_calls ((hspec w h1).mono fun e w' ⟨v,hl',he,hpost,hh'⟩=>?_)⟩
 subst he
 have hfin:Hp F (hl'++hl) w':=Hp.frz_iff.2 ⟨hh',h2,h3⟩
 have hfin':Hp F hl w':=Hp.forget (hfin.perm List.perm_append_comm)
 exact ⟨_,fun _ _ h=>h,⟨q,hfin'.perm (hq.perm.trans List.perm_append_comm)⟩,h v hpost _ w' (hf.put ht v) hfin'⟩
theorem tot_take {p:Prg} {es all:List Eg} {c:Cf} {k:Nat} (hk:k<es.length) (j:Int):tot (howP p) j ((es.take (k+1)).filterMap (msg1 p all c))=match msg1 p all c es[k]! with
 | some r=>if r.key=j then addO (howP p) (tot (howP p) j ((es.take k).filterMap (msg1 p all c))) r.val else tot (howP p) j ((es.take k).filterMap (msg1 p all c))
 | none=>tot (howP p) j ((es.take k).filterMap (msg1 p all c)):=by
 rw [List.take_succ_eq_append_getElem hk,List.filterMap_append,←getElem!_pos es k hk]
 cases h:msg1 p all c es[k]! with
 | none=>simp only [List.filterMap_cons,h,List.filterMap_nil,List.append_nil]
 | some r=>simp only [List.filterMap_cons,h,List.filterMap_nil,tot_snoc]
set_option maxHeartbeats 16000000 in
theorem rstep_spec (hp:p.start<4294967296) {n:Nat} {es:List Eg} {c:Cf} (hi:InC c n) (hg:InG n es) (hel:es.length≤1000000) {ve a b:Value} (he:Arg edgeE F ve es) (hc:CfA F a b c):Spec Tryz.prog 25 #[prV p,grV (n:Int) ve,cfV a b] F [] fun v s=>CfO v (stepT p es c) s:=by
 obtain ⟨hvl,hll,hfew,hin⟩:=hi
 have hi:InC c n:=⟨hvl,hll,hfew,hin⟩
 obtain ⟨pe,ce,rfl⟩:=he.shape
 have hc0:=hc
 obtain ⟨pv,cv,e1⟩:=hc.va.shape
 obtain ⟨pl,cl,e2⟩:=hc.la.shape
 subst e1;subst e2
 have hva:=hc.va
 have hla:=hc.la
 rw [hvl] at hva hc0 ⊢
 rw [hll] at hla hc0 ⊢
 obtain ⟨sv,hsv⟩:∃sv:Nat→Int×Bool,sv=fun v:Nat=>nextP p c.vals[v]! (tot (howP p) (v:Int) (msgsC p es c)):=⟨_,rfl⟩
 refine Spec.of (n:=149) (vs:=[prV p,grV (n:Int) (.slice pe es.length ce),cfV (.slice pv n cv) (.slice pl n cl)]) Tryz.func25 rfl Tryz.ntmps25 rfl ?_
 refine sj [.e,.e,.e,.e] Z<|Rg.box Z Z Z Z Z (fun b3=>?_)
 refine Rg.box Z Z Z Z Z (fun b4=>?_)
 refine Rg.box Z Z Z Z Z (fun b5=>?_)
 refine Rg.alloc Z Z Z Z (fun b6=>?_)
 refine nl<|wj<|Vc.cut6 (fun (b7:Nat) (pa:Option Addr) (ca:Nat) (pb:Option Addr) (cb:Nat) (q:Hl×Hl)=>Own u64E (.slice pa n ca) c.vals q.1∧Own boolE (.slice pb n cb) c.live q.2) (fun b7 pa ca pb cb q=>[(3,.pointer (some ⟨b3,0,none⟩)),(4,.pointer (some ⟨b4,0,none⟩)),(5,.pointer (some ⟨b5,0,none⟩)),(6,.pointer (some ⟨b6,0,none⟩)),(7,.pointer (some ⟨b7,0,none⟩))]) (fun b7 pa ca pb cb q=>(b7,cellsO [.slice pa n ca,.slice pb n cb] 84)::(b6,cellsO [.slice none 0 0,.slice none 0 0] 84)::(b5,cellsO [.slice pv n cv,.slice pl n cl] 84)::(b4,cellsO [.int .i64 (n:Int),.slice pe es.length ce] 27)::(b3,cellsO (prC p) 24)::(q.1++q.2)) ?_ ?_
 · refine Vc.drawS [10] (.st 1 .pure (.st 2 .read (.st 5 .pure (.st 6 .read (.three 0 (.three 3 (.two 4 (.two 7 (sd [(8,.pure),(9,.eff),(10,.eff)]) 9 (sd [(7,.eff),(8,.pure),(10,.eff)])) 9 (sd [(4,.eff),(7,.eff),(8,.pure),(10,.eff)])) 4 (.two 3 (.two 7 (sd [(8,.pure),(9,.eff),(10,.eff)]) 9 (sd [(7,.eff),(8,.pure),(10,.eff)])) 9 (sd [(3,.eff),(7,.eff),(8,.pure),(10,.eff)])) 9 (.two 3 (sd [(4,.eff),(7,.eff),(8,.pure),(10,.eff)]) 4 (sd [(3,.eff),(7,.eff),(8,.pure),(10,.eff)]))) 4 (.two 0 (.two 3 (.two 7 (sd [(8,.pure),(9,.eff),(10,.eff)]) 9 (sd [(7,.eff),(8,.pure),(10,.eff)])) 9 (sd [(3,.eff),(7,.eff),(8,.pure),(10,.eff)])) 9 (sd [(0,.eff),(3,.eff),(7,.eff),(8,.pure),(10,.eff)])) 9 (.two 0 (.two 3 (sd [(4,.eff),(7,.eff),(8,.pure),(10,.eff)]) 4 (sd [(3,.eff),(7,.eff),(8,.pure),(10,.eff)])) 4 (sd [(0,.eff),(3,.eff),(7,.eff),(8,.pure),(10,.eff)]))))))) [(b5,cellsO [.slice pv n cv,.slice pl n cl] 84)] pulled mixed (by kernel_rfl)<|fj Z<|lj Z Z<|fj Z<|lj Z Z ?_
   refine Rg.three ?_ ?_ ?_
   · refine Rg.bslice0N (E:=u64E) Z Z Z (fun b18 own18=>?_)
     refine Rg.three ?_ ?_ ?_
     · refine Rg.appendN Z Z Z Z Z own18 hva.src (by simp<;>omega) (by simp [maxLen]<;>omega) (fun v21 s21 own21=>?_)
       have l21:([]++c.vals).length=n:=hvl
       obtain ⟨p21,c21,rfl⟩:=own21.shape
       rw [l21,List.nil_append] at own21
       rw [l21]
       refine Rg.two ?_ ?_
       · refine Rg.bslice0N (E:=boolE) Z Z Z (fun b22 own22=>?_)
         refine Rg.two ?_ ?_
         · refine Rg.appendN Z Z Z Z Z own22 hla.src (by simp<;>omega) (by simp [maxLen]<;>omega) (fun v25 s25 own25=>?_)
           have l25:([]++c.live).length=n:=hll
           obtain ⟨p25,c25,rfl⟩:=own25.shape
           rw [l25,List.nil_append] at own25
           rw [l25]
           refine uj Z (Pv.build (c:=#[.slice p21 n c21,.slice p25 n c25]) Z Z)<|Rg.allocN Z Z Z Z (fun b7=>?_)
           refine Rg.storeA Z Z Z Z Z Z Z Z<|nl ?_
           exact Vc.inv6 b7 p21 c21 p25 c25 (s21,s25) ⟨own21,own25⟩ (.cons rfl (.cons rfl (.cons rfl (.cons rfl (.cons rfl .nil))))) pulled
         · refine Rg.allocN Z Z Z Z (fun b7=>?_)
           refine Rg.appendN Z Z Z Z Z own22 hla.src (by simp<;>omega) (by simp [maxLen]<;>omega) (fun v25 s25 own25=>?_)
           have l25:([]++c.live).length=n:=hll
           obtain ⟨p25,c25,rfl⟩:=own25.shape
           rw [l25,List.nil_append] at own25
           rw [l25]
           refine uj Z (Pv.build (c:=#[.slice p21 n c21,.slice p25 n c25]) Z Z)<|Rg.storeA Z Z Z Z Z Z Z Z<|nl ?_
           exact Vc.inv6 b7 p21 c21 p25 c25 (s21,s25) ⟨own21,own25⟩ (.cons rfl (.cons rfl (.cons rfl (.cons rfl (.cons rfl .nil))))) pulled
       · refine Rg.allocN Z Z Z Z (fun b7=>?_)
         refine Rg.bslice0N (E:=boolE) Z Z Z (fun b22 own22=>?_)
         refine Rg.appendN Z Z Z Z Z own22 hla.src (by simp<;>omega) (by simp [maxLen]<;>omega) (fun v25 s25 own25=>?_)
         have l25:([]++c.live).length=n:=hll
         obtain ⟨p25,c25,rfl⟩:=own25.shape
         rw [l25,List.nil_append] at own25
         rw [l25]
         refine uj Z (Pv.build (c:=#[.slice p21 n c21,.slice p25 n c25]) Z Z)<|Rg.storeA Z Z Z Z Z Z Z Z<|nl ?_
         exact Vc.inv6 b7 p21 c21 p25 c25 (s21,s25) ⟨own21,own25⟩ (.cons rfl (.cons rfl (.cons rfl (.cons rfl (.cons rfl .nil))))) pulled
     · refine Rg.bslice0N (E:=boolE) Z Z Z (fun b22 own22=>?_)
       refine Rg.two ?_ ?_
       · refine Rg.appendN Z Z Z Z Z own18 hva.src (by simp<;>omega) (by simp [maxLen]<;>omega) (fun v21 s21 own21=>?_)
         have l21:([]++c.vals).length=n:=hvl
         obtain ⟨p21,c21,rfl⟩:=own21.shape
         rw [l21,List.nil_append] at own21
         rw [l21]
         refine Rg.two ?_ ?_
         · refine Rg.appendN Z Z Z Z Z own22 hla.src (by simp<;>omega) (by simp [maxLen]<;>omega) (fun v25 s25 own25=>?_)
           have l25:([]++c.live).length=n:=hll
           obtain ⟨p25,c25,rfl⟩:=own25.shape
           rw [l25,List.nil_append] at own25
           rw [l25]
           refine uj Z (Pv.build (c:=#[.slice p21 n c21,.slice p25 n c25]) Z Z)<|Rg.allocN Z Z Z Z (fun b7=>?_)
           refine Rg.storeA Z Z Z Z Z Z Z Z<|nl ?_
           exact Vc.inv6 b7 p21 c21 p25 c25 (s21,s25) ⟨own21,own25⟩ (.cons rfl (.cons rfl (.cons rfl (.cons rfl (.cons rfl .nil))))) pulled
         · refine Rg.allocN Z Z Z Z (fun b7=>?_)
           refine Rg.appendN Z Z Z Z Z own22 hla.src (by simp<;>omega) (by simp [maxLen]<;>omega) (fun v25 s25 own25=>?_)
           have l25:([]++c.live).length=n:=hll
           obtain ⟨p25,c25,rfl⟩:=own25.shape
           rw [l25,List.nil_append] at own25
           rw [l25]
           refine uj Z (Pv.build (c:=#[.slice p21 n c21,.slice p25 n c25]) Z Z)<|Rg.storeA Z Z Z Z Z Z Z Z<|nl ?_
           exact Vc.inv6 b7 p21 c21 p25 c25 (s21,s25) ⟨own21,own25⟩ (.cons rfl (.cons rfl (.cons rfl (.cons rfl (.cons rfl .nil))))) pulled
       · refine Rg.allocN Z Z Z Z (fun b7=>?_)
         refine Rg.appendN Z Z Z Z Z own18 hva.src (by simp<;>omega) (by simp [maxLen]<;>omega) (fun v21 s21 own21=>?_)
         have l21:([]++c.vals).length=n:=hvl
         obtain ⟨p21,c21,rfl⟩:=own21.shape
         rw [l21,List.nil_append] at own21
         rw [l21]
         refine Rg.appendN Z Z Z Z Z own22 hla.src (by simp<;>omega) (by simp [maxLen]<;>omega) (fun v25 s25 own25=>?_)
         have l25:([]++c.live).length=n:=hll
         obtain ⟨p25,c25,rfl⟩:=own25.shape
         rw [l25,List.nil_append] at own25
         rw [l25]
         refine uj Z (Pv.build (c:=#[.slice p21 n c21,.slice p25 n c25]) Z Z)<|Rg.storeA Z Z Z Z Z Z Z Z<|nl ?_
         exact Vc.inv6 b7 p21 c21 p25 c25 (s21,s25) ⟨own21,own25⟩ (.cons rfl (.cons rfl (.cons rfl (.cons rfl (.cons rfl .nil))))) pulled
     · refine Rg.allocN Z Z Z Z (fun b7=>?_)
       refine Rg.two ?_ ?_
       · refine Rg.appendN Z Z Z Z Z own18 hva.src (by simp<;>omega) (by simp [maxLen]<;>omega) (fun v21 s21 own21=>?_)
         have l21:([]++c.vals).length=n:=hvl
         obtain ⟨p21,c21,rfl⟩:=own21.shape
         rw [l21,List.nil_append] at own21
         rw [l21]
         refine Rg.bslice0N (E:=boolE) Z Z Z (fun b22 own22=>?_)
         refine Rg.appendN Z Z Z Z Z own22 hla.src (by simp<;>omega) (by simp [maxLen]<;>omega) (fun v25 s25 own25=>?_)
         have l25:([]++c.live).length=n:=hll
         obtain ⟨p25,c25,rfl⟩:=own25.shape
         rw [l25,List.nil_append] at own25
         rw [l25]
         refine uj Z (Pv.build (c:=#[.slice p21 n c21,.slice p25 n c25]) Z Z)<|Rg.storeA Z Z Z Z Z Z Z Z<|nl ?_
         exact Vc.inv6 b7 p21 c21 p25 c25 (s21,s25) ⟨own21,own25⟩ (.cons rfl (.cons rfl (.cons rfl (.cons rfl (.cons rfl .nil))))) pulled
       · refine Rg.bslice0N (E:=boolE) Z Z Z (fun b22 own22=>?_)
         refine Rg.appendN Z Z Z Z Z own18 hva.src (by simp<;>omega) (by simp [maxLen]<;>omega) (fun v21 s21 own21=>?_)
         have l21:([]++c.vals).length=n:=hvl
         obtain ⟨p21,c21,rfl⟩:=own21.shape
         rw [l21,List.nil_append] at own21
         rw [l21]
         refine Rg.appendN Z Z Z Z Z own22 hla.src (by simp<;>omega) (by simp [maxLen]<;>omega) (fun v25 s25 own25=>?_)
         have l25:([]++c.live).length=n:=hll
         obtain ⟨p25,c25,rfl⟩:=own25.shape
         rw [l25,List.nil_append] at own25
         rw [l25]
         refine uj Z (Pv.build (c:=#[.slice p21 n c21,.slice p25 n c25]) Z Z)<|Rg.storeA Z Z Z Z Z Z Z Z<|nl ?_
         exact Vc.inv6 b7 p21 c21 p25 c25 (s21,s25) ⟨own21,own25⟩ (.cons rfl (.cons rfl (.cons rfl (.cons rfl (.cons rfl .nil))))) pulled
   · refine Rg.bslice0N (E:=boolE) Z Z Z (fun b22 own22=>?_)
     refine Rg.two ?_ ?_
     · refine Rg.bslice0N (E:=u64E) Z Z Z (fun b18 own18=>?_)
       refine Rg.two ?_ ?_
       · refine Rg.appendN Z Z Z Z Z own18 hva.src (by simp<;>omega) (by simp [maxLen]<;>omega) (fun v21 s21 own21=>?_)
         have l21:([]++c.vals).length=n:=hvl
         obtain ⟨p21,c21,rfl⟩:=own21.shape
         rw [l21,List.nil_append] at own21
         rw [l21]
         refine Rg.two ?_ ?_
         · refine Rg.appendN Z Z Z Z Z own22 hla.src (by simp<;>omega) (by simp [maxLen]<;>omega) (fun v25 s25 own25=>?_)
           have l25:([]++c.live).length=n:=hll
           obtain ⟨p25,c25,rfl⟩:=own25.shape
           rw [l25,List.nil_append] at own25
           rw [l25]
           refine uj Z (Pv.build (c:=#[.slice p21 n c21,.slice p25 n c25]) Z Z)<|Rg.allocN Z Z Z Z (fun b7=>?_)
           refine Rg.storeA Z Z Z Z Z Z Z Z<|nl ?_
           exact Vc.inv6 b7 p21 c21 p25 c25 (s21,s25) ⟨own21,own25⟩ (.cons rfl (.cons rfl (.cons rfl (.cons rfl (.cons rfl .nil))))) pulled
         · refine Rg.allocN Z Z Z Z (fun b7=>?_)
           refine Rg.appendN Z Z Z Z Z own22 hla.src (by simp<;>omega) (by simp [maxLen]<;>omega) (fun v25 s25 own25=>?_)
           have l25:([]++c.live).length=n:=hll
           obtain ⟨p25,c25,rfl⟩:=own25.shape
           rw [l25,List.nil_append] at own25
           rw [l25]
           refine uj Z (Pv.build (c:=#[.slice p21 n c21,.slice p25 n c25]) Z Z)<|Rg.storeA Z Z Z Z Z Z Z Z<|nl ?_
           exact Vc.inv6 b7 p21 c21 p25 c25 (s21,s25) ⟨own21,own25⟩ (.cons rfl (.cons rfl (.cons rfl (.cons rfl (.cons rfl .nil))))) pulled
       · refine Rg.allocN Z Z Z Z (fun b7=>?_)
         refine Rg.appendN Z Z Z Z Z own18 hva.src (by simp<;>omega) (by simp [maxLen]<;>omega) (fun v21 s21 own21=>?_)
         have l21:([]++c.vals).length=n:=hvl
         obtain ⟨p21,c21,rfl⟩:=own21.shape
         rw [l21,List.nil_append] at own21
         rw [l21]
         refine Rg.appendN Z Z Z Z Z own22 hla.src (by simp<;>omega) (by simp [maxLen]<;>omega) (fun v25 s25 own25=>?_)
         have l25:([]++c.live).length=n:=hll
         obtain ⟨p25,c25,rfl⟩:=own25.shape
         rw [l25,List.nil_append] at own25
         rw [l25]
         refine uj Z (Pv.build (c:=#[.slice p21 n c21,.slice p25 n c25]) Z Z)<|Rg.storeA Z Z Z Z Z Z Z Z<|nl ?_
         exact Vc.inv6 b7 p21 c21 p25 c25 (s21,s25) ⟨own21,own25⟩ (.cons rfl (.cons rfl (.cons rfl (.cons rfl (.cons rfl .nil))))) pulled
     · refine Rg.allocN Z Z Z Z (fun b7=>?_)
       refine Rg.bslice0N (E:=u64E) Z Z Z (fun b18 own18=>?_)
       refine Rg.appendN Z Z Z Z Z own18 hva.src (by simp<;>omega) (by simp [maxLen]<;>omega) (fun v21 s21 own21=>?_)
       have l21:([]++c.vals).length=n:=hvl
       obtain ⟨p21,c21,rfl⟩:=own21.shape
       rw [l21,List.nil_append] at own21
       rw [l21]
       refine Rg.appendN Z Z Z Z Z own22 hla.src (by simp<;>omega) (by simp [maxLen]<;>omega) (fun v25 s25 own25=>?_)
       have l25:([]++c.live).length=n:=hll
       obtain ⟨p25,c25,rfl⟩:=own25.shape
       rw [l25,List.nil_append] at own25
       rw [l25]
       refine uj Z (Pv.build (c:=#[.slice p21 n c21,.slice p25 n c25]) Z Z)<|Rg.storeA Z Z Z Z Z Z Z Z<|nl ?_
       exact Vc.inv6 b7 p21 c21 p25 c25 (s21,s25) ⟨own21,own25⟩ (.cons rfl (.cons rfl (.cons rfl (.cons rfl (.cons rfl .nil))))) pulled
   · refine Rg.allocN Z Z Z Z (fun b7=>?_)
     refine Rg.two ?_ ?_
     · refine Rg.bslice0N (E:=u64E) Z Z Z (fun b18 own18=>?_)
       refine Rg.two ?_ ?_
       · refine Rg.appendN Z Z Z Z Z own18 hva.src (by simp<;>omega) (by simp [maxLen]<;>omega) (fun v21 s21 own21=>?_)
         have l21:([]++c.vals).length=n:=hvl
         obtain ⟨p21,c21,rfl⟩:=own21.shape
         rw [l21,List.nil_append] at own21
         rw [l21]
         refine Rg.bslice0N (E:=boolE) Z Z Z (fun b22 own22=>?_)
         refine Rg.appendN Z Z Z Z Z own22 hla.src (by simp<;>omega) (by simp [maxLen]<;>omega) (fun v25 s25 own25=>?_)
         have l25:([]++c.live).length=n:=hll
         obtain ⟨p25,c25,rfl⟩:=own25.shape
         rw [l25,List.nil_append] at own25
         rw [l25]
         refine uj Z (Pv.build (c:=#[.slice p21 n c21,.slice p25 n c25]) Z Z)<|Rg.storeA Z Z Z Z Z Z Z Z<|nl ?_
         exact Vc.inv6 b7 p21 c21 p25 c25 (s21,s25) ⟨own21,own25⟩ (.cons rfl (.cons rfl (.cons rfl (.cons rfl (.cons rfl .nil))))) pulled
       · refine Rg.bslice0N (E:=boolE) Z Z Z (fun b22 own22=>?_)
         refine Rg.appendN Z Z Z Z Z own18 hva.src (by simp<;>omega) (by simp [maxLen]<;>omega) (fun v21 s21 own21=>?_)
         have l21:([]++c.vals).length=n:=hvl
         obtain ⟨p21,c21,rfl⟩:=own21.shape
         rw [l21,List.nil_append] at own21
         rw [l21]
         refine Rg.appendN Z Z Z Z Z own22 hla.src (by simp<;>omega) (by simp [maxLen]<;>omega) (fun v25 s25 own25=>?_)
         have l25:([]++c.live).length=n:=hll
         obtain ⟨p25,c25,rfl⟩:=own25.shape
         rw [l25,List.nil_append] at own25
         rw [l25]
         refine uj Z (Pv.build (c:=#[.slice p21 n c21,.slice p25 n c25]) Z Z)<|Rg.storeA Z Z Z Z Z Z Z Z<|nl ?_
         exact Vc.inv6 b7 p21 c21 p25 c25 (s21,s25) ⟨own21,own25⟩ (.cons rfl (.cons rfl (.cons rfl (.cons rfl (.cons rfl .nil))))) pulled
     · refine Rg.bslice0N (E:=boolE) Z Z Z (fun b22 own22=>?_)
       refine Rg.bslice0N (E:=u64E) Z Z Z (fun b18 own18=>?_)
       refine Rg.appendN Z Z Z Z Z own18 hva.src (by simp<;>omega) (by simp [maxLen]<;>omega) (fun v21 s21 own21=>?_)
       have l21:([]++c.vals).length=n:=hvl
       obtain ⟨p21,c21,rfl⟩:=own21.shape
       rw [l21,List.nil_append] at own21
       rw [l21]
       refine Rg.appendN Z Z Z Z Z own22 hla.src (by simp<;>omega) (by simp [maxLen]<;>omega) (fun v25 s25 own25=>?_)
       have l25:([]++c.live).length=n:=hll
       obtain ⟨p25,c25,rfl⟩:=own25.shape
       rw [l25,List.nil_append] at own25
       rw [l25]
       refine uj Z (Pv.build (c:=#[.slice p21 n c21,.slice p25 n c25]) Z Z)<|Rg.storeA Z Z Z Z Z Z Z Z<|nl ?_
       exact Vc.inv6 b7 p21 c21 p25 c25 (s21,s25) ⟨own21,own25⟩ (.cons rfl (.cons rfl (.cons rfl (.cons rfl (.cons rfl .nil))))) pulled
 · rintro b7 pa ca pb cb ⟨s1,s2⟩ ⟨o1,o2⟩
   simp only at o1 o2 ⊢
   refine sj [.r,.e,.p] Z<|rj Z (Ev.ldA Z Z)<|Rg.callP Z Z Z (mz Z) (rquiet_spec (hc0.mono fun b o h=>Or.inr h)) ?_
   rintro _ rfl
   refine aj Z<|nl<|wj<|sj [.p] Z<|mj Z<|nl<|cj Z (fun h29=>?_) (fun h29=>?_)
   · have hq:stepT p es c=c:=by rw [stepT,if_pos h29]
     refine sj [.r,.e] Z<|rj Z (Ev.ldA Z Z)<|Rg.storeA Z Z Z Z Z Z Z Z<|nl ?_
     exact vr (hl':=s1++s2) rfl (.cons (.cellA rfl rfl) .nil) (by rw [hq];exact ⟨_,_,s1,s2,rfl,o1,o2,rfl⟩) pulled
   · have hq:stepT p es c=⟨(List.range n).map fun v=>(sv v).1,(List.range n).map fun v=>(sv v).2⟩:=by rw [stepT,if_neg (by rw [h29];decide),hvl,hsv]
     refine kj<|sj [.p,.r,.e,.p] Z<|fj Z<|lj Z Z ?_
     refine Rg.makeN intE 0 (m:=n) rfl rfl rfl rfl rfl ⟨by omega,by (show n≤9223372036854775807);omega⟩ (fun b33 own33=>?_)
     refine aj Z<|nl<|wj<|sj [.p] Z<|aj Z<|nl<|bj ?_
     refine Vc.loop2 (fun (k:Nat) (ys:List Int)=>k≤es.length∧ys.length=n∧∀j,j<n→ys[j]! = ((outN (es.take k) j:Nat):Int)) (fun k ys=>[(10,.int .i64 (k:Int)),(9,.slice (some ⟨b33,0,none⟩) n n),(3,.pointer (some ⟨b3,0,none⟩)),(4,.pointer (some ⟨b4,0,none⟩)),(5,.pointer (some ⟨b5,0,none⟩)),(6,.pointer (some ⟨b6,0,none⟩)),(7,.pointer (some ⟨b7,0,none⟩))]) (fun k ys=>(b33,rowS intE ys [])::(b7,cellsO [.slice pa n ca,.slice pb n cb] 84)::(b6,cellsO [.slice none 0 0,.slice none 0 0] 84)::(b5,cellsO [.slice pv n cv,.slice pl n cl] 84)::(b4,cellsO [.int .i64 (n:Int),.slice pe es.length ce] 27)::(b3,cellsO (prC p) 24)::(s1++s2)) (fun k ys=>es.length-k) 0 (List.replicate n 0) ⟨Nat.zero_le _,by simp,fun j hj=>by rw [rep_at n j 0 hj];rfl⟩ (.cons rfl (.cons rfl (.cons rfl (.cons rfl (.cons rfl (.cons rfl (.cons rfl .nil))))))) pulled ?_
     rintro k ys ⟨hk,hyl,hys⟩
     refine wj<|sj [.p,.p,.r,.p,.p] Z<|mj Z<|fj Z<|lj Z Z<|uj Z (Pv.lenS Z)<|uj Z (Pv.lss Z Z)<|nl<|cj Z (fun h38=>?_) (fun h38=>?_)
     · simp only [dt] at h38
       have hk1:k<es.length:=by omega
       obtain ⟨be,oe,ce',e,_⟩:=he.block (by omega)
       cases e
       have hem:=hg es[k]! (by rw [getElem!_pos es k hk1];exact List.getElem_mem _)
       have hol:=outN_le (es.take k) es[k]!.f
       rw [List.length_take] at hol
       have hts:es.take (k+1)=es.take k++[es[k]!]:=by rw [List.take_succ_eq_append_getElem hk1,getElem!_pos es k hk1]
       refine kj<|wj<|bj<|tj [.p,.p,.r,.p,.p,.p,.r,.p,.r,.p,.p,.e] Z<|mj Z<|fj Z<|lj Z Z<|mj Z<|uj Z (Pv.ixA (k) rfl rfl (by omega) (by omega))<|fj Z<|rj Z (Ev.ldSf (E:=edgeE) (u:=.int .u32 (es[k]!.f:Int)) k 0 he.src Z Z Z hk1 Z)<|uj Z (Pv.ixK es[k]!.f rfl rfl rfl (by omega))<|rj Z (Ev.as (.int .i64 ((outN (es.take k) es[k]!.f:Nat):Int)) (Ev.ldR es[k]!.f rfl (Nat.zero_add _) (by omega)) (congrArg (Value.int .i64) (hys _ hem.1)))<|uj Z (Pv.asI (outN (es.take k) es[k]!.f+1) (Pv.add rfl rfl (by omega)) (by omega))<|uj Z (Pv.ixK es[k]!.f rfl rfl rfl (by omega)) ?_
       refine Rg.storeR (E:=intE) (z:=((outN (es.take k) es[k]!.f+1:Nat):Int)) es[k]!.f rfl rfl rfl rfl rfl rfl (Nat.zero_add _) (by omega) rfl<|nl<|dj<|tj [.p,.p,.p] Z<|mj Z<|uj Z (Pv.asI (k+1) (Pv.add rfl rfl (by omega)) (by omega))<|aj Z<|nl ?_
       exact Vc.inv2 (k+1) (ys.set es[k]!.f ((outN (es.take k) es[k]!.f+1:Nat):Int)) ⟨⟨by omega,by rw [List.length_set,hyl],fun j hj=>by
        rw [get_set2 ys _ j _ (by omega),hts,outN_snoc]
        by_cases e:es[k]!.f=j
        · rw [if_pos e,if_pos e,e]
        · rw [if_neg e,if_neg e,hys j hj];rfl⟩,by omega⟩ (.cons rfl (.cons rfl (.cons rfl (.cons rfl (.cons rfl (.cons rfl (.cons rfl .nil))))))) pulled
     · simp only [df] at h38
       rw [show k=es.length by omega,List.take_length] at hys
       obtain rfl:ys=((List.range n).map fun v=>((outN es v:Nat):Int)):=list_of hyl hys
       refine Vc.exit Z<|sj [.p,.r,.e,.p] Z<|fj Z<|lj Z Z ?_
       refine Rg.makeN u64E 0 (m:=n) rfl rfl rfl rfl rfl ⟨by omega,by (show n≤9223372036854775807);omega⟩ (fun b54 own54=>?_)
       refine aj Z<|nl<|sj [.p,.r,.e,.p] Z<|fj Z<|lj Z Z ?_
       refine Rg.makeN boolE false (m:=n) rfl rfl rfl rfl rfl ⟨by omega,by (show n≤9223372036854775807);omega⟩ (fun b57 own57=>?_)
       refine aj Z<|nl<|wj<|sj [.p] Z<|aj Z<|nl<|bj ?_
       refine Vc.loop3 (fun (k:Nat) (ys:List Int) (zs:List Bool)=>k≤es.length∧ys.length=n∧zs.length=n∧(∀j,j<n→ys[j]! = (tot (howP p) (j:Int) ((es.take k).filterMap (msg1 p es c))).getD 0)∧∀j,j<n→zs[j]! = (tot (howP p) (j:Int) ((es.take k).filterMap (msg1 p es c))).isSome) (fun k ys zs=>[(13,.int .i64 (k:Int)),(11,.slice (some ⟨b54,0,none⟩) n n),(12,.slice (some ⟨b57,0,none⟩) n n),(9,.slice (some ⟨b33,0,none⟩) n n),(3,.pointer (some ⟨b3,0,none⟩)),(4,.pointer (some ⟨b4,0,none⟩)),(5,.pointer (some ⟨b5,0,none⟩)),(6,.pointer (some ⟨b6,0,none⟩)),(7,.pointer (some ⟨b7,0,none⟩))]) (fun k ys zs=>(b57,rowS boolE zs [])::(b54,rowS u64E ys [])::(b33,rowS intE ((List.range n).map fun v=>((outN es v:Nat):Int)) [])::(b7,cellsO [.slice pa n ca,.slice pb n cb] 84)::(b6,cellsO [.slice none 0 0,.slice none 0 0] 84)::(b5,cellsO [.slice pv n cv,.slice pl n cl] 84)::(b4,cellsO [.int .i64 (n:Int),.slice pe es.length ce] 27)::(b3,cellsO (prC p) 24)::(s1++s2)) (fun k ys zs=>es.length-k) 0 (List.replicate n 0) (List.replicate n false) ⟨Nat.zero_le _,by simp,by simp,fun j hj=>by rw [rep_at n j 0 hj];rfl,fun j hj=>by rw [rep_at n j false hj];rfl⟩ (.cons rfl (.cons rfl (.cons rfl (.cons rfl (.cons rfl (.cons rfl (.cons rfl (.cons rfl (.cons rfl .nil))))))))) pulled ?_
       rintro k ys zs ⟨hk,hyl,hzl,hys,hzs⟩
       refine wj<|sj [.p,.p,.r,.p,.p] Z<|mj Z<|fj Z<|lj Z Z<|uj Z (Pv.lenS Z)<|uj Z (Pv.lss Z Z)<|nl<|cj Z (fun h62=>?_) (fun h62=>?_)
       · simp only [dt] at h62
         have hk1:k<es.length:=by omega
         obtain ⟨be,oe,ce',e,_⟩:=he.block (by omega)
         cases e
         have hem:=hg es[k]! (by rw [getElem!_pos es k hk1];exact List.getElem_mem _)
         have htk:=fun j=>tot_take (p:=p) (es:=es) (all:=es) (c:=c) hk1 j
         obtain ⟨m1,hm1⟩:∃m1,m1=msg1 p es c es[k]! := ⟨_,rfl⟩
         obtain ⟨bv,ov,cv',e,_⟩:=hva.block (by rw [hvl];omega)
         simp only [Value.slice.injEq] at e
         obtain ⟨rfl,_,rfl⟩:=e
         have hprev:∀r∈(es.take k).filterMap (msg1 p es c),InU r.val:=msgs_in hi fun e h=>hg e (List.mem_of_mem_take h)
         refine kj<|wj<|bj<|sj [.p,.r,.p,.p,.r,.e,.e] Z<|fj Z<|lj Z Z<|mj Z<|uj Z (Pv.ixA (k) rfl rfl (by omega) (by omega))<|rj Z (Ev.as (egV es[k]!) (Ev.ldS (E:=edgeE) k he.src Z Z Z hk1) Z) ?_
         refine Rg.alloc Z Z Z Z (fun b14=>?_)
         refine Rg.storeA Z Z Z Z Z Z Z Z<|nl<|sj [.r,.r,.p,.r,.p,.e,.p] Z<|rj Z (Ev.ldA Z Z)<|rj Z (Ev.ldA Z Z)<|fj Z<|lj Z Z<|uj Z (Pv.asI es[k]!.f (Pv.convI rfl) (i64_wrap (by have:=hem.2.2.1;omega))) ?_
         refine Rg.callP Z Z Z (mz Z) (sends_spec (hc0.mono fun b o h=>Or.inr h) es[k]!.f (by omega)) ?_
         rintro _ rfl
         refine aj Z<|nl<|wj<|sj [.p,.p] Z<|mj Z<|uj Z (Pv.not Z)<|nl<|cj Z (fun h77=>?_) (fun h77=>?_)
         · have hsn:sendsP p c es[k]!.f=false:=by simpa using h77
           have hmn:msg1 p es c es[k]! = none:=by rw [msg1,hsn];rfl
           refine Vc.exit Z<|tj [.p,.p,.p] Z<|mj Z<|uj Z (Pv.asI (k+1) (Pv.add rfl rfl (by omega)) (by omega))<|aj Z<|nl ?_
           exact Vc.inv3 (k+1) ys zs ⟨⟨by omega,hyl,hzl,fun j hj=>by rw [htk,hmn];exact hys j hj,fun j hj=>by rw [htk,hmn];exact hzs j hj⟩,by omega⟩ (.cons rfl (.cons rfl (.cons rfl (.cons rfl (.cons rfl (.cons rfl (.cons rfl (.cons rfl (.cons rfl .nil))))))))) pulled
         · have hsn:sendsP p c es[k]!.f=true:=by simpa using h77
           obtain ⟨m,hm⟩:∃m,m=msgP p c.vals[es[k]!.f]! (outN es es[k]!.f:Nat) (es[k]!.w:Int):=⟨_,rfl⟩
           have hms:msg1 p es c es[k]! = some ⟨(es[k]!.t:Int),m⟩:=by rw [msg1,hsn,hm];rfl
           have hov:=outN_le es es[k]!.f
           have hmu:InU m:=by rw [hm];exact msgP_in (hin _ hem.1) ⟨by omega,by have:=hem.2.2.2.2;omega⟩ (by omega)
           obtain ⟨o,ho⟩:∃o,o=tot (howP p) (es[k]!.t:Int) ((es.take k).filterMap (msg1 p es c)):=⟨_,rfl⟩
           have hyt:=hys es[k]!.t hem.2.1
           have hzt:=hzs es[k]!.t hem.2.1
           rw [←ho] at hyt hzt
           have hou:∀x,o=some x→InU x:=fun x h=>tot_in hprev x (by rw [←ho];exact h)
           refine kj<|wj ?_
           refine Vc.draw [] (sd [(0,.read),(1,.pure),(2,.read),(3,.pure),(4,.read),(5,.pure),(6,.read),(7,.pure),(8,.pure),(9,.read),(10,.pure),(11,.read),(12,.pure),(13,.read),(14,.eff),(15,.pure)]) mixed (by kernel_rfl)<|rj Z (Ev.ldA Z Z)<|fj Z<|lj Z Z<|fj Z<|lj Z Z<|uj Z (Pv.ixK es[k]!.f rfl rfl rfl (by omega))<|rj Z (Ev.as (.int .u64 c.vals[es[k]!.f]!) (Ev.ldS (E:=u64E) es[k]!.f hva.src rfl rfl rfl (by rw [hvl];exact hem.1)) rfl)<|mj Z<|fj Z<|lj Z Z<|uj Z (Pv.ixK es[k]!.f rfl rfl rfl (by omega))<|rj Z (Ev.as (.int .i64 ((outN es es[k]!.f:Nat):Int)) (Ev.ldR es[k]!.f rfl (Nat.zero_add _) (by rw [List.length_map,List.length_range];exact hem.1)) (congrArg (Value.int .i64) (by rw [getElem!_pos _ _ (by rw [List.length_map,List.length_range];exact hem.1),List.getElem_map,List.getElem_range])))<|fj Z<|lj Z Z ?_
           refine Rg.callP Z Z Z (mz Z) (rmsg_spec c.vals[es[k]!.f]! (hin _ hem.1) ((outN es es[k]!.f:Nat):Int) ⟨by omega,by omega⟩ es[k]!.w hem.2.2.2.2) ?_
           rintro _ rfl
           rw [←hm]
           refine aj Z<|nl<|wj<|sj [.p,.p,.r,.p,.r] Z<|mj Z<|fj Z<|lj Z Z<|uj Z (Pv.ixK es[k]!.t rfl rfl rfl (by omega))<|rj Z (Ev.as (.bool o.isSome) (Ev.ldR es[k]!.t rfl (Nat.zero_add _) (by omega)) (congrArg Value.bool hzt))<|nl<|Vc.cut1 (fun (z:Int)=>addO (howP p) o m=some z∧InU z) (fun z=>[(14,.pointer (some ⟨b14,0,none⟩)),(16,.int .u64 z),(13,.int .i64 (k:Int)),(11,.slice (some ⟨b54,0,none⟩) n n),(12,.slice (some ⟨b57,0,none⟩) n n),(9,.slice (some ⟨b33,0,none⟩) n n),(3,.pointer (some ⟨b3,0,none⟩)),(4,.pointer (some ⟨b4,0,none⟩)),(5,.pointer (some ⟨b5,0,none⟩)),(6,.pointer (some ⟨b6,0,none⟩)),(7,.pointer (some ⟨b7,0,none⟩))]) (fun z=>(b14,cellsO (egC es[k]!) 79)::(b57,rowS boolE zs [])::(b54,rowS u64E ys [])::(b33,rowS intE ((List.range n).map fun v=>((outN es v:Nat):Int)) [])::(b7,cellsO [.slice pa n ca,.slice pb n cb] 84)::(b6,cellsO [.slice none 0 0,.slice none 0 0] 84)::(b5,cellsO [.slice (some ⟨bv,ov,none⟩) n cv,.slice pl n cl] 84)::(b4,cellsO [.int .i64 (n:Int),.slice (some ⟨be,oe,none⟩) es.length ce] 27)::(b3,cellsO (prC p) 24)::(s1++s2)) ?_ ?_
           · refine cj Z (fun h97=>?_) (fun h97=>?_)
             · obtain ⟨x,hx⟩:=Option.isSome_iff_exists.1 h97
               have hxu:=hou x hx
               rw [hx] at hyt
               simp only [Option.getD_some] at hyt
               refine Vc.draw [] (sd [(0,.read),(2,.pure),(3,.pure),(4,.read),(5,.pure),(6,.read),(7,.pure),(1,.eff),(8,.eff),(9,.pure)]) mixed (by kernel_rfl)<|rj Z (Ev.ldA Z Z)<|mj Z<|fj Z<|lj Z Z<|uj Z (Pv.ixK es[k]!.t rfl rfl rfl (by omega))<|rj Z (Ev.as (.int .u64 x) (Ev.ldR es[k]!.t rfl (Nat.zero_add _) (by omega)) (congrArg (Value.int .u64) hyt))<|mj Z ?_
               refine Rg.callP Z Z Z (mz Z) (rhow_spec) ?_
               rintro _ rfl
               refine Rg.callP Z Z Z (mz Z) (rcombine_spec _ (howP p) x m hxu hmu) ?_
               rintro _ rfl
               refine aj Z<|nl ?_
               exact Vc.inv1 _ ⟨by rw [hx];rfl,comb_in hxu hmu⟩ (.cons rfl (.cons rfl (.cons rfl (.cons rfl (.cons rfl (.cons rfl (.cons rfl (.cons rfl (.cons rfl (.cons rfl (.cons rfl .nil))))))))))) pulled
             · have hx:o=none:=by simpa using h97
               refine kj ?_
               exact Vc.inv1 _ ⟨by rw [hx];rfl,hmu⟩ (.cons rfl (.cons rfl (.cons rfl (.cons rfl (.cons rfl (.cons rfl (.cons rfl (.cons rfl (.cons rfl (.cons rfl (.cons rfl .nil))))))))))) pulled
           · rintro z ⟨hz,hzu⟩
             refine sj [.p,.p,.r,.p,.e] Z<|mj Z<|fj Z<|lj Z Z<|uj Z (Pv.ixK es[k]!.t rfl rfl rfl (by omega)) ?_
             refine Rg.storeR (E:=boolE) (z:=true) es[k]!.t rfl rfl rfl rfl rfl rfl (Nat.zero_add _) (by omega) rfl<|nl<|tj [.p,.p,.r,.p,.p,.e] Z<|mj Z<|fj Z<|lj Z Z<|mj Z<|uj Z (Pv.ixK es[k]!.t rfl rfl rfl (by omega)) ?_
             refine Rg.storeR (E:=u64E) (z:=z) es[k]!.t rfl rfl rfl rfl rfl rfl (Nat.zero_add _) (by omega) rfl<|nl<|dj<|tj [.p,.p,.p] Z<|mj Z<|uj Z (Pv.asI (k+1) (Pv.add rfl rfl (by omega)) (by omega))<|aj Z<|nl ?_
             exact Vc.inv3 (k+1) (ys.set es[k]!.t z) (zs.set es[k]!.t true) ⟨⟨by omega,by rw [List.length_set,hyl],by rw [List.length_set,hzl],fun j hj=>by
              rw [get_set2 ys _ j _ (by omega),htk,hms]
              by_cases e:es[k]!.t=j
              · subst e;rw [if_pos rfl];simp only [if_true];rw [←ho,hz];rfl
              · rw [if_neg e];simp only;rw [if_neg (by omega)];exact hys j hj,fun j hj=>by
              rw [get_set2 zs _ j _ (by omega),htk,hms]
              by_cases e:es[k]!.t=j
              · subst e;rw [if_pos rfl];simp only [if_true];rw [←ho,hz];rfl
              · rw [if_neg e];simp only;rw [if_neg (by omega)];exact hzs j hj⟩,by omega⟩ (.cons rfl (.cons rfl (.cons rfl (.cons rfl (.cons rfl (.cons rfl (.cons rfl (.cons rfl (.cons rfl .nil))))))))) pulled
       · simp only [df] at h62
         rw [show k=es.length by omega,List.take_length] at hys hzs
         refine Vc.exit Z<|wj<|sj [.p] Z<|aj Z<|nl<|bj ?_
         refine Vc.loop5 (fun (k:Nat) (xs:List Int) (ws:List Bool) (q1 q2:Hl)=>k≤n∧xs.length=n∧ws.length=n∧(Own u64E (.slice pa n ca) xs q1∧Own boolE (.slice pb n cb) ws q2)∧(∀j,j<k→xs[j]! = (sv j).1)∧∀j,j<k→ws[j]! = (sv j).2) (fun k xs ws q1 q2=>[(17,.int .i64 (k:Int)),(11,.slice (some ⟨b54,0,none⟩) n n),(12,.slice (some ⟨b57,0,none⟩) n n),(9,.slice (some ⟨b33,0,none⟩) n n),(3,.pointer (some ⟨b3,0,none⟩)),(4,.pointer (some ⟨b4,0,none⟩)),(5,.pointer (some ⟨b5,0,none⟩)),(6,.pointer (some ⟨b6,0,none⟩)),(7,.pointer (some ⟨b7,0,none⟩))]) (fun k xs ws q1 q2=>(b57,rowS boolE zs [])::(b54,rowS u64E ys [])::(b7,cellsO [.slice pa n ca,.slice pb n cb] 84)::(b6,cellsO [.slice none 0 0,.slice none 0 0] 84)::(b5,cellsO [.slice pv n cv,.slice pl n cl] 84)::(b4,cellsO [.int .i64 (n:Int),.slice pe es.length ce] 27)::(b3,cellsO (prC p) 24)::(q1++q2)) (fun k xs ws q1 q2=>n-k) 0 c.vals c.live s1 s2 ⟨Nat.zero_le _,hvl,hll,⟨o1,o2⟩,fun j hj=>by omega,fun j hj=>by omega⟩ (.cons rfl (.cons rfl (.cons rfl (.cons rfl (.cons rfl (.cons rfl (.cons rfl (.cons rfl (.cons rfl .nil))))))))) pulled ?_
         rintro k2 xs ws q1 q2 ⟨hk2,hxl,hwl,⟨p1,p2⟩,hxs,hws⟩
         refine wj<|sj [.p,.p,.r,.p] Z<|mj Z<|fj Z<|lj Z Z<|uj Z (Pv.lss Z Z)<|nl<|cj Z (fun h119=>?_) (fun h119=>?_)
         · simp only [dt] at h119
           have hkn:k2<n:=by omega
           obtain ⟨bx,cx,spx,e,rfl,hcapx,hcmx⟩:=p1.block (by omega)
           simp only [Value.slice.injEq] at e
           obtain ⟨rfl,_,rfl⟩:=e
           obtain ⟨bw,cw,spw,e,rfl,hcapw,hcmw⟩:=p2.block (by omega)
           simp only [Value.slice.injEq] at e
           obtain ⟨rfl,_,rfl⟩:=e
           obtain ⟨bv,ov,cv',e,_⟩:=hva.block (by rw [hvl];omega)
           simp only [Value.slice.injEq] at e
           obtain ⟨rfl,_,rfl⟩:=e
           obtain ⟨o,ho⟩:∃o,o=tot (howP p) (k2:Int) (msgsC p es c):=⟨_,rfl⟩
           have hyt:ys[k2]! = o.getD 0:=by rw [ho];exact hys k2 hkn
           have hzt:zs[k2]! = o.isSome:=by rw [ho];exact hzs k2 hkn
           have hou:∀x,o=some x→InU x:=fun x h=>tot_in (msgs_in hi hg) x (by rw [←h,ho];rfl)
           have hou0:InU (o.getD 0):=by
            cases h:o with
            | none=>exact ⟨Int.le_refl _,by decide⟩
            | some x=>exact hou x h
           have hon:(if o.isSome=true then some (o.getD 0) else none)=o:=by cases o<;>rfl
           have hsvk:sv k2=nextP p c.vals[k2]! o:=by rw [hsv,ho]
           refine kj<|wj<|bj ?_
           refine Vc.drawS [27] (sd [(0,.pure),(1,.read),(2,.pure),(3,.pure),(4,.read),(5,.pure),(6,.read),(7,.pure),(8,.read),(9,.pure),(10,.pure),(11,.read),(12,.pure),(13,.pure),(14,.pure),(15,.read),(16,.pure),(17,.pure),(18,.pure),(19,.read),(20,.eff),(21,.pure),(22,.pure),(23,.pure),(24,.pure),(25,.eff),(26,.pure),(27,.eff)]) [(b7,cellsO [.slice (some ⟨bx,0,none⟩) n ca,.slice (some ⟨bw,0,none⟩) n cb] 84),(b3,cellsO (prC p) 24),(b5,cellsO [.slice (some ⟨bv,ov,none⟩) n cv,.slice pl n cl] 84),(b54,rowS u64E ys []),(b57,rowS boolE zs [])] pulled mixed (by kernel_rfl)<|fj Z<|lj Z Z<|mj Z<|fj Z<|lj Z Z<|mj Z<|rj Z (Ev.ldA Z Z)<|fj Z<|lj Z Z<|mj Z<|uj Z (Pv.ixA (k2) rfl rfl (by omega) (by omega))<|rj Z (Ev.as (.int .u64 c.vals[k2]!) (Ev.ldS (E:=u64E) k2 hva.src rfl rfl rfl (by rw [hvl];exact hkn)) rfl)<|mj Z<|mj Z ?_
           refine uj Z (Pv.ixA (k2) rfl rfl (by omega) (by omega))<|rj Z (Ev.as (.int .u64 (o.getD 0)) (Ev.ldR k2 rfl (Nat.zero_add _) (by omega)) (congrArg (Value.int .u64) hyt))<|mj Z<|mj Z<|uj Z (Pv.ixA (k2) rfl rfl (by omega) (by omega))<|rj Z (Ev.as (.bool o.isSome) (Ev.ldR k2 rfl (Nat.zero_add _) (by omega)) (congrArg Value.bool hzt))<|Rg.callPN Z Z Z (mz Z) (rnext_spec c.vals[k2]! (hin k2 hkn) (o.getD 0) hou0 o.isSome) ?_
           rintro _ rfl
           rw [hon,←hsvk]
           refine mj Z<|xj Z Z<|xj Z Z<|uj Z (Pv.ixA (k2) rfl rfl (by omega) (by omega))<|Rg.storeRN (E:=u64E) (z:=(sv k2).1) k2 rfl rfl rfl rfl rfl rfl (Nat.zero_add _) (by omega)<|uj Z (Pv.ixA (k2) rfl rfl (by omega) (by omega))<|Rg.storeR (E:=boolE) (z:=(sv k2).2) k2 rfl rfl rfl rfl rfl rfl (Nat.zero_add _) (by omega) rfl<|nl<|dj<|tj [.p,.p,.p] Z<|mj Z<|uj Z (Pv.asI (k2+1) (Pv.add rfl rfl (by omega)) (by omega))<|aj Z<|nl ?_
           exact Vc.inv5 (k2+1) (xs.set k2 (sv k2).1) (ws.set k2 (sv k2).2) [(bx,rowS u64E (xs.set k2 (sv k2).1) spx)] [(bw,rowS boolE (ws.set k2 (sv k2).2) spw)] ⟨⟨by omega,by rw [List.length_set,hxl],by rw [List.length_set,hwl],⟨Own.blk' bx ca n _ spx (by rw [List.length_set,hxl]) (by rw [←hxl];exact hcapx) hcmx,Own.blk' bw cb n _ spw (by rw [List.length_set,hwl]) (by rw [←hwl];exact hcapw) hcmw⟩,fun j hj=>by
            rw [get_set2 xs _ j _ (by omega)]
            by_cases e:k2=j
            · rw [if_pos e,e]
            · rw [if_neg e];exact hxs j (by omega),fun j hj=>by
            rw [get_set2 ws _ j _ (by omega)]
            by_cases e:k2=j
            · rw [if_pos e,e]
            · rw [if_neg e];exact hws j (by omega)⟩,by omega⟩ (.cons rfl (.cons rfl (.cons rfl (.cons rfl (.cons rfl (.cons rfl (.cons rfl (.cons rfl (.cons rfl .nil))))))))) pulled
         · simp only [df] at h119
           obtain rfl:k2=n:=by omega
           have hX:=list_of hxl hxs
           have hW:=list_of hwl hws
           refine Vc.exit Z<|sj [.r,.e] Z<|rj Z (Ev.ldA Z Z)<|Rg.storeA Z Z Z Z Z Z Z Z<|nl ?_
           exact vr (hl':=q1++q2) rfl (.cons (.cellA rfl rfl) .nil) (by rw [hq];exact ⟨_,_,q1,q2,rfl,by rw [←hX];exact p1,by rw [←hW];exact p2,rfl⟩) pulled
end
def kW (z:Int):Value:=.int .u32 z
instance : KeyTy Tryz.prog 22 kW:=KeyTy.of ⟨.int .u32,Tryz.underlying22,fun _=>rfl⟩ (fun a b h=>by simpa [kW] using h)
section
variable {κ : Type} [DecidableEq κ]
theorem updM_keys {ms:List (Me κ)} {k:κ} {v:Value} {c:Nat} (h:(ms.map (·.k)).Nodup):((updM ms k v c).map (·.k)).Nodup:=by
 unfold updM
 split
 · have hk:(ms.map fun m=>if m.k=k then (⟨m.k,v,m.born⟩:Me κ) else m).map (·.k)=ms.map (·.k):=by
    rw [List.map_map];refine List.map_congr_left fun m _=>?_
    simp only [Function.comp];split<;>rfl
   rw [hk];exact h
 · rename_i hs
   have hno:findM ms k=none:=by cases hf:findM ms k with | none=>rfl | some m=>rw [hf] at hs;exact absurd rfl hs
   rw [List.map_append,List.nodup_append]
   exact ⟨h,by simp,fun a ha b hb=>by
    simp at hb
    subst hb
    obtain ⟨x,hx,rfl⟩:=List.mem_map.1 ha
    exact findM_none.1 hno x hx⟩
theorem findM_map (ms:List (Me κ)) (k j:κ) (v:Value):(findM (ms.map fun m=>if m.k=k then (⟨m.k,v,m.born⟩:Me κ) else m) j).map (·.v)=if j=k then (findM ms j).map (fun _=>v) else (findM ms j).map (·.v):=by
 unfold findM
 induction ms with
 | nil=>simp
 | cons m ms ih =>
  rw [List.map_cons,List.find?_cons,List.find?_cons]
  by_cases e:m.k=k
  · rw [if_pos e]
    by_cases ej:m.k=j
    · simp only [ej,decide_true,Option.map_some]
      rw [if_pos (by rw [←ej,e])]
    · simp only [decide_eq_false ej]
      exact ih
  · rw [if_neg e]
    by_cases ej:m.k=j
    · simp only [ej,decide_true,Option.map_some]
      rw [if_neg (fun h=>e (by rw [ej,h]))]
    · simp only [decide_eq_false ej]
      exact ih
theorem findM_upd (ms:List (Me κ)) (k j:κ) (v:Value) (c:Nat):(findM (updM ms k v c) j).map (·.v)=if j=k then some v else (findM ms j).map (·.v):=by
 unfold updM
 split
 · rename_i hs
   rw [findM_map]
   by_cases e:j=k
   · rw [if_pos e,if_pos e,e]
     cases hf:findM ms k with
     | none=>rw [hf] at hs;cases hs
     | some m=>rfl
   · rw [if_neg e,if_neg e]
 · rename_i hs
   have hno:findM ms k=none:=by cases hf:findM ms k with | none=>rfl | some m=>rw [hf] at hs;exact absurd rfl hs
   unfold findM at hno ⊢
   rw [List.find?_append]
   by_cases e:j=k
   · rw [if_pos e,e,hno];simp
   · rw [if_neg e]
     have e' : ¬k=j:=fun h=>e h.symm
     cases hf:List.find? (fun m:Me κ=>decide (m.k=j)) ms<;>simp [e']
end
section
variable {F : Fm} {bb db B : Nat} {C : Cx} {D : Dk} {s1 s2 : Hl} {now msgs : List Rc} {fs : List (List Rc)} {p : Prg} {c : Cf} {n : Nat}
theorem howP_or (p:Prg):howP p=1∨howP p=2:=by unfold howP;split<;>simp
structure SnS where
 now:List Rc
 fs:List (List Rc)
 D:Dk
 h1:Hl
 h2:Hl
set_option maxHeartbeats 8000000 in
theorem stSends_z (hC:C.Ok) (hB:1≤B) (hS:BoxAt bb db B (howP p) now fs.length s1) (hI:BoxI (howP p) D now fs msgs) {a b we:Value} (hc:CfA F a b c) (hic:InC c n) (hq:quietC c=false) {W:List Eg} (hW:Arg edgeE F we W) (hG:InG n W) (hl:msgs.length+W.length<49) (hcap:16*(msgs.length+W.length)+6≤C.cap) (hk:∀k,1≤k→k≤msgs.length+W.length→boxN k∈C.S) (hD:DiskAt db D s2) (hw:Wz C D) (hup:D.down=false) :
 Spec Tryz.prog 240 #[.pointer (some ⟨bb,0,none⟩),prV p,cfV a b,we] F (s1++s2) fun v s'=>∃e D' h1 h2,v=.int .i64 e∧s'=h1++h2∧DiskAt db D' h2∧(∃now' nx',BoxAt bb db B (howP p) now' nx' h1)∧Out C BoxT (fun D'=>∃now' fs',BoxAt bb db B (howP p) now' fs'.length h1∧BoxI (howP p) D' now' fs' (msgs++W.filterMap (msg1 p W c))) D 0 e D':=by
 obtain ⟨pw,cw,rfl⟩:=hW.shape
 obtain ⟨pv,cv,e1⟩:=hc.va.shape
 obtain ⟨pl,cl,e2⟩:=hc.la.shape
 subst e1;subst e2
 have hva:=hc.va
 have hla:=hc.la
 obtain ⟨hvl,hll,hfew,hin⟩:=hic
 have hic:InC c n:=⟨hvl,hll,hfew,hin⟩
 rw [hvl] at hva ⊢
 rw [hll] at hla ⊢
 refine Spec.of (n:=75) (vs:=[.pointer (some ⟨bb,0,none⟩),prV p,cfV (.slice pv n cv) (.slice pl n cl),.slice pw W.length cw]) Tryz.func240 rfl Tryz.ntmps240 rfl ?_
 refine sj [.e,.e,.p] Z<|Rg.box Z Z Z Z Z (fun b5=>?_)
 refine Rg.box Z Z Z Z Z (fun b6=>?_)
 refine aj Z<|nl<|sj [.e,.p] Z<|Rg.makeMap kW Z Z Z (fun b17=>?_)
 refine aj Z<|nl<|wj<|sj [.p,.p,.p] Z<|mj Z<|uj Z (Pv.lenS Z)<|mj Z<|nl<|bj ?_
 refine Vc.loop3 (fun (k:Nat) (ms:List (Me Int)) (mc:Nat)=>k≤W.length∧(ms.map (·.k)).Nodup∧∀j:Nat,(((findM ms (j:Int)).map (·.v)).getD (.int .i64 0))=.int .i64 ((outN (W.take k) j:Nat):Int)) (fun k ms mc=>[(18,.slice pw W.length cw),(19,.int .i64 (W.length:Int)),(20,.int .i64 (k:Int)),(0,.pointer (some ⟨bb,0,none⟩)),(3,.slice pw W.length cw),(5,.pointer (some ⟨b5,0,none⟩)),(6,.pointer (some ⟨b6,0,none⟩)),(9,.map (some b17))]) (fun k ms mc=>(b17,mapO kW ms mc)::(b5,cellsO (prC p) 24)::(b6,cellsO [.slice pv n cv,.slice pl n cl] 84)::(s1++s2)) (fun k ms mc=>W.length-k) 0 [] 0 ⟨Nat.zero_le _,.nil,fun j=>Z⟩ (.cons Z (.cons Z (.cons Z (.cons Z (.cons Z (.cons Z (.cons Z (.cons Z .nil)))))))) pulled ?_
 rintro k ms mc ⟨hk1,hnd,hcn⟩
 refine sj [.p] Z<|uj Z (Pv.lss Z Z)<|nl<|wj<|cj Z (fun h21=>?_) (fun h21=>?_)
 · simp only [dt] at h21
   have hk2:k<W.length:=by omega
   obtain ⟨be,oe,ce',e,_⟩:=hW.block (by omega)
   simp only [Value.slice.injEq] at e
   obtain ⟨rfl,_,rfl⟩:=e
   have htk:W.take (k+1)=W.take k++[W[k]!]:=by rw [List.take_succ_eq_append_getElem hk2,getElem!_pos W k hk2]
   have hol:=outN_le (W.take k) W[k]!.f
   rw [List.length_take] at hol
   refine kj<|wj<|bj<|sj [.p,.r,.e,.e] Z<|uj Z (Pv.ixA (k) rfl rfl (by omega) (by omega))<|rj Z (Ev.as (egV W[k]!) (Ev.ldS (E:=edgeE) k hW.src Z Z Z hk2) Z)<|Rg.alloc Z Z Z Z (fun b11=>?_)
   refine Rg.storeA Z Z Z Z Z Z Z Z<|nl<|tj [.p,.p,.r,.r,.p,.e] Z<|mj Z<|fj Z<|lj Z Z<|rj Z (Ev.as (.int .i64 ((outN (W.take k) W[k]!.f:Nat):Int)) (Ev.lookup (kv:=kW) (k:=(W[k]!.f:Int)) Z Z hnd) (hcn _))<|uj Z (Pv.asI (outN (W.take k) W[k]!.f+1) (Pv.add rfl rfl (by omega)) (by omega)) ?_
   refine Rg.mapUpd (kv:=kW) (dk:=.int .u32) (k:=(W[k]!.f:Int)) (v:=.int .i64 ((outN (W.take k) W[k]!.f+1:Nat):Int)) Z Z Z Z Z Z Z hnd Z<|nl<|dj<|tj [.p,.p] Z<|uj Z (Pv.asI (k+1) (Pv.add rfl rfl (by omega)) (by omega))<|mj Z<|nl ?_
   exact Vc.inv3 (k+1) (updM ms (W[k]!.f:Int) (.int .i64 ((outN (W.take k) W[k]!.f+1:Nat):Int)) mc) (updC ms (W[k]!.f:Int) mc) ⟨⟨by omega,updM_keys hnd,fun j=>by
    rw [findM_upd,htk,outN_snoc]
    by_cases e:W[k]!.f=j
    · rw [if_pos (by rw [e]),if_pos e,e];rfl
    · rw [if_neg (by omega),if_neg e,hcn j];rfl⟩,by omega⟩ (.cons rfl (.cons rfl (.cons rfl (.cons rfl (.cons rfl (.cons rfl (.cons rfl (.cons rfl .nil)))))))) pulled
 · simp only [df] at h21
   rw [show k=W.length by omega,List.take_length] at hcn
   refine Vc.exit Z<|sj [.p,.r,.p,.p] Z<|fj Z<|lj Z Z<|uj Z (Pv.eql Z Z)<|aj Z<|nl<|wj<|sj [.p,.p,.p] Z<|mj Z<|uj Z (Pv.lenS Z)<|mj Z<|nl<|bj ?_
   refine Vc.loop2 (fun (k:Nat) (R:SnS)=>k≤W.length∧BoxAt bb db B (howP p) R.now R.fs.length R.h1∧BoxI (howP p) R.D R.now R.fs (msgs++(W.take k).filterMap (msg1 p W c))∧DiskAt db R.D R.h2∧Wz C R.D∧Gd BoxT D R.D) (fun k R=>[(12,.bool (p.kind==4)),(33,.slice pw W.length cw),(34,.int .i64 (W.length:Int)),(35,.int .i64 (k:Int)),(0,.pointer (some ⟨bb,0,none⟩)),(3,.slice pw W.length cw),(5,.pointer (some ⟨b5,0,none⟩)),(6,.pointer (some ⟨b6,0,none⟩)),(9,.map (some b17))]) (fun k R=>(b17,mapO kW ms mc)::(b5,cellsO (prC p) 24)::(b6,cellsO [.slice pv n cv,.slice pl n cl] 84)::(R.h1++R.h2)) (fun k R=>W.length-k) 0 (⟨now,fs,D,s1,s2⟩:SnS) ⟨Nat.zero_le _,hS,by rw [List.take_zero,List.filterMap_nil,List.append_nil];exact hI,hD,hw,.refl hup⟩ (.cons rfl (.cons rfl (.cons rfl (.cons rfl (.cons rfl (.cons rfl (.cons rfl (.cons rfl (.cons rfl .nil))))))))) pulled ?_
   clear hS hI hD hw
   rintro k R ⟨hk1,hS,hI,hD,hw,hG1⟩
   have hfl:=List.length_filterMap_le (msg1 p W c) (W.take k)
   rw [List.length_take] at hfl
   refine sj [.p] Z<|uj Z (Pv.lss Z Z)<|nl<|wj<|cj Z (fun h36=>?_) (fun h36=>?_)
   · simp only [dt] at h36
     have hk2:k<W.length:=by omega
     obtain ⟨be,oe,ce',e,_⟩:=hW.block (by omega)
     simp only [Value.slice.injEq] at e
     obtain ⟨rfl,_,rfl⟩:=e
     have htk:W.take (k+1)=W.take k++[W[k]!]:=by rw [List.take_succ_eq_append_getElem hk2,getElem!_pos W k hk2]
     have hem:=hG W[k]! (by rw [getElem!_pos W k hk2];exact List.getElem_mem _)
     obtain ⟨bv,ov,cv',e,_⟩:=hva.block (by rw [hvl];omega)
     simp only [Value.slice.injEq] at e
     obtain ⟨rfl,_,rfl⟩:=e
     obtain ⟨bL,oL,cL',e,_⟩:=hla.block (by rw [hll];omega)
     simp only [Value.slice.injEq] at e
     obtain ⟨rfl,_,rfl⟩:=e
     have hfm:(W.take (k+1)).filterMap (msg1 p W c)=(W.take k).filterMap (msg1 p W c)++(match msg1 p W c W[k]! with | some r=>[r] | none=>[]):=by
      rw [htk,List.filterMap_append]
      congr 1
      cases hmm:msg1 p W c W[k]! <;> simp only [List.filterMap_cons,hmm,List.filterMap_nil]
     refine kj<|wj<|bj<|sj [.p,.r,.e,.e] Z<|uj Z (Pv.ixA (k) rfl rfl (by omega) (by omega))<|rj Z (Ev.as (egV W[k]!) (Ev.ldS (E:=edgeE) k hW.src Z Z Z hk2) Z)<|Rg.alloc Z Z Z Z (fun b14=>?_)
     refine Rg.storeA Z Z Z Z Z Z Z Z<|nl<|wj<|wj<|Vc.cut1 (fun (bl:Bool)=>bl = !sendsP p c W[k]!.f) (fun bl=>[(49,.bool bl),(14,.pointer (some ⟨b14,0,none⟩)),(12,.bool (p.kind==4)),(33,.slice (some ⟨be,oe,none⟩) W.length cw),(34,.int .i64 (W.length:Int)),(35,.int .i64 (k:Int)),(0,.pointer (some ⟨bb,0,none⟩)),(3,.slice (some ⟨be,oe,none⟩) W.length cw),(5,.pointer (some ⟨b5,0,none⟩)),(6,.pointer (some ⟨b6,0,none⟩)),(9,.map (some b17))]) (fun bl=>(b14,cellsO (egC W[k]!) 79)::(b17,mapO kW ms mc)::(b5,cellsO (prC p) 24)::(b6,cellsO [.slice (some ⟨bv,ov,none⟩) n cv,.slice (some ⟨bL,oL,none⟩) n cl] 84)::(R.h1++R.h2)) ?_ ?_
     · refine tj [.p,.p,.p,.p,.r,.p,.r,.p,.r,.p,.p] Z<|mj Z<|uj Z (Pv.not Z)<|mj Z<|Rg.split (t:=41) Z (fun h41=>?_) (fun h41=>?_)
       · have hk4 : ¬p.kind=4:=by simpa using h41
         refine fj Z<|lj Z Z<|fj Z<|lj Z Z<|uj Z (Pv.ixK W[k]!.f rfl rfl rfl (by omega))<|rj Z (Ev.as (.bool c.live[W[k]!.f]!) (Ev.ldS (E:=boolE) W[k]!.f hla.src rfl rfl rfl (by rw [hll];exact hem.1)) rfl)<|uj Z (Pv.not Z)<|qj Z Z<|nl ?_
         exact Vc.inv1 (!c.live[W[k]!.f]!) (by rw [sendsP,if_neg hk4]) (.cons rfl (.cons rfl (.cons rfl (.cons rfl (.cons rfl (.cons rfl (.cons rfl (.cons rfl (.cons rfl (.cons rfl (.cons rfl .nil))))))))))) pulled
       · have hk4:p.kind=4:=by simpa using h41
         iterate 7 (first | refine Rg.skipP rfl rfl rfl ?_ | refine Rg.skipR rfl rfl rfl ?_ | refine Rg.skipE rfl rfl rfl ?_)
         refine pj Z Z<|nl ?_
         exact Vc.inv1 false (by rw [sendsP,if_pos hk4,hq];rfl) (.cons rfl (.cons rfl (.cons rfl (.cons rfl (.cons rfl (.cons rfl (.cons rfl (.cons rfl (.cons rfl (.cons rfl (.cons rfl .nil))))))))))) pulled
     · rintro bl hbl
       refine cj Z (fun h49=>?_) (fun h49=>?_)
       · have hsn:sendsP p c W[k]!.f=false:=by rw [h49] at hbl;simpa using hbl.symm
         have hmn:msg1 p W c W[k]! = none:=by rw [msg1,hsn];rfl
         rw [hmn] at hfm
         simp only [List.append_nil] at hfm
         refine Vc.exit Z<|tj [.p,.p] Z<|uj Z (Pv.asI (k+1) (Pv.add rfl rfl (by omega)) (by omega))<|mj Z<|nl ?_
         exact Vc.inv2 (k+1) R ⟨⟨by omega,hS,by rw [hfm];exact hI,hD,hw,hG1⟩,by omega⟩ (.cons rfl (.cons rfl (.cons rfl (.cons rfl (.cons rfl (.cons rfl (.cons rfl (.cons rfl (.cons rfl .nil))))))))) pulled
       · have hsn:sendsP p c W[k]!.f=true:=by rw [h49] at hbl;simpa using hbl.symm
         obtain ⟨m,hm⟩:∃m,m=msgP p c.vals[W[k]!.f]! (outN W W[k]!.f:Nat) (W[k]!.w:Int):=⟨_,rfl⟩
         have hms:msg1 p W c W[k]! = some ⟨(W[k]!.t:Int),m⟩:=by rw [msg1,hsn,hm];rfl
         rw [hms] at hfm
         simp only at hfm
         have hov:=outN_le W W[k]!.f
         have hmu:InU m:=by rw [hm];exact msgP_in (hin _ hem.1) ⟨by omega,by have:=hem.2.2.2.2;omega⟩ (by omega)
         refine kj<|wj ?_
         refine Vc.draw [] (sd [(0,.read),(1,.pure),(2,.read),(3,.pure),(4,.read),(5,.pure),(6,.read),(7,.pure),(8,.pure),(9,.read),(10,.read),(11,.pure),(12,.read),(13,.eff),(14,.pure)]) mixed (by kernel_rfl)<|rj Z (Ev.as (prV p) (Ev.ldA Z Z) Z)<|fj Z<|lj Z Z<|fj Z<|lj Z Z<|uj Z (Pv.ixK W[k]!.f rfl rfl rfl (by omega))<|rj Z (Ev.as (.int .u64 c.vals[W[k]!.f]!) (Ev.ldS (E:=u64E) W[k]!.f hva.src rfl rfl rfl (by rw [hvl];exact hem.1)) rfl)<|mj Z<|fj Z<|lj Z Z<|rj Z (Ev.as (.int .i64 ((outN W W[k]!.f:Nat):Int)) (Ev.lookup (kv:=kW) (k:=(W[k]!.f:Int)) Z Z hnd) (hcn _))<|fj Z<|lj Z Z ?_
         refine Rg.callP Z Z Z (mz Z) (tmsg_spec c.vals[W[k]!.f]! (hin _ hem.1) ((outN W W[k]!.f:Nat):Int) ⟨by omega,by omega⟩ W[k]!.w hem.2.2.2.2) ?_
         rintro _ rfl
         rw [←hm]
         refine aj Z<|nl<|sj [.p,.p,.r,.p,.p,.p,.e,.p] Z<|mj Z<|fj Z<|lj Z Z<|uj Z (Pv.asI W[k]!.t (Pv.convI rfl) (wrap_ult rfl (by show _<18446744073709551616;have:=hem.2.2.2.1;omega)))<|mj Z<|uj Z (Pv.build (c:=#[.int .u64 (W[k]!.t:Int),.int .u64 m]) Z Z) ?_
         refine Rg.callH Z Z Z (mz Z) (fun F' hF'=>boxPut_z (F:=F') (r:=⟨(W[k]!.t:Int),m⟩) hC (howP_or p) hB hS hI (by rw [ly];omega) (by rw [ly];omega) ⟨⟨by simp only;omega,by have:=hem.2.2.2.1;simp only;omega⟩,hmu⟩ (fun j h1 h2=>hk j h1 (by rw [ly] at h2;omega)) hD hw hG1.up) rfl ?_
         rintro _ _ ⟨e,D1,g1,g2,rfl,rfl,hD1,hbx,hO⟩
         rw [lx]
         refine aj Z<|nl<|sj [.p,.p] Z<|mj Z<|uj Z (Pv.neq Z Z)<|nl<|cj Z (fun h72=>?_) (fun h72=>?_)
         · simp only [bne_iff_ne,ne_eq] at h72
           obtain ⟨he7,hB7⟩:=hO.bad h72
           refine sj [.p,.p] Z<|mj Z<|aj Z<|nl ?_
           exact vr (hl':=g1++g2) rfl (tz Z) ⟨e,D1,g1,g2,rfl,rfl,hD1,hbx,hO.wz,.inr ⟨he7,hG1.dn hB7⟩⟩ pulled
         · simp only [bne_eq_false_iff_eq] at h72
           subst h72
           obtain ⟨_,hG2,now2,fs2,hS2,hI2⟩:=hO.good (by decide)
           refine kj<|dj<|tj [.p,.p] Z<|uj Z (Pv.asI (k+1) (Pv.add rfl rfl (by omega)) (by omega))<|mj Z<|nl ?_
           exact Vc.inv2 (k+1) (⟨now2,fs2,D1,g1,g2⟩:SnS) ⟨⟨by omega,hS2,by rw [hfm,←lx];exact hI2,hD1,hO.wz,hG1.trans hG2⟩,by omega⟩ (.cons rfl (.cons rfl (.cons rfl (.cons rfl (.cons rfl (.cons rfl (.cons rfl (.cons rfl (.cons rfl .nil))))))))) pulled
   · simp only [df] at h36
     rw [show k=W.length by omega,List.take_length] at hI
     refine Vc.exit Z<|sj [.p] Z<|aj Z<|nl ?_
     exact vr (hl':=R.h1++R.h2) rfl (tz Z) ⟨0,R.D,R.h1,R.h2,rfl,rfl,hD,⟨_,_,hS⟩,hw,.inl ⟨rfl,hG1,R.now,R.fs,hS,hI⟩⟩ pulled
end
theorem filter_split {α:Type} (f:α→Nat) (k:Nat):∀l:List α,(l.filter fun e=>decide (k≤f e)).Perm ((l.filter fun e=>decide (f e=k))++l.filter fun e=>decide (k+1≤f e))
 | []=>.nil
 | e::l=>by
  have ih:=filter_split f k l
  simp only [List.filter_cons]
  rcases Nat.lt_trichotomy (f e) k with h | h | h
  · rw [if_neg (by simp;omega),if_neg (by simp;omega),if_neg (by simp;omega)];exact ih
  · rw [if_pos (by simp;omega),if_pos (by simp;omega),if_neg (by simp;omega),List.cons_append];exact ih.cons e
  · rw [if_pos (by simp;omega),if_neg (by simp;omega),if_pos (by simp;omega)]
    exact (ih.cons e).trans List.perm_middle.symm
theorem filter_parts {α:Type} (f:α→Nat) (l:List α):∀k,(((List.range k).flatMap fun i=>l.filter fun e=>decide (f e=i))++l.filter fun e=>decide (k≤f e)).Perm l
 | 0=>by rw [List.range_zero,List.flatMap_nil,List.nil_append];exact List.Perm.of_eq (List.filter_eq_self.2 fun e _=>by simp)
 | k+1=>by
  have ih:=filter_parts f l k
  rw [List.range_succ,List.flatMap_append,lx]
  refine List.Perm.trans (List.Perm.append_left _ ?_) ih
  simp only [List.flatMap_cons,List.flatMap_nil,List.append_nil]
  exact (filter_split f k l).symm
theorem flatMap_two {α β:Type} (f g:α→List β):∀l:List α,((l.flatMap f)++(l.flatMap g)).Perm (l.flatMap fun x=>f x++g x)
 | []=>.nil
 | x::l=>by
  simp only [List.flatMap_cons,lx]
  refine List.Perm.append_left _ ?_
  refine List.Perm.trans ?_ ((flatMap_two f g l).append_left _)
  rw [←lx,←lx]
  exact List.perm_append_comm.append_right _
theorem outN_perm {a b:List Eg} (h:a.Perm b) (v:Nat):outN a v=outN b v:=(h.filter _).length_eq
theorem outN_app (a b:List Eg) (v:Nat):outN (a++b) v=outN a v+outN b v:=by simp [outN]
theorem outN_zero {a:List Eg} {v:Nat} (h:∀e∈a,e.f≠v):outN a v=0:=by
 unfold outN
 rw [List.length_eq_zero_iff,List.filter_eq_nil_iff]
 exact fun e he=>by simpa using h e he
abbrev LeF (a b:Rc):Prop:=(upE a).f≤(upE b).f
theorem dwL_ge {m:Nat}:∀{l:List Rc},l.Pairwise LeF→∀r∈dwL m l,m≤(upE r).f
 | [],_,r,hr=>by cases hr
 | x::l,hp,r,hr=>by
  rw [List.pairwise_cons] at hp
  by_cases h:(upE x).f<m
  · have e:dwL m (x::l)=dwL m l:=by simp only [dwL,List.dropWhile_cons,decide_eq_true h,if_true]
    rw [e] at hr
    exact dwL_ge hp.2 r hr
  · have e:dwL m (x::l)=x::l:=by simp only [dwL,List.dropWhile_cons,decide_eq_false h];rfl
    rw [e] at hr
    rcases List.mem_cons.1 hr with rfl | hr
    · omega
    · have:=hp.1 r hr;simp only [LeF] at this;omega
theorem twL_lt {m:Nat}:∀{l:List Rc},∀r∈twL m l,(upE r).f<m
 | [],r,hr=>by cases hr
 | x::l,r,hr=>by
  by_cases h:(upE x).f<m
  · have e:twL m (x::l)=x::twL m l:=by simp only [twL,List.takeWhile_cons,decide_eq_true h,if_true]
    rw [e] at hr
    rcases List.mem_cons.1 hr with rfl | hr
    · exact h
    · exact twL_lt r hr
  · have e:twL m (x::l)=[]:=by simp only [twL,List.takeWhile_cons,decide_eq_false h];rfl
    rw [e] at hr;cases hr
structure WinI (es:List Eg) (m0:Nat) (O:List Eg) (cs:List (Nat×Bool×List Rc)):Prop where
 perm:(O++(allW cs).map upE).Perm es
 lo:∀r∈allW cs,m0≤(upE r).f
 srt:∀c∈cs,c.2.2.Pairwise LeF
 out:∀e∈O,e.f<m0
theorem outW_mem {m:Nat} {cs:List (Nat×Bool×List Rc)} {e:Eg} (h:e∈outW m cs):e.f<m∧∃r∈allW cs,e=upE r:=by
 obtain ⟨c,hc,he⟩:=List.mem_flatMap.1 h
 obtain ⟨r,hr,rfl⟩:=List.mem_map.1 he
 exact ⟨twL_lt r hr,r,List.mem_flatMap.2 ⟨c,hc,(List.takeWhile_sublist _).subset hr⟩,rfl⟩
theorem allW_next {m:Nat} {cs:List (Nat×Bool×List Rc)}:allW (nextW m cs)=cs.flatMap fun c=>dwL m c.2.2:=by
 unfold allW nextW
 rw [List.flatMap_map]
theorem WinI.perm_next {es O:List Eg} {m0 m:Nat} {cs:List (Nat×Bool×List Rc)} (h:WinI es m0 O cs):((O++outW m cs)++(allW (nextW m cs)).map upE).Perm es:=by
 refine List.Perm.trans ?_ h.perm
 rw [lx]
 refine List.Perm.append_left _ ?_
 rw [allW_next,List.map_flatMap]
 refine (flatMap_two _ _ cs).trans (List.Perm.of_eq ?_)
 unfold allW
 rw [List.map_flatMap]
 congr 1
 funext c
 rw [←List.map_append,tw_dw]
theorem WinI.next {es O:List Eg} {m0 m:Nat} {cs:List (Nat×Bool×List Rc)} (h:WinI es m0 O cs) (hm:m0≤m):WinI es m (O++outW m cs) (nextW m cs) where
 perm:=h.perm_next
 lo:=fun r hr=>by
  rw [allW_next] at hr
  obtain ⟨c,hc,hr⟩:=List.mem_flatMap.1 hr
  exact dwL_ge (h.srt c hc) r hr
 srt:=fun c hc=>by
  obtain ⟨d,hd,rfl⟩:=List.mem_map.1 hc
  exact (h.srt d hd).sublist (List.dropWhile_sublist _)
 out:=fun e he=>by
  rcases List.mem_append.1 he with he | he
  · have:=h.out e he;omega
  · exact (outW_mem he).1
theorem WinI.count {es O:List Eg} {m0 m:Nat} {cs:List (Nat×Bool×List Rc)} (h:WinI es m0 O cs) {e:Eg} (he:e∈outW m cs):outN (outW m cs) e.f=outN es e.f:=by
 obtain ⟨h1,r,hr,rfl⟩:=outW_mem he
 have h2:=h.lo r hr
 rw [←outN_perm h.perm_next,outN_app,outN_app,outN_zero (a:=O) (fun e he=>by have:=h.out e he;omega),outN_zero (a:=(allW (nextW m cs)).map upE) (fun e he=>by
  obtain ⟨q,hq,rfl⟩:=List.mem_map.1 he
  rw [allW_next] at hq
  obtain ⟨c,hc,hq⟩:=List.mem_flatMap.1 hq
  have:=dwL_ge (m:=m) (h.srt c hc) q hq
  omega)]
 omega
theorem filterMap_same {α β:Type} {f g:α→Option β}:∀{l:List α},(∀x∈l,f x=g x)→l.filterMap f=l.filterMap g
 | [],_=>rfl
 | x::l,h=>by rw [List.filterMap_cons,List.filterMap_cons,h x (by simp),filterMap_same fun y hy=>h y (by simp [hy])]
theorem WinI.msgs {es O:List Eg} {m0 m:Nat} {cs:List (Nat×Bool×List Rc)} (h:WinI es m0 O cs) (p:Prg) (c:Cf):(outW m cs).filterMap (msg1 p (outW m cs) c)=(outW m cs).filterMap (msg1 p es c):=by
 refine filterMap_same fun e he=>?_
 unfold msg1
 rw [h.count he]
theorem WinI.fin {es O:List Eg} {n:Nat} {cs:List (Nat×Bool×List Rc)} (h:WinI es n O cs) (hn:∀e∈es,e.f<n):O.Perm es:=by
 have h0:allW cs=[]:=List.eq_nil_iff_forall_not_mem.2 fun r hr=>by
  have h1:=h.lo r hr
  have h2:=hn (upE r) (h.perm.mem_iff.1 (List.mem_append_right _ (List.mem_map.2 ⟨r,hr,rfl⟩)))
  omega
 have:=h.perm
 rw [h0,List.map_nil,List.append_nil] at this
 exact this
theorem leF_of {a b:Rc} (ha:InR a) (h:a.key≤b.key):LeF a b:=by
 obtain ⟨⟨h1,h2⟩,_⟩:=ha
 simp only [LeF,upE]
 exact Nat.div_le_div_right (by omega)
theorem WinI.init {n sh:Nat} {es:List Eg} (h0:0<sh) (hG:OkG n es) {cs:List (Nat×Bool×List Rc)} (hcs:cs.map (·.2.2)=(List.range sh).map fun i=>sortL (inSL n sh i es)):WinI es 0 [] cs where
 perm:=by
  have h1:allW cs=(List.range sh).flatMap fun i=>sortL (inSL n sh i es):=by
   rw [allW,List.flatMap_def,hcs,←List.flatMap_def]
  rw [List.nil_append,h1,List.map_flatMap]
  have h2:∀i,((sortL (inSL n sh i es)).map upE).Perm (es.filter fun e=>decide (ofN n sh e.t=i)):=fun i=>by
   refine ((sortL_perm _).map _).trans (List.Perm.of_eq ?_)
   unfold inSL
   rw [List.map_map]
   conv=>rhs;rw [←List.map_id (es.filter _)]
   exact List.map_congr_left fun e he=>upE_pkR (hG e (List.mem_filter.1 he).1).2
  have h3:∀l:List Nat,(l.flatMap fun i=>(sortL (inSL n sh i es)).map upE).Perm (l.flatMap fun i=>es.filter fun e=>decide (ofN n sh e.t=i)):=fun l=>by
   induction l with
   | nil=>exact .nil
   | cons i l ih=>simp only [List.flatMap_cons];exact (h2 i).append ih
  refine (h3 _).trans ?_
  have h4:=filter_parts (fun e:Eg=>ofN n sh e.t) es sh
  have h5:(es.filter fun e=>decide (sh≤ofN n sh e.t))=[]:=List.filter_eq_nil_iff.2 fun e he=>by
   have hv:=(hG e he).1
   have:=bnd_top (n:=n) h0
   have hlt:ofN n sh e.t<sh:=by
    unfold ofN
    cases hf:(List.range sh).find? fun i=>decide (e.t<bnd n sh (i+1)) with
    | none =>
     have:=List.find?_eq_none.1 hf (sh-1) (by simp;omega)
     rw [show sh-1+1=sh by omega,bnd_top h0] at this
     simp at this;omega
    | some i=>have:=List.mem_of_find?_eq_some hf;simpa using this
   simp;omega
  rw [h5,List.append_nil] at h4
  exact h4
 lo:=fun r _=>Nat.zero_le _
 srt:=fun c hc=>by
  have:c.2.2∈(List.range sh).map fun i=>sortL (inSL n sh i es):=by rw [←hcs];exact List.mem_map.2 ⟨c,hc,rfl⟩
  obtain ⟨i,_,hi⟩:=List.mem_map.1 this
  rw [←hi]
  have hp:=rises_keys (sortL_rises (inSL n sh i es))
  refine hp.imp_of_mem fun {a b} ha hb h=>leF_of ?_ h
  exact inSL_in hG a ((sortL_perm _).mem_iff.1 ha)
 out:=fun e he=>by cases he
theorem shN_box {i:Nat} : ¬BoxT (shN i):=fun ⟨j,_,_,e⟩=>by simp [boxN,boxB,shN] at e
section
variable {F : Fm} {bb db B : Nat} {C : Cx} {D : Dk} {s1 s2 : Hl} {p : Prg} {c : Cf} {n sh : Nat} {es : List Eg}
structure MsS where
 O:List Eg
 cs:List (Nat×Bool×List Rc)
 b:Bool
 now:List Rc
 fs:List (List Rc)
 D:Dk
 sS:Hl
 sB:Hl
 q:Hl
set_option maxHeartbeats 8000000 in
theorem messages_z (hC:C.Ok) (hB:1≤B) (hS:BoxAt bb db B (howP p) [] 0 s1) (hbf:BxF D []) {a b:Value} (hc:CfA F a b c) (hic:InC c n) (hq:quietC c=false) (hn:n≤1048576) (h1:1≤sh) (h2:sh<100) (hG:OkG n es) (hG2:InG n es) (hl:es.length<49) (hcap:16*es.length+6≤C.cap) (hk:∀k,1≤k→k≤es.length→boxN k∈C.S) (hsh:∀i,i<sh→ShOk n sh es D i) (hD:DiskAt db D s2) (hw:Wz C D) (hup:D.down=false) :
 Spec Tryz.prog 208 #[.pointer (some ⟨db,0,none⟩),.pointer (some ⟨bb,0,none⟩),prV p,.int .i64 (sh:Int),cfV a b] F (s1++s2) fun v s'=>∃u e D' sB sU h2 now' nx',v=.tuple #[u,.int .i64 e]∧u.oneCell'=true∧s'=sB++(sU++h2)∧DiskAt db D' h2∧BoxAt bb db B (howP p) now' nx' sB∧Out C BoxT (fun D'=>(∃fs',fs'.length=nx'∧nx'<100∧BxF D' fs')∧Own recE u (sortedG (howP p) (msgsC p es c)) sU) D 0 e D':=by
 obtain ⟨pv,cv,e1⟩:=hc.va.shape
 obtain ⟨pl,cl,e2⟩:=hc.la.shape
 subst e1;subst e2
 have hvl:=hic.vl
 rw [hvl]
 obtain ⟨Q,hQd⟩:∃Q:Nm→List Rc→Prop,Q=fun nm l=>∃i,i<sh∧nm=shN i∧l=sortL (inSL n sh i es):=⟨_,rfl⟩
 have hQf:∀{D':Dk},Gd BoxT D D'→∀nm l,Q nm l→∃f,findF D'.files nm=some f∧f.now=fileB l:=fun {D'} hG nm l h=>by
  rw [hQd] at h
  obtain ⟨i,hi,rfl,rfl⟩:=h
  exact ⟨_,(hG.same _ shN_box).trans (hsh i hi),rfl⟩
 have hih:InRs (msgsC p es c):=fun r hr=>by
  obtain ⟨e,he,hm⟩:=List.mem_filterMap.1 hr
  have hem:=hG2 e he
  unfold msg1 at hm
  split at hm
  · cases hm
    have hov:=outN_le es e.f
    exact ⟨⟨by simp only;omega,by have:=hem.2.2.2.1;simp only;omega⟩,msgP_in (hic.in_ _ hem.1) ⟨by omega,by have:=hem.2.2.2.2;omega⟩ (by omega)⟩
  · cases hm
 refine Spec.of (n:=53) (vs:=[.pointer (some ⟨db,0,none⟩),.pointer (some ⟨bb,0,none⟩),prV p,.int .i64 (sh:Int),cfV (.slice pv n cv) (.slice pl c.live.length cl)]) Tryz.func208 rfl Tryz.ntmps208 rfl ?_
 refine sj [.e,.e,.p,.p] Z<|Rg.box Z Z Z Z Z (fun b7=>?_)
 refine Rg.box Z Z Z Z Z (fun b9=>?_)
 refine aj Z<|aj Z<|nl<|sj [.p,.p,.r,.p,.p,.e,.p,.p,.p,.p,.p] Z<|mj Z<|fj Z<|lj Z Z<|uj Z (Pv.lenS Z)<|mj Z ?_
 refine Rg.callH Z Z Z (mz Z) (fun F' hF'=>newSweep_z (F:=F') (Q:=Q) hC hD hw hup hn h1 h2 (fun i=>sortL (inSL n sh i es)) (fun i hi=>⟨_,hsh i hi,rfl⟩) (fun i hi=>by rw [hQd];exact ⟨i,hi,rfl,rfl⟩)) rfl ?_
 rintro _ _ ⟨ps,e,D1,g1,g2,rfl,rfl,hD1,hO1⟩
 rw [lx]
 refine mj Z<|xj Z Z<|xj Z Z<|aj Z<|aj Z<|nl<|wj<|sj [.p,.p] Z<|mj Z<|uj Z (Pv.neq Z Z)<|nl<|cj Z (fun h28=>?_) (fun h28=>?_)
 · simp only [bne_iff_ne,ne_eq] at h28
   obtain ⟨he7,hB7⟩:=hO1.bad h28
   refine sj [.p,.p,.p] Z<|mj Z<|aj Z<|aj Z<|nl ?_
   exact vr (hl':=s1++([]++g2)) rfl (.cons (.tmp rfl) (tz Z)) ⟨.slice none 0 0,e,D1,s1,[],g2,[],0,rfl,rfl,rfl,hD1,hS,hO1.wz,.inr ⟨he7,hB7.any⟩⟩ pulled
 · simp only [bne_eq_false_iff_eq] at h28
   subst h28
   obtain ⟨_,hG1,pb,cs0,rfl,hcs0,hSw⟩:=hO1.good (by decide)
   have hcl0:cs0.length=sh:=by have:=congrArg List.length hcs0;simpa using this
   refine kj<|bj ?_
   refine Vc.loop2 (fun (j:Nat) (R:MsS)=>j≤sh∧SwAt db Q n sh pb R.cs j R.b R.sS∧R.cs.length=sh∧WinI es (bnd n sh j) R.O R.cs∧BoxAt bb db B (howP p) R.now R.fs.length R.sB∧BoxI (howP p) R.D R.now R.fs (R.O.filterMap (msg1 p es c))∧DiskAt db R.D R.q∧Wz C R.D∧Gd BoxT D R.D∧InRs (allW R.cs)) (fun j R=>[(1,.pointer (some ⟨bb,0,none⟩)),(7,.pointer (some ⟨b7,0,none⟩)),(9,.pointer (some ⟨b9,0,none⟩)),(12,.pointer (some ⟨pb,0,none⟩))]) (fun j R=>(b7,cellsO (prC p) 24)::(b9,cellsO [.slice pv n cv,.slice pl c.live.length cl] 84)::(R.sS++(R.sB++R.q))) (fun j R=>sh-j) 0 (⟨[],cs0,false,[],[],D1,g1,s1,g2⟩:MsS) ⟨Nat.zero_le _,hSw,hcl0,by rw [bnd_zero];exact WinI.init (by omega) hG hcs0,hS,⟨⟨fun i hi=>(by cases hi),fun k h3 h4=>by rw [hG1.same _ (fun h=>h.elim)];exact hbf.non k h3 h4⟩,fun k=>rfl,fun r hr=>(by cases hr),fun r hr=>(by cases hr),Nat.le_refl _,Nat.le_refl _⟩,hD1,hO1.wz,hG1.any,fun r hr=>by
    obtain ⟨x,hx,hr⟩:=List.mem_flatMap.1 hr
    have hx2:x.2.2∈(List.range sh).map fun i=>sortL (inSL n sh i es):=by rw [←hcs0];exact List.mem_map.2 ⟨x,hx,rfl⟩
    obtain ⟨i,_,hi⟩:=List.mem_map.1 hx2
    rw [←hi] at hr
    exact inSL_in hG r ((sortL_perm _).mem_iff.1 hr)⟩ (.cons rfl (.cons rfl (.cons rfl (.cons rfl .nil)))) pulled ?_
   clear hSw hD1 hO1 hG1 hD hw hup hS hbf hcs0
   rintro j ⟨O,cs,b0,now,fs,D1,sS,sB,q⟩ ⟨hj,hSw,hcl,hWi,hBx,hBi,hD1,hw1,hG1,hIw⟩
   simp only at hSw hcl hWi hBx hBi hD1 hw1 hG1 hIw ⊢
   have hpl:=hWi.perm.length_eq
   rw [ly,List.length_map] at hpl
   have hfl:=List.length_filterMap_le (msg1 p es c) O
   have hbil:=hBi.len
   have hbif:=hBi.fl
   refine bj<|sj [.p,.e,.p,.p,.p,.p,.p,.p,.p] Z<|mj Z<|Rg.callH Z Z Z (mz Z) (fun F' hF'=>sweepNext_z (F:=F') (Q:=Q) (at_:=j) hC hn h1 h2 hSw hj (by omega) (by omega) hIw hD1 hw1 hG1.up (hQf hG1)) rfl ?_
   rintro _ _ ⟨u,is,e,D2,g1,g2,rfl,hu1,rfl,hD2,hO⟩
   rw [lx]
   refine mj Z<|xj Z Z<|xj Z Z<|xj Z Z<|aj Z<|aj Z<|aj Z<|nl<|wj<|sj [.p,.p] Z<|mj Z<|uj Z (Pv.neq Z Z)<|nl<|cj Z (fun h37=>?_) (fun h37=>?_)
   · simp only [bne_iff_ne,ne_eq] at h37
     obtain ⟨he7,hB7⟩:=hO.bad h37
     refine sj [.p,.p,.p] Z<|mj Z<|aj Z<|aj Z<|nl ?_
     exact vr (hl':=sB++([]++g2)) rfl (.cons (.tmp rfl) (tz Z)) ⟨.slice none 0 0,e,D2,sB,[],g2,now,fs.length,rfl,rfl,rfl,hD2,hBx,hO.wz,.inr ⟨he7,hG1.dn hB7.any⟩⟩ pulled
   · simp only [bne_eq_false_iff_eq] at h37
     subst h37
     obtain ⟨_,hG2',hcase⟩:=hO.good (by decide)
     have hGd:Gd BoxT D D2:=hG1.trans hG2'.any
     have hBi2:=hBi.same hG2' (fun _ h=>h)
     refine kj<|wj<|sj [.p,.p] Z<|mj Z<|uj Z (Pv.not Z)<|nl<|cj Z (fun h40=>?_) (fun h40=>?_)
     · simp only [Bool.not_eq_true'] at h40
       obtain ⟨hjs,_⟩:=hcase.resolve_right (fun h=>by rw [h.2.1] at h40;cases h40)
       have hOp:O.Perm es:=by
        refine WinI.fin (n:=n) (cs:=cs) ?_ (fun e he=>(hG2 e he).1)
        rw [hjs,bnd_top (by omega)] at hWi
        exact hWi
       have hmp:(O.filterMap (msg1 p es c)).Perm (msgsC p es c):=hOp.filterMap _
       refine sj [.p,.e,.p,.p,.p,.p] Z<|mj Z<|Rg.callH Z Z Z (mz Z) (fun F' hF'=>boxAll_z (F:=F') hC (howP_or p) hBx hBi2 (by omega) (fun r hr=>hih r (hmp.mem_iff.1 hr)) hD2 hO.wz hGd.up) rfl ?_
       rintro _ _ ⟨u3,e3,D3,h1',h2',rfl,hu3,rfl,hD3,hO3⟩
       rw [lx,lx]
       refine xj Z Z<|xj Z Z<|aj Z<|aj Z<|nl ?_
       exact vr (hl':=sB++(h1'++h2')) rfl (.cons (.tmp rfl) (tz Z)) ⟨u3,e3,D3,sB,h1',h2',now,fs.length,rfl,hu3,rfl,hD3,hBx,hO3.wz,hO3.2.imp (fun h=>⟨h.1,hGd.trans h.2.1.any,⟨fs,rfl,by omega,(hBi2.same h.2.1 (fun _ h=>h)).files⟩,by rw [←sortedG_congr hmp];exact h.2.2⟩) (fun h=>⟨h.1,hGd.dn h.2.any⟩)⟩ pulled
     · simp only [Bool.not_eq_false'] at h40
       obtain ⟨hjs,_,sS2,sU,rfl,hSw2,hU⟩:=hcase.resolve_left (fun h=>by rw [h.2] at h40;cases h40)
       have hWn:=hWi.next (m:=bnd n sh (j+1)) (bnd_mono (by omega))
       have hWm:=hWi.msgs (m:=bnd n sh (j+1)) p c
       have hWl:=hWn.perm.length_eq
       rw [ly,ly,List.length_map] at hWl
       have hGW:InG n (outW (bnd n sh (j+1)) cs):=fun e he=>hG2 e (hWn.perm.mem_iff.1 (List.mem_append_left _ (List.mem_append_right _ he)))
       refine kj<|sj [.p,.r,.r,.p,.e,.p] Z<|mj Z<|rj Z (Ev.as (prV p) (Ev.ldA Z Z) Z)<|rj Z (Ev.as (cfV (.slice pv n cv) (.slice pl c.live.length cl)) (Ev.ldA Z Z) Z)<|mj Z<|Rg.callH Z Z Z (mz Z) (fun F' hF'=>stSends_z (F:=F') (W:=outW (bnd n sh (j+1)) cs) hC hB hBx hBi2 (by rw [hvl] at hc;exact hc.mono fun b o h=>hF' b o (.inr h)) hic hq (Arg.own hU fun b o hb=>hF' b o (.inl (by simp [hb]))) hGW (by omega) (by omega) (fun k h3 h4=>hk k h3 (by omega)) hD2 hO.wz hGd.up) rfl ?_
       rintro _ _ ⟨e3,D3,f1,f2,rfl,rfl,hD3,⟨now3,nx3,hbx3⟩,hO3⟩
       rw [lx]
       refine aj Z<|nl<|sj [.p,.p] Z<|mj Z<|uj Z (Pv.neq Z Z)<|nl<|cj Z (fun h51=>?_) (fun h51=>?_)
       · simp only [bne_iff_ne,ne_eq] at h51
         obtain ⟨he7,hB7⟩:=hO3.bad h51
         refine sj [.p,.p,.p] Z<|mj Z<|aj Z<|aj Z<|nl ?_
         exact vr (hl':=f1++([]++f2)) rfl (.cons (.tmp rfl) (tz Z)) ⟨.slice none 0 0,e3,D3,f1,[],f2,now3,nx3,rfl,rfl,rfl,hD3,hbx3,hO3.wz,.inr ⟨he7,hGd.dn hB7⟩⟩ pulled
       · simp only [bne_eq_false_iff_eq] at h51
         subst h51
         obtain ⟨_,hG3,now4,fs4,hS4,hI4⟩:=hO3.good (by decide)
         refine kj<|dj ?_
         exact Vc.inv2 (j+1) (⟨O++outW (bnd n sh (j+1)) cs,nextW (bnd n sh (j+1)) cs,true,now4,fs4,D3,sS2,f1,f2⟩:MsS) ⟨⟨by omega,hSw2,by simp only [nextW,List.length_map];exact hcl,hWn,hS4,by rw [List.filterMap_append,←hWm];exact hI4,hD3,hO3.wz,hGd.trans hG3,fun r hr=>by
          simp only [allW_next] at hr
          obtain ⟨x,hx,hr⟩:=List.mem_flatMap.1 hr
          exact hIw r (List.mem_flatMap.2 ⟨x,hx,(List.dropWhile_sublist _).subset hr⟩)⟩,by omega⟩ (.cons rfl (.cons rfl (.cons rfl (.cons rfl .nil)))) (by rw [lx sS2 sU];exact pulled)
end
end Go.Proofs.YtkpiakgmkpbikaaGreatDoor
