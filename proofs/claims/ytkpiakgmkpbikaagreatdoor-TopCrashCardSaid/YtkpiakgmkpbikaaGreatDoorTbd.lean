/- Steps of the proof. -/
import Derived.Test.YtkpiakgmkpbikaaGreatDoorTr
set_option linter.unusedVariables false
namespace Go.Proofs.YtkpiakgmkpbikaaGreatDoor
open ED (Eg egV egC edgeE InE grV)
theorem tot_head {how:Int} {L pre:List Rc} {r:Rc} {t:List Rc} {k:Nat} (hL:L=pre++r::t) (hu:KeysUp L) (hp:∀x∈pre,x.key<(k:Int)) (hk:r.key=(k:Int)) (hN:NN L):tot how (k:Int) L=some r.val:=by
 subst hL
 have h1:NN pre:=fun x hx=>hN x (List.mem_append_left _ hx)
 have h2:NN (r::t):=fun x hx=>hN x (List.mem_append_right _ hx)
 have h3:=(List.pairwise_cons.1 (List.pairwise_append.1 hu).2.1).1
 rw [tot_append h1 h2,tot_none (l:=pre) (fun x hx=>by have:=hp x hx;omega),tot_cons h2,if_pos hk,tot_none (l:=t) (fun x hx=>by have:=h3 x hx;omega)]
 rfl
theorem tot_not {how:Int} {L pre rest:List Rc} {k:Nat} (hL:L=pre++rest) (hp:∀x∈pre,x.key<(k:Int)) (hr:∀x∈rest,(k:Int)<x.key):tot how (k:Int) L=none:=by
 subst hL
 exact tot_none fun x hx=>by
  rcases List.mem_append.1 hx with h | h
  · have:=hp x h;omega
  · have:=hr x h;omega
structure AdS where
 rest:List Rc
 vl:Value
 sum:Int
 sL:Hl
section
variable {F : Fm} {db B : Nat} {C : Cx} {D : Dk} {s : Hl} {p : Prg} {c : Cf} {n sh : Nat} {es : List Eg}
set_option maxHeartbeats 16000000 in
theorem advance_z (hC:C.Ok) (hp:p.start<4294967296) (hr:rightP p (n:Int)=true) (hB:1≤B) (hbf:BxF D []) {a b:Value} (hc:CfA F a b c) (hic:InC c n) (hq:quietC c=false) (h1:1≤sh) (h2:sh<100) (hG:OkG n es) (hG2:InG n es) (hl:es.length<49) (hcap:16*es.length+6≤C.cap) (hk:∀k,1≤k→k≤es.length→boxN k∈C.S) (hsh:∀i,i<sh→ShOk n sh es D i) (hD:DiskAt db D s) (hw:Wz C D) (hup:D.down=false) :
 Spec Tryz.prog 194 #[.pointer (some ⟨db,0,none⟩),prV p,.int .i64 (sh:Int),cfV a b,.int .i64 (B:Int)] F s fun v s'=>∃x y e D' q1 q2,v=.tuple #[cfV x y,.int .i64 e]∧x.oneCell'=true∧y.oneCell'=true∧s'=q1++q2∧DiskAt db D' q2∧Out C BoxT (fun D'=>CfO (cfV x y) (stepT p es c) q1∧BxF D' []) D 0 e D':=by
 have hn:n≤1048576:=hic.few
 obtain ⟨pv,cv,e1⟩:=hc.va.shape
 obtain ⟨pl,cl,e2⟩:=hc.la.shape
 subst e1;subst e2
 have hva:=hc.va
 have hla:=hc.la
 have hc0:=hc
 obtain ⟨hvl,hll,hfew,hin⟩:=hic
 have hic:InC c n:=⟨hvl,hll,hfew,hin⟩
 rw [hvl] at hva hc0 ⊢
 rw [hll] at hla hc0 ⊢
 obtain ⟨sv,hsv⟩:∃sv:Nat→Int×Bool,sv=fun v:Nat=>nextP p c.vals[v]! (tot (howP p) (v:Int) (msgsC p es c)):=⟨_,rfl⟩
 have hst:stepT p es c=⟨(List.range n).map fun v=>(sv v).1,(List.range n).map fun v=>(sv v).2⟩:=by rw [stepT,if_neg (by rw [hq];decide),hvl,hsv]
 have hmi:∀r∈msgsC p es c,InU r.val:=msgs_in hic hG2
 have hmN:NN (msgsC p es c):=fun r hr=>(hmi r hr).1
 obtain ⟨L,hL⟩:∃L,L=sortedG (howP p) (msgsC p es c):=⟨_,rfl⟩
 have h0:howP p≠0:=by rcases howP_or p with h | h<;>rw [h]<;>decide
 obtain ⟨hLu,hLt,hLN,hLk⟩:=sortedG_spec h0 hmN
 rw [←hL] at hLu hLt hLN hLk
 refine Spec.of (n:=134) (vs:=[.pointer (some ⟨db,0,none⟩),prV p,.int .i64 (sh:Int),cfV (.slice pv n cv) (.slice pl n cl),.int .i64 (B:Int)]) Tryz.func194 rfl Tryz.ntmps194 rfl ?_
 refine sj [.e,.e,.e,.p] Z<|Rg.box Z Z Z Z Z (fun b6=>?_)
 refine Rg.box Z Z Z Z Z (fun b8=>?_)
 refine Rg.alloc Z Z Z Z (fun b10=>?_)
 refine aj Z<|nl<|sj [.p,.r,.p,.p] Z<|fj Z<|lj Z Z<|uj Z (Pv.lenS Z)<|aj Z<|nl<|wj<|sj [.p,.p,.e,.p,.p,.p,.p,.p] Z<|mj Z<|mj Z ?_
 refine Rg.callA Z Z Z (mz Z) (bounds_spec n sh hn h1 (by omega)) ?_
 rintro _ s30 ⟨u30,rfl,own30⟩
 refine mj Z<|xj Z Z<|xj Z Z<|aj Z<|aj Z<|nl<|sj [.p,.p,.p,.p,.r,.p,.p,.p,.p,.p,.r,.p,.e,.p,.p] Z<|mj Z<|uj Z (Pv.neq Z Z)<|mj Z<|Rg.split (t:=35) rfl (fun h35=>absurd h35 (by decide)) (fun h35=>?_)
 refine fj Z<|lj Z Z<|uj Z (Pv.lenS Z)<|mj Z<|uj Z (Pv.neq Z Z)<|pj Z Z<|mj Z ?_
 refine Rg.split (t:=42) rfl (fun h42=>absurd h42 (by simp)) (fun h42=>?_)
 refine rj Z (Ev.as (prV p) (Ev.ldA Z Z) Z)<|mj Z<|Rg.callP Z Z Z (mz Z) (tright_spec hp (n:Int)) ?_
 rintro _ rfl
 refine uj Z (Pv.not Z)<|pj Z Z<|nl<|cj Z (fun h47=>absurd h47 (by rw [hr];decide)) (fun h47=>?_)
 refine kj<|sj [.p,.p,.r,.e,.e,.p,.p,.p,.p,.p] Z<|mj Z<|mj Z<|rj Z (Ev.as (prV p) (Ev.ldA Z Z) Z)<|Rg.callP Z Z Z (mz Z) (how_spec) ?_
 rintro _ rfl
 refine Rg.callA Z Z Z (mz Z) (boxNew_spec (db:=db) hB (howP_or p)) ?_
 rintro _ s54 ⟨bb,rfl,hBx⟩
 refine mj Z<|xj Z Z<|xj Z Z<|aj Z<|aj Z<|nl<|wj<|sj [.p,.p] Z<|mj Z<|uj Z (Pv.neq Z Z)<|nl<|cj Z (fun h58=>absurd h58 (by decide)) (fun h58=>?_)
 refine kj<|wj<|Vc.cut6 (fun (b17:Nat) (pa:Option Addr) (ca:Nat) (pb:Option Addr) (cb:Nat) (q:Hl×Hl)=>Own u64E (.slice pa n ca) c.vals q.1∧Own boolE (.slice pb n cb) c.live q.2) (fun b17 pa ca pb cb q=>[(0,.pointer (some ⟨db,0,none⟩)),(2,.int .i64 (sh:Int)),(6,.pointer (some ⟨b6,0,none⟩)),(8,.pointer (some ⟨b8,0,none⟩)),(10,.pointer (some ⟨b10,0,none⟩)),(15,.pointer (some ⟨bb,0,none⟩)),(17,.pointer (some ⟨b17,0,none⟩))]) (fun b17 pa ca pb cb q=>(b17,cellsO [.slice pa n ca,.slice pb n cb] 84)::(b10,cellsO [.slice none 0 0,.slice none 0 0] 84)::(b8,cellsO [.slice pv n cv,.slice pl n cl] 84)::(b6,cellsO (prC p) 24)::(s54++(q.1++(q.2++s)))) ?_ ?_
 · refine Vc.draw [8] (.st 0 .pure (.st 1 .read (.st 3 .pure (.st 4 .read (.two 2 (.two 5 (sd [(6,.pure),(7,.eff),(8,.eff)]) 7 (sd [(5,.eff),(6,.pure),(8,.eff)])) 7 (sd [(2,.eff),(5,.eff),(6,.pure),(8,.eff)])))))) mixed (by kernel_rfl)<|fj Z<|lj Z Z<|fj Z<|lj Z Z ?_
   refine Rg.two ?_ ?_
   · refine Rg.callA Z Z Z (mz Z) (cloneU_spec (hva.mono fun b o h=>Or.inr h) (by omega)) ?_
     rintro v63 s63 own63
     obtain ⟨p63,c63,rfl⟩:=own63.shape
     rw [hvl] at own63 ⊢
     refine Rg.two ?_ ?_
     · refine Rg.callA Z Z Z (mz Z) (cloneB_spec (hla.mono fun b o h=>Or.inr h) (by omega)) ?_
       rintro v66 s66 own66
       obtain ⟨p66,c66,rfl⟩:=own66.shape
       rw [hll] at own66 ⊢
       refine uj Z (Pv.build (c:=#[.slice p63 n c63,.slice p66 n c66]) Z Z)<|Rg.alloc Z Z Z Z (fun b17=>?_)
       refine Rg.storeA Z Z Z Z Z Z Z Z<|nl ?_
       exact Vc.inv6 b17 p63 c63 p66 c66 (s63,s66) ⟨own63,own66⟩ (.cons rfl (.cons rfl (.cons rfl (.cons rfl (.cons rfl (.cons rfl (.cons rfl .nil))))))) pulled
     · refine Rg.alloc Z Z Z Z (fun b17=>?_)
       refine Rg.callA Z Z Z (mz Z) (cloneB_spec (hla.mono fun b o h=>Or.inr h) (by omega)) ?_
       rintro v66 s66 own66
       obtain ⟨p66,c66,rfl⟩:=own66.shape
       rw [hll] at own66 ⊢
       refine uj Z (Pv.build (c:=#[.slice p63 n c63,.slice p66 n c66]) Z Z)<|Rg.storeA Z Z Z Z Z Z Z Z<|nl ?_
       exact Vc.inv6 b17 p63 c63 p66 c66 (s63,s66) ⟨own63,own66⟩ (.cons rfl (.cons rfl (.cons rfl (.cons rfl (.cons rfl (.cons rfl (.cons rfl .nil))))))) pulled
   · refine Rg.alloc Z Z Z Z (fun b17=>?_)
     refine Rg.callA Z Z Z (mz Z) (cloneU_spec (hva.mono fun b o h=>Or.inr h) (by omega)) ?_
     rintro v63 s63 own63
     obtain ⟨p63,c63,rfl⟩:=own63.shape
     rw [hvl] at own63 ⊢
     refine Rg.callA Z Z Z (mz Z) (cloneB_spec (hla.mono fun b o h=>Or.inr h) (by omega)) ?_
     rintro v66 s66 own66
     obtain ⟨p66,c66,rfl⟩:=own66.shape
     rw [hll] at own66 ⊢
     refine uj Z (Pv.build (c:=#[.slice p63 n c63,.slice p66 n c66]) Z Z)<|Rg.storeA Z Z Z Z Z Z Z Z<|nl ?_
     exact Vc.inv6 b17 p63 c63 p66 c66 (s63,s66) ⟨own63,own66⟩ (.cons rfl (.cons rfl (.cons rfl (.cons rfl (.cons rfl (.cons rfl (.cons rfl .nil))))))) pulled
 · rintro b17 pa ca pb cb ⟨s1,s2⟩ ⟨o1,o2⟩
   simp only at o1 o2 ⊢
   refine wj<|sj [.r,.e] Z<|rj Z (Ev.as (cfV (.slice pv n cv) (.slice pl n cl)) (Ev.ldA Z Z) Z)<|Rg.callP Z Z Z (mz Z) (tquiet_spec (hc0.mono fun b o h=>Or.inr h)) ?_
   rintro _ rfl
   refine nl<|cj Z (fun h69=>absurd h69 (by rw [hq];decide)) (fun h69=>?_)
   refine kj<|sj [.p,.p,.r,.p,.r,.e,.p,.p,.p,.p,.p] Z<|mj Z<|mj Z<|rj Z (Ev.as (prV p) (Ev.ldA Z Z) Z)<|mj Z<|rj Z (Ev.as (cfV (.slice pv n cv) (.slice pl n cl)) (Ev.ldA Z Z) Z)<|Rg.callH Z Z Z (mz Z) (fun F' hF'=>messages_z (F:=F') (s1:=s54) hC hB hBx hbf (hc0.mono fun b o h=>hF' b o (.inr h)) hic hq hn h1 h2 hG hG2 hl hcap hk hsh hD hw hup) Z ?_
   rintro _ _ ⟨u,e,D1,sB,sU,g2,now',nx',rfl,hu1,rfl,hD1,hBx1,hO⟩
   rw [lx,lx]
   refine mj Z<|xj Z Z<|xj Z Z<|aj Z<|aj Z<|nl<|wj<|sj [.p,.e,.p] Z<|mj Z<|Rg.callH Z Z Z (mz Z) (fun F' hF'=>boxClear_z (F:=F') hC hBx1 (fun h=>hO.2.elim (fun h'=>h'.2.2.1) (fun h'=>by have:=h'.2.dn;rw [h] at this;cases this)) hD1 hO.wz) rfl ?_
   rintro _ g3 ⟨e2,D2,rfl,hD2,hw2,hcl⟩
   refine aj Z<|nl<|sj [.p,.p] Z<|mj Z<|uj Z (Pv.eql Z Z)<|nl<|Vc.cut1 (fun (e4:Int)=>e4=if e=0 then e2 else e) (fun e4=>[(16,.int .i64 e4),(18,u),(6,.pointer (some ⟨b6,0,none⟩)),(8,.pointer (some ⟨b8,0,none⟩)),(10,.pointer (some ⟨b10,0,none⟩)),(17,.pointer (some ⟨b17,0,none⟩))]) (fun e4=>(b17,cellsO [.slice pa n ca,.slice pb n cb] 84)::(b10,cellsO [.slice none 0 0,.slice none 0 0] 84)::(b8,cellsO [.slice pv n cv,.slice pl n cl] 84)::(b6,cellsO (prC p) 24)::(s1++(s2++(sU++g3)))) ?_ ?_
   · refine cj Z (fun h83=>?_) (fun h83=>?_)
     · refine tj [.p,.p] Z<|mj Z<|aj Z<|nl ?_
       exact Vc.inv1 e2 (by simp only [beq_iff_eq] at h83;rw [if_pos h83]) (.cons rfl (.cons rfl (.cons rfl (.cons rfl (.cons rfl (.cons rfl .nil)))))) pulled
     · refine kj ?_
       exact Vc.inv1 e (by simp only [beq_eq_false_iff_ne,ne_eq] at h83;rw [if_neg h83]) (.cons rfl (.cons rfl (.cons rfl (.cons rfl (.cons rfl (.cons rfl .nil)))))) pulled
   · rintro e4 he4
     have hfin:(e4=0∧Gd BoxT D D2∧Own recE u L sU∧BxF D2 [])∨(e4=7∧Dn BoxT D D2):=by
      rcases hO.2 with ⟨rfl,hG1,⟨fs,hf1,hf2,hf3⟩,hU⟩ | ⟨rfl,hB1⟩
      · rw [if_pos rfl] at he4
        subst he4
        rcases hcl with ⟨hd,h | h⟩ | ⟨hd,_⟩
        · exact .inl ⟨h.1,hG1.trans h.2.1,by rw [hL];exact hU,⟨fun i hi=>(by cases hi),fun k h3 h4=>h.2.2 k (by simp at h3;omega) h4⟩⟩
        · exact .inr ⟨h.1,hG1.dn h.2⟩
        · have:=hG1.up;rw [hd] at this;cases this
      · rw [if_neg (by decide)] at he4
        refine .inr ⟨he4,?_⟩
        rcases hcl with ⟨hd,_⟩ | ⟨hd,hk'⟩
        · have:=hB1.dn;rw [hd] at this;cases this
        · exact hk' BoxT D hB1
     refine wj<|sj [.p,.p] Z<|mj Z<|uj Z (Pv.neq Z Z)<|nl<|cj Z (fun h86=>?_) (fun h86=>?_)
     · simp only [bne_iff_ne,ne_eq] at h86
       obtain ⟨he7,hB7⟩:=hfin.resolve_left (fun h=>h86 h.1)
       refine sj [.p,.p,.e,.p] Z<|uj Z (Pv.build (c:=#[.slice none 0 0,.slice none 0 0]) Z Z)<|mj Z<|Rg.storeA (us:=[.slice none 0 0,.slice none 0 0]) Z Z Z Z Z Z Z Z<|aj Z<|nl ?_
       exact vr (hl':=g3) rfl (.cons (.cellA rfl rfl) (tz Z)) ⟨.slice none 0 0,.slice none 0 0,e4,D2,[],g3,rfl,rfl,rfl,rfl,hD2,hw2,.inr ⟨he7,hB7⟩⟩ pulled
     · simp only [bne_eq_false_iff_eq] at h86
       obtain ⟨_,hGd,hU,hbx2⟩:=hfin.resolve_right (fun h=>by rw [h86] at h;cases h.1)
       refine kj<|wj<|sj [.p,.r,.p,.p] Z<|fj Z<|lj Z Z<|uj Z (Pv.lenS Z)<|mj Z<|nl<|bj ?_
       refine Vc.loop6 (fun (k:Nat) (xs:List Int) (ws:List Bool) (q1 q2:Hl) (S:AdS)=>k≤n∧xs.length=n∧ws.length=n∧(Own u64E (.slice pa n ca) xs q1∧Own boolE (.slice pb n cb) ws q2)∧(∀j,j<k→xs[j]! = (sv j).1)∧(∀j,j<k→ws[j]! = (sv j).2)∧Tl recE S.vl S.rest S.sL∧(∃pre,L=pre++S.rest∧∀x∈pre,x.key<(k:Int))∧∀x∈S.rest,(k:Int)≤x.key) (fun k xs ws q1 q2 S=>[(18,S.vl),(90,.slice pv n cv),(91,.int .i64 (n:Int)),(92,.int .i64 (k:Int)),(6,.pointer (some ⟨b6,0,none⟩)),(8,.pointer (some ⟨b8,0,none⟩)),(10,.pointer (some ⟨b10,0,none⟩)),(17,.pointer (some ⟨b17,0,none⟩))]) (fun k xs ws q1 q2 S=>(b17,cellsO [.slice pa n ca,.slice pb n cb] 84)::(b10,cellsO [.slice none 0 0,.slice none 0 0] 84)::(b6,cellsO (prC p) 24)::(S.sL++(q1++(q2++g3)))) (fun k xs ws q1 q2 S=>n-k) 0 c.vals c.live s1 s2 (⟨L,u,0,sU⟩:AdS) ⟨Nat.zero_le _,hvl,hll,⟨o1,o2⟩,fun j hj=>by omega,fun j hj=>by omega,hU.tl,⟨[],rfl,fun x hx=>by cases hx⟩,fun x hx=>by
        obtain ⟨y,hy,he⟩:=hLk x hx
        obtain ⟨ee,hee,hme⟩:=List.mem_filterMap.1 hy
        unfold msg1 at hme
        split at hme
        · cases hme;rw [←he];simp only;omega
        · cases hme⟩ (.cons rfl (.cons rfl (.cons rfl (.cons rfl (.cons rfl (.cons rfl (.cons rfl (.cons rfl .nil)))))))) pulled ?_
       rintro k xs ws q1 q2 ⟨rest,vl,sm,sL⟩ ⟨hkn,hxl,hwl,⟨p1,p2⟩,hxs,hws,htl,⟨pre,hpre,hprek⟩,hrk⟩
       simp only at htl hpre hrk ⊢
       obtain ⟨pr,cr,rfl⟩:=htl.shape
       have harg:Arg recE (frz F sL) (.slice pr rest.length cr) rest:=Arg.tl htl fun b o hb=>.inl hb
       have hcapR:=htl.cap
       refine sj [.p] Z<|uj Z (Pv.lss Z Z)<|nl<|wj<|cj Z (fun h93=>?_) (fun h93=>?_)
       · simp only [dt] at h93
         have hkn1:k<n:=by omega
         obtain ⟨bx,cx,spx,e,rfl,hcapx,hcmx⟩:=p1.block (by omega)
         simp only [Value.slice.injEq] at e
         obtain ⟨rfl,_,rfl⟩:=e
         obtain ⟨bw,cw,spw,e,rfl,hcapw,hcmw⟩:=p2.block (by omega)
         simp only [Value.slice.injEq] at e
         obtain ⟨rfl,_,rfl⟩:=e
         obtain ⟨bv,ov,cv',e,_⟩:=hva.block (by rw [hvl];omega)
         simp only [Value.slice.injEq] at e
         obtain ⟨rfl,_,rfl⟩:=e
         refine kj<|wj<|bj<|sj [.p,.p,.r,.p,.p] Z<|mj Z<|uj Z (Pv.ixA (k) rfl rfl (by omega) (by omega))<|rj Z (Ev.as (.int .u64 c.vals[k]!) (Ev.ldS (E:=u64E) k hva.src rfl rfl rfl (by rw [hvl];exact hkn1)) rfl)<|aj Z<|aj Z<|nl<|wj<|Vc.cut1 (fun (bl:Bool)=>bl=true↔(0<rest.length∧rest[0]!.key=(k:Int))) (fun bl=>[(18,.slice pr rest.length cr),(22,.int .u64 0),(23,.bool bl),(20,.int .i64 (k:Int)),(21,.int .u64 c.vals[k]!),(90,.slice (some ⟨bv,ov,none⟩) n cv),(91,.int .i64 (n:Int)),(92,.int .i64 (k:Int)),(6,.pointer (some ⟨b6,0,none⟩)),(8,.pointer (some ⟨b8,0,none⟩)),(10,.pointer (some ⟨b10,0,none⟩)),(17,.pointer (some ⟨b17,0,none⟩))]) (fun bl=>(b17,cellsO [.slice (some ⟨bx,0,none⟩) n ca,.slice (some ⟨bw,0,none⟩) n cb] 84)::(b10,cellsO [.slice none 0 0,.slice none 0 0] 84)::(b6,cellsO (prC p) 24)::(sL++([(bx,rowS u64E xs spx)]++([(bw,rowS boolE ws spw)]++g3)))) ?_ ?_
         · refine Vc.draw [] (sd [(0,.pure),(1,.pure),(2,.pure),(3,.pure),(4,.pure),(5,.pure),(6,.pure),(7,.read),(8,.pure),(9,.pure),(10,.pure),(11,.pure),(12,.pure),(13,.pure)]) mixed (by kernel_rfl)<|mj Z<|uj Z (Pv.lenS Z)<|uj Z (Pv.gtr Z Z)<|mj Z<|Rg.split (t:=100) Z (fun h100=>?_) (fun h100=>?_)
           · simp only [dt] at h100
             have hr0:0<rest.length:=by omega
             obtain ⟨bR,oR,cR',e,_⟩:=harg.block hr0
             simp only [Value.slice.injEq] at e
             obtain ⟨rfl,_,rfl⟩:=e
             refine mj Z<|uj Z (Pv.ixA (0) rfl rfl (by omega) (by omega))<|fj Z<|rj Z (Ev.ldSf (E:=recE) (u:=.int .u64 rest[0]!.key) 0 0 (Arg.srcF (s:=sL) harg) Z Z Z hr0 Z)<|mj Z<|uj Z (Pv.asI k (Pv.convI rfl) (wrap_ult rfl (by show _<18446744073709551616;omega)))<|uj Z (Pv.eql Z Z)<|qj Z Z<|aj Z<|aj Z<|nl ?_
             exact Vc.inv1 (rest[0]!.key==(k:Int)) (by rw [beq_iff_eq];exact ⟨fun h=>⟨hr0,h⟩,fun h=>h.2⟩) (.cons rfl (.cons rfl (.cons rfl (.cons rfl (.cons rfl (.cons rfl (.cons rfl (.cons rfl (.cons rfl (.cons rfl (.cons rfl (.cons rfl .nil)))))))))))) pulled
           · simp only [df] at h100
             iterate 7 (first | refine Rg.skipP rfl rfl rfl ?_ | refine Rg.skipR rfl rfl rfl ?_ | refine Rg.skipE rfl rfl rfl ?_)
             refine pj Z Z<|aj Z<|aj Z<|nl ?_
             exact Vc.inv1 false ⟨fun h=>(by cases h),fun h=>by omega⟩ (.cons rfl (.cons rfl (.cons rfl (.cons rfl (.cons rfl (.cons rfl (.cons rfl (.cons rfl (.cons rfl (.cons rfl (.cons rfl (.cons rfl .nil)))))))))))) pulled
         · rintro bl hbl
           refine wj<|sj [.p] Z<|mj Z<|nl<|Vc.cut1 (fun (T:AdS)=>Tl recE T.vl T.rest T.sL∧(∃pre,L=pre++T.rest∧∀x∈pre,x.key<((k+1:Nat):Int))∧(∀x∈T.rest,((k+1:Nat):Int)≤x.key)∧InU T.sum∧(if bl=true then some T.sum else none)=tot (howP p) (k:Int) (msgsC p es c)) (fun T=>[(18,T.vl),(22,.int .u64 T.sum),(23,.bool bl),(20,.int .i64 (k:Int)),(21,.int .u64 c.vals[k]!),(90,.slice (some ⟨bv,ov,none⟩) n cv),(91,.int .i64 (n:Int)),(92,.int .i64 (k:Int)),(6,.pointer (some ⟨b6,0,none⟩)),(8,.pointer (some ⟨b8,0,none⟩)),(10,.pointer (some ⟨b10,0,none⟩)),(17,.pointer (some ⟨b17,0,none⟩))]) (fun T=>(b17,cellsO [.slice (some ⟨bx,0,none⟩) n ca,.slice (some ⟨bw,0,none⟩) n cb] 84)::(b10,cellsO [.slice none 0 0,.slice none 0 0] 84)::(b6,cellsO (prC p) 24)::(T.sL++([(bx,rowS u64E xs spx)]++([(bw,rowS boolE ws spw)]++g3)))) ?_ ?_
           · refine cj Z (fun h109=>?_) (fun h109=>?_)
             · obtain ⟨hr0,hrk0⟩:=hbl.1 h109
               obtain ⟨r,t,hrt⟩:∃r t,rest=r::t:=by
                cases rest with
                | nil=>simp at hr0
                | cons r t=>exact ⟨r,t,rfl⟩
               have hr00:rest[0]! = r:=by rw [hrt];rfl
               rw [hr00] at hrk0
               have hrl:=congrArg List.length hrt
               rw [List.length_cons] at hrl
               obtain ⟨bR,oR,cR',e,_⟩:=harg.block hr0
               simp only [Value.slice.injEq] at e
               obtain ⟨rfl,_,rfl⟩:=e
               have hfrom:=htl.from (k:=1) hr0 hr0
               rw [hrt,List.drop_one,List.tail_cons,show recE.k=2 from rfl] at hfrom
               have hLu2:=hLu
               rw [hpre,hrt] at hLu2
               have htk3:=(List.pairwise_cons.1 (List.pairwise_append.1 hLu2).2.1).1
               have htot:tot (howP p) (k:Int) (msgsC p es c)=some r.val:=by rw [←hLt];exact tot_head (by rw [hpre,hrt]) hLu hprek hrk0 hLN
               refine Vc.draw [] (sd [(0,.pure),(1,.pure),(2,.pure),(3,.read),(4,.pure),(5,.pure),(6,.pure),(7,.pure)]) mixed (by kernel_rfl)<|mj Z<|uj Z (Pv.ixA (0) rfl rfl (by omega) (by omega))<|fj Z<|rj Z (Ev.as (.int .u64 r.val) (Ev.ldSf (E:=recE) (u:=.int .u64 rest[0]!.val) 0 1 (Arg.srcF (s:=sL) harg) Z Z Z hr0 Z) (congrArg (fun x:Rc=>Value.int .u64 x.val) hr00))<|mj Z<|uj Z (Pv.sl (lv:=some (.int .i64 ((1:Nat):Int))) (hv:=none) 1 rest.length Z Z Z hr0 hcapR (fun _=>hcapR))<|aj Z<|aj Z<|nl ?_
               exact Vc.inv1 (⟨t,_,r.val,sL⟩:AdS) ⟨by rw [←hrt] at hfrom;exact hfrom,⟨pre++[r],by rw [hpre,hrt,lx,List.singleton_append],fun x hx=>(List.mem_append.1 hx).elim (fun h=>by have:=hprek x h;omega) (fun h=>by rw [List.mem_singleton] at h;rw [h];omega)⟩,fun x hx=>by have:=htk3 x hx;omega,tot_in hmi _ htot,by rw [if_pos h109,htot]⟩ (.cons rfl (.cons rfl (.cons rfl (.cons rfl (.cons rfl (.cons rfl (.cons rfl (.cons rfl (.cons rfl (.cons rfl (.cons rfl (.cons rfl .nil)))))))))))) pulled
             · have hnr:∀x∈rest,(k:Int)<x.key:=fun x hx=>by
                have h3:=hrk x hx
                have hb2 : ¬(0<rest.length∧rest[0]!.key=(k:Int)):=fun h=>by rw [hbl.2 h] at h109;cases h109
                cases rest with
                | nil=>cases hx
                | cons r t =>
                 have h4:=hrk r (by simp)
                 have h5:r.key≠(k:Int):=fun h=>hb2 ⟨by simp,h⟩
                 rcases List.mem_cons.1 hx with rfl | hx
                 · omega
                 · have hLu2:=hLu
                   rw [hpre] at hLu2
                   have:=(List.pairwise_cons.1 (List.pairwise_append.1 hLu2).2.1).1 x hx
                   omega
               have htot:tot (howP p) (k:Int) (msgsC p es c)=none:=by rw [←hLt];exact tot_not hpre hprek hnr
               refine kj ?_
               exact Vc.inv1 (⟨rest,.slice pr rest.length cr,0,sL⟩:AdS) ⟨htl,⟨pre,hpre,fun x hx=>by have:=hprek x hx;omega⟩,fun x hx=>by have:=hnr x hx;omega,(show InU 0 from ⟨Int.le_refl _,by decide⟩),by rw [if_neg (by rw [h109];decide),htot]⟩ (.cons rfl (.cons rfl (.cons rfl (.cons rfl (.cons rfl (.cons rfl (.cons rfl (.cons rfl (.cons rfl (.cons rfl (.cons rfl (.cons rfl .nil)))))))))))) pulled
           · clear htl hpre hprek hrk hcapR harg hbl
             rintro ⟨rest,vl,sm,sL⟩ ⟨htl,hpre,hrk,hsm,hso⟩
             simp only at htl hpre hrk hsm hso ⊢
             have hsvk:sv k=nextP p c.vals[k]! (tot (howP p) (k:Int) (msgsC p es c)):=by rw [hsv]
             rw [←hso] at hsvk
             refine Vc.drawS [17] (sd [(0,.pure),(1,.read),(2,.pure),(3,.pure),(4,.read),(5,.pure),(6,.read),(7,.pure),(8,.pure),(9,.pure),(10,.eff),(11,.pure),(12,.pure),(13,.pure),(14,.pure),(15,.eff),(16,.pure),(17,.eff)]) [(b17,cellsO [.slice (some ⟨bx,0,none⟩) n ca,.slice (some ⟨bw,0,none⟩) n cb] 84),(b6,cellsO (prC p) 24)] pulled mixed (by kernel_rfl)<|fj Z<|lj Z Z<|mj Z<|fj Z<|lj Z Z<|mj Z<|rj Z (Ev.as (prV p) (Ev.ldA Z Z) Z)<|mj Z<|mj Z<|mj Z ?_
             refine Rg.callPN Z Z Z (mz Z) (tnext_spec c.vals[k]! (hin k hkn1) sm hsm bl) ?_
             rintro _ rfl
             rw [←hsvk]
             refine mj Z<|xj Z Z<|xj Z Z<|uj Z (Pv.ixA (k) rfl rfl (by omega) (by omega))<|Rg.storeRN (E:=u64E) (z:=(sv k).1) k rfl rfl rfl rfl rfl rfl (Nat.zero_add _) (by omega)<|uj Z (Pv.ixA (k) rfl rfl (by omega) (by omega))<|Rg.storeR (E:=boolE) (z:=(sv k).2) k rfl rfl rfl rfl rfl rfl (Nat.zero_add _) (by omega) rfl<|nl<|dj<|tj [.p,.p] Z<|uj Z (Pv.asI (k+1) (Pv.add rfl rfl (by omega)) (by omega))<|mj Z<|nl ?_
             exact Vc.inv6 (k+1) (xs.set k (sv k).1) (ws.set k (sv k).2) [(bx,rowS u64E (xs.set k (sv k).1) spx)] [(bw,rowS boolE (ws.set k (sv k).2) spw)] (⟨rest,vl,sm,sL⟩:AdS) ⟨⟨by omega,by rw [List.length_set,hxl],by rw [List.length_set,hwl],⟨Own.blk' bx ca n _ spx (by rw [List.length_set,hxl]) (by rw [←hxl];exact hcapx) hcmx,Own.blk' bw cb n _ spw (by rw [List.length_set,hwl]) (by rw [←hwl];exact hcapw) hcmw⟩,fun j hj=>by
              rw [get_set2 xs _ j _ (by omega)]
              by_cases e:k=j
              · rw [if_pos e,e]
              · rw [if_neg e];exact hxs j (by omega),fun j hj=>by
              rw [get_set2 ws _ j _ (by omega)]
              by_cases e:k=j
              · rw [if_pos e,e]
              · rw [if_neg e];exact hws j (by omega),htl,hpre,hrk⟩,by omega⟩ (.cons rfl (.cons rfl (.cons rfl (.cons rfl (.cons rfl (.cons rfl (.cons rfl (.cons rfl .nil)))))))) pulled
       · simp only [df] at h93
         obtain rfl:k=n:=by omega
         have hX:=list_of hxl hxs
         have hW:=list_of hwl hws
         refine Vc.exit Z<|sj [.r,.e,.p] Z<|rj Z (Ev.as (cfV (.slice pa k ca) (.slice pb k cb)) (Ev.ldA Z Z) Z)<|Rg.storeA (us:=[.slice pa k ca,.slice pb k cb]) Z Z Z Z Z Z Z Z<|aj Z<|nl ?_
         exact vr (hl':=q1++(q2++g3)) rfl (.cons (.cellA rfl rfl) (tz Z)) ⟨.slice pa k ca,.slice pb k cb,0,D2,q1++q2,g3,rfl,rfl,rfl,by rw [lx],hD2,hw2,.inl ⟨rfl,hGd,by rw [hst];exact ⟨_,_,q1,q2,rfl,by rw [←hX];exact p1,by rw [←hW];exact p2,rfl⟩,hbx2⟩⟩ pulled
end
end Go.Proofs.YtkpiakgmkpbikaaGreatDoor
namespace Go.Proofs.YtkpiakgmkpbikaaGreatDoor
instance : TySl Tryz.prog 238 slE 24:=⟨Tryz.underlying238,Tryz.t40,.slice none 0 0,by kernel_rfl,by kernel_rfl,rfl,rfl,rfl⟩
inductive OwnsB:List Sv→List (List UInt8)→Hl→Prop
 | nil:OwnsB [] [] []
 | snoc {vs:List Sv} {xss:List (List UInt8)} {hl seg:Hl} {s:Sv} {xs:List UInt8} (h:OwnsB vs xss hl) (own:Own byteE s.v xs seg):OwnsB (vs++[s]) (xss++[xs]) (seg++hl)
theorem OwnsB.len {vs:List Sv} {xss:List (List UInt8)} {hl:Hl} (h:OwnsB vs xss hl):vs.length=xss.length:=by
 induction h with
 | nil=>rfl
 | snoc h own ih=>simp [ih]
theorem OwnsB.arg {vs:List Sv} {xss:List (List UInt8)} {hl:Hl} (h:OwnsB vs xss hl) {F:Fm} (hF:∀b o,(b,o)∈hl→F.at_ b o):∀i,i<xss.length→Arg byteE F vs[i]!.v xss[i]! := by
 induction h with
 | nil=>intro i hi;simp at hi
 | @snoc vs xss hl seg s xs h own ih =>
  intro i hi
  have hlen:=h.len
  simp at hi
  by_cases e:i<xss.length
  · rw [getElem!_pos (vs++[s]) i (by simp;omega),getElem!_pos (xss++[xs]) i (by simp;omega),List.getElem_append_left (by omega),List.getElem_append_left e,←getElem!_pos vs i (by omega),←getElem!_pos xss i e]
    exact ih (fun b o hb=>hF b o (List.mem_append_right _ hb)) i e
  · have e1:i=xss.length:=by omega
    rw [getElem!_pos (vs++[s]) i (by simp;omega),getElem!_pos (xss++[xs]) i (by simp;omega),List.getElem_append_right (by omega),List.getElem_append_right (by omega)]
    simp [e1,hlen]
    exact Arg.own own fun b o hb=>hF b o (List.mem_append_left _ hb)
def OwnRB (v:Value) (xss:List (List UInt8)) (hl:Hl):Prop:=∃vs s0 s1,Own slE v vs s0∧OwnsB vs xss s1∧hl=s0++s1
def joinG (xss:List (List UInt8)):List UInt8:=(xss.map encG).flatten
theorem joinG_snoc (xss:List (List UInt8)) (x:List UInt8):joinG (xss++[x])=joinG xss++encG x:=by simp [joinG]
theorem joinG_take {xss:List (List UInt8)} {i:Nat} (h:i<xss.length):joinG (xss.take (i+1))=joinG (xss.take i)++encG xss[i]! := by
 rw [List.take_succ_eq_append_getElem h,getElem!_pos xss i h,joinG_snoc]
theorem joinG_split {xss:List (List UInt8)} (i:Nat):joinG xss=joinG (xss.take i)++joinG (xss.drop i):=by
 unfold joinG;rw [←List.flatten_append,←List.map_append,List.take_append_drop]
theorem joinG_le {xss:List (List UInt8)} (i:Nat):(joinG (xss.take i)).length≤(joinG xss).length:=by
 rw [joinG_split (xss:=xss) i,ly];omega
theorem joinG_drop {xss:List (List UInt8)} {i:Nat} (h:i<xss.length):joinG (xss.drop i)=encG xss[i]! ++ joinG (xss.drop (i+1)):=by
 unfold joinG;rw [List.drop_eq_getElem_cons h,getElem!_pos xss i h,List.map_cons,List.flatten_cons]
theorem join_spec {F:Fm} {v:Value} {vs:List Sv} {xss:List (List UInt8)} (ha:ArgRB F v vs xss) (hN:xss.length<1000000) (hx:∀x∈xss,x.length≤1000) (hT:(joinG xss).length<1073741824) :
 Spec Tryz.prog 243 #[v] F [] fun v s=>∃u,v=.tuple #[u,.int .i64 0]∧Own byteE u (joinG xss) s:=by
 obtain ⟨p,c,rfl⟩:=ha.top.shape
 have hl:=ha.len
 have hat:=ha.top
 refine Spec.of (n:=28) (vs:=[.slice p vs.length c]) Tryz.func243 rfl Tryz.ntmps243 rfl ?_
 refine sj [.p,.p] Z<|aj Z<|aj Z<|nl<|sj [.p] Z<|aj Z<|nl<|wj<|sj [.p,.p,.p] Z<|mj Z<|uj Z (Pv.lenS Z)<|mj Z<|nl<|bj ?_
 refine Vc.loop3 (fun (i:Nat) (w:Value) (sg:Hl)=>i≤vs.length∧Own byteE w (joinG (xss.take i)) sg) (fun i w sg=>[(0,.slice p vs.length c),(4,w),(9,.slice p vs.length c),(10,.int .i64 (vs.length:Int)),(11,.int .i64 (i:Int))]) (fun i w sg=>sg) (fun i w sg=>vs.length-i) 0 (.slice none 0 0) [] ⟨Nat.zero_le _,Own.nil⟩ (.cons Z (.cons Z (.cons Z (.cons Z (.cons Z .nil))))) pulled ?_
 rintro i w sg ⟨hi,own⟩
 have hfl:=joinG_le (xss:=xss) i
 refine sj [.p] Z<|uj Z (Pv.lss Z Z)<|nl<|wj<|cj Z (fun h12=>?_) (fun h12=>?_)
 · simp only [dt] at h12
   obtain ⟨b,off,c1,e,_⟩:=hat.block (by omega)
   cases e
   have hft:=joinG_take (xss:=xss) (i:=i) (by omega)
   have hfl2:=joinG_le (xss:=xss) (i+1)
   have hfll:=congrArg List.length hft
   rw [ly] at hfll
   have hr:=ha.rows i (by omega)
   obtain ⟨⟨pk,mk,ck⟩,hs⟩:∃s,vs[i]! = s:=⟨_,rfl⟩
   rw [hs] at hr
   obtain rfl:mk=xss[i]!.length:=hr.cap.1
   have hxi:xss[i]!.length≤1000:=by rw [getElem!_pos xss i (by omega)];exact hx _ (List.getElem_mem _)
   refine kj<|wj<|bj<|sj [.p,.r,.p] Z<|uj Z (Pv.ixA (i) rfl rfl (by omega) (by omega))<|rj Z (Ev.as (.slice pk xss[i]!.length ck) (Ev.ldS (E:=slE) i hat.src rfl rfl rfl (by omega)) (congrArg slE.val hs))<|aj Z<|nl<|sj [.p,.e,.p,.p,.p,.p,.p] Z<|mj Z<|Rg.callA Z Z Z (mz Z) (encode_spec (hr.mono fun b o h=>Or.inr h) hxi) ?_
   rintro v17 s17 ⟨u17,rfl,own17⟩
   obtain ⟨p17,c17,rfl⟩:=own17.shape
   refine mj Z<|xj Z Z<|xj Z Z<|aj Z<|aj Z<|nl<|wj<|sj [.p,.p] Z<|mj Z<|uj Z (Pv.neq Z Z)<|nl<|cj Z (fun h21=>absurd h21 (by decide)) (fun h21=>?_)
   refine kj<|tj [.p,.p,.e,.p] Z<|mj Z<|mj Z<|Rg.append Z Z Z Z Z own (Src.own (rest:=sg) own17 (fun x hx=>by simp [hx])) (by rw [encG_length];omega) (by rw [show maxLen=9223372036854775807 from rfl,encG_length];omega) rfl (fun v25 s25 own25=>?_)
   refine aj Z<|nl<|dj<|tj [.p,.p] Z<|uj Z (Pv.asI (i+1) (Pv.add rfl rfl (by omega)) (by omega))<|mj Z<|nl ?_
   exact Vc.inv3 (i+1) v25 s25 ⟨⟨by omega,by rw [hft];exact own25⟩,by omega⟩ (.cons rfl (.cons rfl (.cons rfl (.cons rfl (.cons rfl .nil))))) pulled
 · simp only [df] at h12
   obtain rfl:i=vs.length:=by omega
   rw [List.take_of_length_le (by omega)] at own
   refine Vc.exit Z<|sj [.p,.p,.p] Z<|mj Z<|aj Z<|aj Z<|nl ?_
   exact vr rfl (.cons (.tmp rfl) (tz Z)) (⟨_,rfl,own⟩) pulled
theorem all_spec {F:Fm} {v:Value} {xss:List (List UInt8)} (ha:Arg byteE F v (joinG xss)) (hx:∀x∈xss,x.length≤1000) (hT:(joinG xss).length<1000000) :
 Spec Tryz.prog 212 #[v] F [] fun v s=>∃u,v=.tuple #[u,.int .i64 0,.int .i64 0]∧OwnRB u xss s:=by
 obtain ⟨p,c,rfl⟩:=ha.shape
 have hcap:=ha.cap.2
 have hlx:∀i,i≤xss.length→i≤(joinG (xss.take i)).length:=by
  intro i
  induction i with
  | zero=>intro _;exact Nat.zero_le _
  | succ i ih=>intro hi;rw [joinG_take (by omega),ly,encG_length];have:=ih (by omega);omega
 refine Spec.of (n:=32) (vs:=[.slice p (joinG xss).length c]) Tryz.func212 rfl Tryz.ntmps212 rfl ?_
 refine sj [.p,.p,.p] Z<|aj Z<|aj Z<|aj Z<|nl<|wj<|bj ?_
 refine Vc.loop4 (fun (i:Nat) (w:Value) (s0 s1:Hl)=>i≤xss.length∧∃vs,Own slE w vs s0∧OwnsB vs (xss.take i) s1) (fun i w s0 s1=>[(0,.slice p (joinG xss).length c),(2,w),(3,.int .i64 ((joinG (xss.take i)).length:Int))]) (fun i w s0 s1=>s0++s1) (fun i w s0 s1=>xss.length-i) 0 (.slice none 0 0) [] [] ⟨Nat.zero_le _,[],Own.nil,.nil⟩ (.cons Z (.cons Z (.cons Z .nil))) pulled ?_
 rintro i w s0 s1 ⟨hi,vs,own,owns⟩
 have hfl:=joinG_le (xss:=xss) i
 have hlv:=owns.len
 simp only [List.length_take] at hlv
 refine wj<|sj [.p,.p,.p,.p] Z<|mj Z<|mj Z<|uj Z (Pv.lenS Z)<|uj Z (Pv.lss Z Z)<|nl<|cj Z (fun h11=>?_) (fun h11=>?_)
 · simp only [dt] at h11
   have hi1:i<xss.length:=by
    rcases Nat.lt_or_ge i xss.length with h | h
    · exact h
    · rw [List.take_of_length_le h] at h11;omega
   have hft:=joinG_take (xss:=xss) (i:=i) hi1
   have hfl2:=joinG_le (xss:=xss) (i+1)
   have hfll:=congrArg List.length hft
   rw [ly,encG_length] at hfll
   have hdr:(joinG xss).drop (joinG (xss.take i)).length=encG xss[i]! ++ joinG (xss.drop (i+1)):=by
    rw [joinG_split (xss:=xss) i,List.drop_left' rfl,joinG_drop hi1]
   have hxi:xss[i]!.length≤1000:=by rw [getElem!_pos xss i hi1];exact hx _ (List.getElem_mem _)
   have hlx1:=hlx i hi
   have hfrom:=ha.from (i:=(joinG (xss.take i)).length) (by omega)
   refine kj<|bj<|sj [.p,.p,.p,.e,.p,.p,.p,.p,.p,.p,.p] Z<|mj Z<|mj Z<|uj Z (Pv.sl (lv:=some (.int .i64 ((joinG (xss.take i)).length:Int))) (hv:=none) (joinG (xss.take i)).length (joinG xss).length rfl rfl rfl (by omega) (by omega) (by simp;omega))<|Rg.callA Z Z Z (mz Z) (decode_spec (b:=(joinG xss).drop (joinG (xss.take i)).length) (hfrom.mono fun b o h=>Or.inr h) (by rw [List.length_drop];omega)) ?_
   rintro v16 s16 ⟨u16,rfl,own16⟩
   rw [hdr,decG_encG hxi] at own16
   rw [hdr,decG_encG hxi]
   dsimp only at own16 ⊢
   obtain ⟨p16,c16,rfl⟩:=own16.shape
   refine mj Z<|xj Z Z<|xj Z Z<|xj Z Z<|aj Z<|aj Z<|aj Z<|nl<|wj<|sj [.p,.p] Z<|mj Z<|uj Z (Pv.neq Z Z)<|nl<|cj Z (fun h21=>absurd h21 (by decide)) (fun h21=>?_)
   refine kj<|sj [.p,.p,.e,.e,.p] Z<|mj Z<|mj Z<|Rg.bslice1 Z Z Z Z Z Z Z (fun b26=>?_)
   refine Rg.append Z Z Z Z Z own (ys:=[⟨p16,xss[i]!.length,c16⟩]) (Src.one (vs:=[.slice p16 xss[i]!.length c16]) (by rfl)) (by simp<;>omega) (by simp [maxLen]<;>omega) rfl (fun v27 s27 own27=>?_)
   refine aj Z<|nl<|tj [.p,.p,.p,.p] Z<|mj Z<|mj Z<|uj Z (Pv.asI ((joinG (xss.take (i+1))).length) (Pv.add rfl rfl (by omega)) (by omega))<|aj Z<|nl<|dj ?_
   exact Vc.inv4 (i+1) v27 s27 (s16++s1) ⟨⟨by omega,vs++[⟨p16,xss[i]!.length,c16⟩],own27,by rw [List.take_succ_eq_append_getElem hi1,←getElem!_pos xss i hi1];exact .snoc owns own16⟩,by omega⟩ (.cons rfl (.cons rfl (.cons rfl .nil))) pulled
 · simp only [df] at h11
   have hie:i=xss.length:=by
    rcases Nat.lt_or_ge i xss.length with h | h
    · have h1:=congrArg List.length (joinG_split (xss:=xss) i)
      rw [joinG_drop h,ly,ly,encG_length] at h1
      omega
    · omega
   subst hie
   rw [List.take_of_length_le (Nat.le_refl _)] at owns
   refine Vc.exit Z<|sj [.p,.p,.p,.p] Z<|mj Z<|aj Z<|aj Z<|aj Z<|nl ?_
   exact vr rfl (.cons (.tmp rfl) (.cons (.tmp rfl) (tz Z))) (⟨_,rfl,vs,s0,s1,own,owns,rfl⟩) pulled
abbrev chunkVB (p:Option Addr) (n len i:Nat):Value:=.slice (chunkP p (i*n*1)) (min n (len-i*n)) (min n (len-i*n))
def chunkLB {α:Type} (n:Nat) (xs:List α) (i:Nat):List α:=(xs.drop (i*n)).take (min n (xs.length-i*n))
theorem chunkB_arg {F:Fm} {p:Option Addr} {n c i:Nat} {xs:List UInt8} (ha:Arg byteE F (.slice p xs.length c) xs) (hi:i*n<xs.length):Arg byteE F (chunkVB p n xs.length i) (chunkLB n xs i):=by
 rcases ha with ⟨e,h⟩ | ⟨b,off,c',e,hc,hcell⟩
 · subst h;simp at hi
 · cases e
   have hlen:(chunkLB n xs i).length=min n (xs.length-i*n):=by simp [chunkLB]
   refine .inr ⟨b,off+i*n*1,min n (xs.length-i*n),by rw [hlen];rfl,by rw [hlen];exact Nat.le_refl _,fun w hw q u hu=>?_⟩
   have e1:flat byteE xs=flat byteE (xs.take (i*n))++(flat byteE (chunkLB n xs i)++flat byteE ((xs.drop (i*n)).drop (min n (xs.length-i*n)))):=by
    rw [chunkLB,←flat_append,List.take_append_drop,←flat_append,List.take_append_drop]
   have hl2:(flat byteE (xs.take (i*n))).length=i*n*1:=by rw [flat_length,List.length_take,Nat.min_eq_left (by omega)];rfl
   have:=hcell w hw (i*n*1+q) u (by
    rw [e1,List.getElem?_append_right (by omega),hl2,show i*n*1+q-i*n*1=q by omega,List.getElem?_append_left (List.getElem?_eq_some_iff.1 hu).1,hu])
   rwa [←Nat.add_assoc] at this
theorem chunkB_spec {F:Fm} {p:Option Addr} {m c:Nat} (n:Nat) (hn:1≤n) :
 Spec Tryz.prog 213 #[.slice p m c,.int .i64 (n:Int)] F [] fun v s=>∃b1 b2,v=.func (.func 241) #[] #[.pointer (some ⟨b1,0,none⟩),.pointer (some ⟨b2,0,none⟩)]∧s=[(b2,cellsO [.int .i64 (n:Int)] 3),(b1,cellsO [.slice p m c] 40)]:=by
 refine Spec.of (n:=9) (vs:=[.slice p m c,.int .i64 (n:Int)]) Tryz.func213 rfl Tryz.ntmps213 rfl ?_
 refine sj [.e,.e,.p] Z<|Rg.box Z Z Z Z Z (fun b2=>?_)
 refine Rg.box Z Z Z Z Z (fun b3=>?_)
 refine aj Z<|nl<|wj<|sj [.r,.p] Z<|lj Z Z<|uj Z (Pv.lss Z Z)<|nl<|cj Z (fun h6=>absurd h6 (by simp only [dt];omega)) (fun h6=>?_)
 refine kj<|sj [.p,.p] Z<|uj Z (Pv.mkF Z Z)<|aj Z<|nl ?_
 exact vr rfl (tz Z) (⟨b2,b3,rfl,rfl⟩) pulled
theorem chunkB_iter {F:Fm} {p:Option Addr} {c:Nat} {xs:List UInt8} (ha:Arg byteE F (.slice p xs.length c) xs) (hN:xs.length<1073741824) (n:Nat) (hn:1≤n) (hn2:n≤1000) (b1 b2:Nat) :
 IterE Tryz.prog 241 [.pointer (some ⟨b1,0,none⟩),.pointer (some ⟨b2,0,none⟩)] F (fun i=>[chunkVB p n xs.length i]) (fun pre=>∃m,m≤nc n xs.length∧pre=List.range m) (fun ys=>ys=List.range (nc n xs.length)) [(b2,cellsO [.int .i64 (n:Int)] 3),(b1,cellsO [.slice p xs.length c] 40)]:=by
 intro lr J X F1 hF1 hY hc0 hJ0
 have ha1:=ha.mono hF1
 have hcap:=ha1.cap.2
 refine Spec.of (n:=31) (vs:=[.func (.yield lr) #[] #[],.pointer (some ⟨b1,0,none⟩),.pointer (some ⟨b2,0,none⟩)]) Tryz.func241 rfl Tryz.ntmps241 rfl ?_
 refine sj [.p] Z<|aj Z<|nl<|bj ?_
 refine Vc.loop3 (fun (k i:Nat) (hc:Hl)=>i=k*n∧k≤nc n xs.length∧i≤xs.length+n∧J (List.range k) hc) (fun k i hc=>[(0,.func (.yield lr) #[] #[]),(1,.pointer (some ⟨b1,0,none⟩)),(2,.pointer (some ⟨b2,0,none⟩)),(4,.int .i64 (i:Int))]) (fun k i hc=>(b2,cellsO [.int .i64 (n:Int)] 3)::(b1,cellsO [.slice p xs.length c] 40)::hc) (fun k i hc=>xs.length+n-i) 0 0 hc0 ⟨by omega,Nat.zero_le _,Nat.zero_le _,hJ0⟩ (.cons rfl (.cons rfl (.cons rfl (.cons rfl .nil)))) pulled ?_
 rintro k i hc ⟨hik,hk,hib,hJ⟩
 refine wj<|sj [.p,.r,.p,.p] Z<|mj Z<|lj Z Z<|uj Z (Pv.lenS Z)<|uj Z (Pv.lss Z Z)<|nl<|cj Z (fun h9=>?_) (fun h9=>?_)
 · simp only [dt] at h9
   obtain ⟨b,off,c',e,_⟩:=ha1.block (by omega)
   cases e
   have hi1:i<xs.length:=by omega
   have hk1:k<nc n xs.length:=(nc_lt hn).2 (by omega)
   have hks:(k+1)*n=k*n+n:=by rw [Nat.add_mul,Nat.one_mul]
   have hY1:=hY (List.range k) k ⟨k+1,hk1,List.range_succ.symm⟩ hc hJ
   simp only [chunkVB,←hik] at hY1
   refine kj<|wj<|bj<|wj ?_
   refine Vc.draw [] (sd [(0,.read),(1,.read),(2,.pure),(3,.pure),(4,.pure),(5,.pure),(6,.pure)]) mixed (by kernel_rfl)<|lj Z Z<|lj Z Z<|mj Z<|uj Z (Pv.slFrom (i) rfl rfl (by omega) (by omega))<|uj Z (Pv.lenS Z)<|uj Z (Pv.asI (min n (xs.length-i)) (Pv.min rfl rfl) (by omega))<|aj Z<|nl<|sj [.p,.r,.p,.p,.p,.p,.p,.p,.p,.p,.e,.p] Z<|mj Z<|lj Z Z<|mj Z<|mj Z<|mj Z ?_
   refine uj Z (Pv.asI (i+min n (xs.length-i)) (Pv.add rfl rfl (by omega)) (by omega))<|mj Z<|mj Z<|uj Z (Pv.asI (i+min n (xs.length-i)) (Pv.add rfl rfl (by omega)) (by omega))<|uj Z (Pv.as (.slice (chunkP (some ⟨b,off,none⟩) (i*1)) (min n (xs.length-i)) (min n (xs.length-i))) (Pv.sl3 i (i+min n (xs.length-i)) (i+min n (xs.length-i)) rfl rfl rfl rfl (by omega) (by omega) (by omega)) (by rw [if_neg (by omega),show i+min n (xs.length-i)-i=min n (xs.length-i) by omega];rfl))<|Rg.yieldH Z Z Z Z Z (fun F' hF'=>hY1 F' (fun b o h=>hF' b o (.inr h))) Z ?_
   rintro v29 hc' hor
   obtain ⟨vb,rfl⟩:∃vb,v29=.bool vb:=hor.elim (fun h=>⟨_,h.1⟩) (fun h=>⟨_,h.1⟩)
   refine uj Z (Pv.not Z)<|nl<|cj Z (fun h30=>?_) (fun h30=>?_)
   · have hX:X hc':=(hor.resolve_left (fun h=>by cases h.1;cases h30)).2
     exact vr rfl (.nil) ((.inr hX)) pulled
   · have hJ':J (List.range (k+1)) hc':=by rw [List.range_succ];exact (hor.resolve_right (fun h=>by cases h.1;cases h30)).2
     refine kj<|dj<|tj [.p,.r,.p,.p] Z<|mj Z<|lj Z Z<|uj Z (Pv.asI (i+n) (Pv.add rfl rfl (by omega)) (by omega))<|aj Z<|nl ?_
     exact Vc.inv3 (k+1) (i+n) hc' ⟨⟨by omega,hk1,by omega,hJ'⟩,by omega⟩ (.cons rfl (.cons rfl (.cons rfl (.cons rfl .nil)))) pulled
 · simp only [df] at h9
   have hkn:k=nc n xs.length:=by
    have:=mt (nc_lt (k:=k) (len:=xs.length) hn).1 (by omega)
    omega
   refine Vc.exit Z ?_
   exact Vc.fin (Vc.retsH rfl .nil ((.inl ⟨List.range (nc n xs.length),rfl,hkn▸hJ⟩)) pulled)
def pairG (a b:Nat):List UInt8:=leBytes 8 a++leBytes 8 b
def vB (x:Int) (l:Bool):List UInt8:=leBytes 8 x.toNat++[if l then 1 else 0]
def bodyG (c:Cf) (k:Nat):List UInt8:=((List.range k).map fun v:Nat=>vB c.vals[v]! c.live[v]!).flatten
def stG (step:Nat) (c:Cf):List (List UInt8):=pairG step c.vals.length::(if c.vals.length=0 then [] else [bodyG c c.vals.length])
def stB (step:Nat) (c:Cf):List UInt8:=joinG (stG step c)
theorem vB_length (x:Int) (l:Bool):(vB x l).length=9:=by simp [vB]
theorem bodyG_succ (c:Cf) (k:Nat):bodyG c (k+1)=bodyG c k++vB c.vals[k]! c.live[k]! := by
 unfold bodyG
 rw [List.range_succ,List.map_append,List.flatten_append,List.map_singleton,List.flatten_singleton]
theorem bodyG_length (c:Cf):∀k,(bodyG c k).length=9*k
 | 0=>rfl
 | k+1=>by rw [bodyG_succ,ly,bodyG_length c k,vB_length];omega
theorem bodyG_at (c:Cf) (i:Nat):∀d,∃rest,bodyG c (i+1+d)=bodyG c i++(vB c.vals[i]! c.live[i]! ++ rest)
 | 0=>⟨[],by rw [Nat.add_zero,bodyG_succ,List.append_nil]⟩
 | d+1=>by
  obtain ⟨r,h⟩:=bodyG_at c i d
  exact ⟨r++vB c.vals[i+1+d]! c.live[i+1+d]!,by rw [←Nat.add_assoc,bodyG_succ,h];simp only [lx]⟩
theorem chunkLB_body (c:Cf) {n i:Nat} (hi:i<n):chunkLB 9 (bodyG c n) i=vB c.vals[i]! c.live[i]! := by
 obtain ⟨d,rfl⟩:∃d,n=i+1+d:=⟨n-(i+1),by omega⟩
 obtain ⟨r,h⟩:=bodyG_at c i d
 unfold chunkLB
 rw [bodyG_length,h,List.drop_left' (by rw [bodyG_length];omega),List.take_left' (by rw [vB_length];omega)]
theorem pairG_length (a b:Nat):(pairG a b).length=16:=by simp [pairG]
theorem stG_le {step:Nat} {c:Cf} (hn:c.vals.length≤100):∀x∈stG step c,x.length≤1000:=by
 intro x hx
 unfold stG at hx
 rcases List.mem_cons.1 hx with rfl | hx
 · rw [pairG_length];omega
 · split at hx
   · cases hx
   · rw [List.mem_singleton] at hx;subst hx;rw [bodyG_length];omega
theorem stB_length (step:Nat) (c:Cf):(stB step c).length=if c.vals.length=0 then 22 else 28+9*c.vals.length:=by
 unfold stB stG
 split
 · simp [joinG,encG_length,pairG_length]
 · simp [joinG,encG_length,pairG_length,bodyG_length];omega
theorem stB_le {step:Nat} {c:Cf} (hn:c.vals.length≤100):(stB step c).length≤1000:=by
 rw [stB_length];split<;>omega
theorem stG_length_le {step:Nat} {c:Cf}:(stG step c).length≤2:=by
 unfold stG;split<;>simp
def txG (step:Nat) (c:Cf) (i:Nat):List (List UInt8):=if i<c.vals.length then [pairG step c.vals.length] else stG step c
def teG (c:Cf) (i:Nat):List UInt8:=if i<c.vals.length then bodyG c i else []
theorem txG_zero (step:Nat) (c:Cf):txG step c 0=[pairG step c.vals.length]:=by
 unfold txG
 split
 · rfl
 · unfold stG;rw [if_pos (by omega)]
theorem teG_zero (c:Cf):teG c 0=[]:=by unfold teG;split<;>rfl
theorem pair_spec {F:Fm} (a b:Nat) (ha:a<9223372036854775808) (hb:b<9223372036854775808) :
 Spec Tryz.prog 242 #[.int .i64 (a:Int),.int .i64 (b:Int)] F [] fun v s=>Own byteE v (pairG a b) s:=by
 refine Spec.of (n:=11) (vs:=[.int .i64 (a:Int),.int .i64 (b:Int)]) Tryz.func242 rfl Tryz.ntmps242 rfl ?_
 refine sj [.p] Z<|aj Z<|nl<|sj [.p,.p,.e,.p,.p,.e,.p] Z<|mj Z<|uj Z (Pv.asI a (Pv.convI rfl) (wrap_ult rfl (by show _<2 ^ 64;omega)))<|Rg.callA Z Z Z (mz Z) (put_spec (Arg.nil (E:=byteE)) (by simp) 8 a (by omega)) ?_
 rintro v7 s7 own7
 refine mj Z<|uj Z (Pv.asI b (Pv.convI rfl) (wrap_ult rfl (by show _<2 ^ 64;omega)))<|Rg.callA Z Z Z (mz Z) (put_spec (Arg.own own7 frz_sb) (by simp) 8 b (by omega)) ?_
 rintro v10 s10 own10
 refine aj Z<|nl ?_
 exact vr rfl (tz Z) (own10) pulled
set_option maxHeartbeats 4000000 in
theorem sencode_spec {F:Fm} {a b:Value} {c:Cf} {n:Nat} (h:CfA F a b c) (hi:InC c n) (hn:n≤100) (step:Nat) (hs:step<1099511627776) :
 Spec Tryz.prog 214 #[.int .i64 (step:Int),cfV a b] F [] fun v s=>∃u,v=.tuple #[u,.int .i64 0]∧Own byteE u (stB step c) s:=by
 obtain ⟨pv,cv,e1⟩:=h.va.shape
 obtain ⟨pl,cl,e2⟩:=h.la.shape
 have hva:=h.va
 have hla:=h.la
 subst e1;subst e2
 have hvl:=hi.vl
 have hll:=hi.ll
 rw [hvl] at hva ⊢
 rw [hll] at hla ⊢
 refine Spec.of (n:=69) (vs:=[.int .i64 (step:Int),cfV (.slice pv n cv) (.slice pl n cl)]) Tryz.func214 rfl Tryz.ntmps214 rfl ?_
 refine sj [.e,.p,.p] Z<|Rg.box Z Z Z Z Z (fun b3=>?_)
 refine aj Z<|aj Z<|nl<|sj [.p,.r,.p,.p] Z<|fj Z<|lj Z Z<|uj Z (Pv.lenS Z)<|aj Z<|nl<|wj<|sj [.p,.p,.p,.p,.p,.r,.p,.p,.p,.p,.p,.p,.p] Z<|mj Z<|uj Z (Pv.lss Z Z)<|mj Z ?_
 refine Rg.split (t:=17) rfl (fun h17=>absurd h17 (by simp only [dt];omega)) (fun h17=>?_)
 refine mj Z<|fj Z<|lj Z Z<|uj Z (Pv.lenS Z)<|uj Z (Pv.neq Z Z)<|pj Z Z<|mj Z ?_
 refine Rg.split (t:=24) rfl (fun h24=>absurd h24 (by simp)) (fun h24=>?_)
 refine mj Z<|uj Z (Pv.gtr Z Z)<|pj Z Z<|nl<|cj Z (fun h27=>absurd h27 (by simp only [dt];omega)) (fun h27=>?_)
 refine kj<|sj [.p,.p,.e,.e,.p] Z<|mj Z<|mj Z<|Rg.callA Z Z Z (mz Z) (pair_spec step n (by omega) (by omega)) ?_
 rintro v30 s30 own30
 obtain ⟨p30,c30,rfl⟩:=own30.shape
 refine Rg.bsliceR (E:=slE) (e:=40) (cs:=[.slice p30 _ c30]) [⟨p30,_,c30⟩] rfl rfl rfl rfl rfl rfl rfl (by rfl) rfl (by decide) (fun b31 own31=>?_)
 refine aj Z<|nl<|sj [.p] Z<|aj Z<|nl<|wj<|sj [.p,.r,.p,.p] Z<|fj Z<|lj Z Z<|uj Z (Pv.lenS Z)<|mj Z<|nl<|bj ?_
 refine Vc.loop5 (fun (i:Nat) (w7:Value) (s0:Hl) (w8:Value) (sr:Hl)=>i≤n∧∃s1 s8,sr=s1++s8∧(∃vs,Own slE w7 vs s0∧OwnsB vs (txG step c i) s1)∧Own byteE w8 (teG c i) s8) (fun i w7 s0 w8 sr=>[(0,.int .i64 (step:Int)),(3,.pointer (some ⟨b3,0,none⟩)),(6,.int .i64 (n:Int)),(7,w7),(8,w8),(33,.slice pv n cv),(34,.int .i64 (n:Int)),(35,.int .i64 (i:Int))]) (fun i w7 s0 w8 sr=>(b3,cellsO [.slice pv n cv,.slice pl n cl] 84)::(s0++sr)) (fun i w7 s0 w8 sr=>n-i) 0 _ _ (.slice none 0 0) s30 ⟨Nat.zero_le _,s30,[],(List.append_nil _).symm,⟨_,own31,by rw [txG_zero,hvl];exact (List.append_nil s30)▸OwnsB.snoc (vs:=[]) (xss:=[]) .nil own30⟩,by rw [teG_zero];exact .nil⟩ (.cons rfl (.cons rfl (.cons rfl (.cons rfl (.cons rfl (.cons rfl (.cons rfl (.cons rfl .nil)))))))) pulled ?_
 rintro i w7 s0 w8 _ ⟨hin,s1,s8,rfl,⟨vs,own7,owns⟩,own8⟩
 refine sj [.p] Z<|uj Z (Pv.lss Z Z)<|nl<|wj<|cj Z (fun h36=>?_) (fun h36=>?_)
 · simp only [dt] at h36
   obtain ⟨bv,ov,cv1,e,_⟩:=hva.block (by omega)
   injection e with e1 e2 e3
   subst e1
   obtain ⟨bl,ol,cl1,e,_⟩:=hla.block (by omega)
   injection e with e1 e2 e3
   subst e1
   have hi1:i<n:=by omega
   have hx:txG step c i=[pairG step n]:=by unfold txG;rw [if_pos (by omega),hvl]
   rw [hx] at owns
   have hlv:vs.length=1:=owns.len
   have ht:teG c i=bodyG c i:=by unfold teG;rw [if_pos (by omega)]
   rw [ht] at own8
   have hU:=hi.in_ i hi1
   have hbl:=bodyG_length c i
   have hbs:=bodyG_succ c i
   refine kj<|wj<|bj<|sj [.p,.p,.r,.p,.p] Z<|mj Z<|uj Z (Pv.ixA (i) rfl rfl (by omega) (by omega))<|rj Z (Ev.as (.int .u64 ((c.vals[i]!.toNat:Nat):Int)) (Ev.ldS (E:=u64E) i hva.src rfl rfl rfl (by omega)) (congrArg (Value.int IntKind.u64) (by have:=hU.1;omega)))<|aj Z<|aj Z<|nl<|sj [.p] Z<|aj Z<|nl<|wj<|sj [.p,.r,.p,.p,.r] Z ?_
   refine fj Z<|lj Z Z<|mj Z<|uj Z (Pv.ixA (i) rfl rfl (by omega) (by omega))<|rj Z (Ev.as (.bool c.live[i]!) (Ev.ldS (E:=boolE) i hla.src rfl rfl rfl (by omega)) rfl)<|nl<|cj Z (fun h44=>?_) (fun h44=>?_)
   · have hvb:vB c.vals[i]! c.live[i]! = leBytes 8 c.vals[i]!.toNat++[1]:=by unfold vB;rw [h44];rfl
     refine tj [.p] Z<|aj Z<|nl<|sj [.p,.p,.e,.p,.e,.e,.p] Z<|mj Z<|mj Z<|Rg.callA Z Z Z (mz Z) (put_spec (Arg.own own8 frz_sb) (by omega) 8 c.vals[i]!.toNat (by omega)) ?_
     rintro v47 s47 own47
     refine mj Z<|Rg.bslice1 Z Z Z Z Z Z Z (fun b49=>?_)
     refine Rg.append Z Z Z Z Z own47 (ys:=[1]) (Src.one (by rfl)) (by simp<;>omega) (by simp [maxLen]<;>omega) rfl (fun v50 s50 own50=>?_)
     rw [lx,←hvb,←hbs] at own50
     obtain ⟨p50,c50,rfl⟩:=own50.shape
     have hbl1:=bodyG_length c (i+1)
     refine aj Z<|nl<|sj [.p,.p,.p,.p,.p,.p,.p,.p,.p] Z<|mj Z<|uj Z (Pv.lenS Z)<|uj Z (Pv.eql Z Z)<|mj Z<|Rg.split (t:=54) Z (fun h54=>?_) (fun h54=>?_)
     · simp only [beq_iff_eq] at h54
       have hni:i+1=n:=by omega
       iterate 4 (first | refine Rg.skipP rfl rfl rfl ?_ | refine Rg.skipR rfl rfl rfl ?_ | refine Rg.skipE rfl rfl rfl ?_)
       refine qj Z Z<|nl<|Vc.condT Z<|tj [.p,.p,.e,.e,.p,.p] Z<|mj Z<|mj Z<|Rg.bslice1 Z Z Z Z Z Z Z (fun b62=>?_)
       refine Rg.append Z Z Z Z Z own7 (ys:=[⟨p50,(bodyG c (i+1)).length,c50⟩]) (Src.one (vs:=[.slice p50 (bodyG c (i+1)).length c50]) (by rfl)) (by simp<;>omega) (by simp [maxLen]<;>omega) rfl (fun v63 s63 own63=>?_)
       refine aj Z<|aj Z<|nl<|dj<|tj [.p,.p] Z<|uj Z (Pv.add rfl rfl (by omega))<|mj Z<|nl ?_
       exact Vc.inv5 (i+1) v63 s63 (.slice none 0 0) (s50++s1) ⟨⟨by omega,s50++s1,[],(List.append_nil _).symm,⟨_,own63,by
        have e:txG step c (i+1)=[pairG step n]++[bodyG c (i+1)]:=by unfold txG;rw [if_neg (by omega)];unfold stG;rw [if_neg (by omega),hvl,←hni];rfl
        rw [e];exact .snoc owns own50⟩,by
        have e:teG c (i+1)=[]:=by unfold teG;rw [if_neg (by omega)]
        rw [e];exact .nil⟩,by omega⟩ (.cons rfl (.cons rfl (.cons rfl (.cons rfl (.cons rfl (.cons rfl (.cons rfl (.cons rfl .nil)))))))) pulled
     · simp only [beq_eq_false_iff_ne,ne_eq] at h54
       refine mj Z<|mj Z<|uj Z (Pv.asI (n-1) (Pv.sub rfl rfl (by omega)) (by omega))<|uj Z (Pv.eql Z Z)<|pj Z Z<|nl<|cj Z (fun h59=>?_) (fun h59=>?_)
       · try simp only [beq_iff_eq] at h59
         have hni:i+1=n:=by omega
         refine tj [.p,.p,.e,.e,.p,.p] Z<|mj Z<|mj Z<|Rg.bslice1 Z Z Z Z Z Z Z (fun b62=>?_)
         refine Rg.append Z Z Z Z Z own7 (ys:=[⟨p50,(bodyG c (i+1)).length,c50⟩]) (Src.one (vs:=[.slice p50 (bodyG c (i+1)).length c50]) (by rfl)) (by simp<;>omega) (by simp [maxLen]<;>omega) rfl (fun v63 s63 own63=>?_)
         refine aj Z<|aj Z<|nl<|dj<|tj [.p,.p] Z<|uj Z (Pv.add rfl rfl (by omega))<|mj Z<|nl ?_
         exact Vc.inv5 (i+1) v63 s63 (.slice none 0 0) (s50++s1) ⟨⟨by omega,s50++s1,[],(List.append_nil _).symm,⟨_,own63,by
          have e:txG step c (i+1)=[pairG step n]++[bodyG c (i+1)]:=by unfold txG;rw [if_neg (by omega)];unfold stG;rw [if_neg (by omega),hvl,←hni];rfl
          rw [e];exact .snoc owns own50⟩,by
          have e:teG c (i+1)=[]:=by unfold teG;rw [if_neg (by omega)]
          rw [e];exact .nil⟩,by omega⟩ (.cons rfl (.cons rfl (.cons rfl (.cons rfl (.cons rfl (.cons rfl (.cons rfl (.cons rfl .nil)))))))) pulled
       · simp only [beq_eq_false_iff_ne,ne_eq] at h59
         have hni:i+1<n:=by omega
         refine kj<|dj<|tj [.p,.p] Z<|uj Z (Pv.add rfl rfl (by omega))<|mj Z<|nl ?_
         exact Vc.inv5 (i+1) w7 s0 _ (s1++s50) ⟨⟨by omega,s1,s50,rfl,⟨_,own7,by
          have e:txG step c (i+1)=[pairG step n]:=by unfold txG;rw [if_pos (by omega),hvl]
          rw [e];exact owns⟩,by
          have e:teG c (i+1)=bodyG c (i+1):=by unfold teG;rw [if_pos (by omega)]
          rw [e];exact own50⟩,by omega⟩ (.cons rfl (.cons rfl (.cons rfl (.cons rfl (.cons rfl (.cons rfl (.cons rfl (.cons rfl .nil)))))))) pulled
   · have hvb:vB c.vals[i]! c.live[i]! = leBytes 8 c.vals[i]!.toNat++[0]:=by unfold vB;rw [h44];rfl
     refine kj<|sj [.p,.p,.e,.p,.e,.e,.p] Z<|mj Z<|mj Z<|Rg.callA Z Z Z (mz Z) (put_spec (Arg.own own8 frz_sb) (by omega) 8 c.vals[i]!.toNat (by omega)) ?_
     rintro v47 s47 own47
     refine mj Z<|Rg.bslice1 Z Z Z Z Z Z Z (fun b49=>?_)
     refine Rg.append Z Z Z Z Z own47 (ys:=[0]) (Src.one (by rfl)) (by simp<;>omega) (by simp [maxLen]<;>omega) rfl (fun v50 s50 own50=>?_)
     rw [lx,←hvb,←hbs] at own50
     obtain ⟨p50,c50,rfl⟩:=own50.shape
     have hbl1:=bodyG_length c (i+1)
     refine aj Z<|nl<|sj [.p,.p,.p,.p,.p,.p,.p,.p,.p] Z<|mj Z<|uj Z (Pv.lenS Z)<|uj Z (Pv.eql Z Z)<|mj Z<|Rg.split (t:=54) Z (fun h54=>?_) (fun h54=>?_)
     · simp only [beq_iff_eq] at h54
       have hni:i+1=n:=by omega
       iterate 4 (first | refine Rg.skipP rfl rfl rfl ?_ | refine Rg.skipR rfl rfl rfl ?_ | refine Rg.skipE rfl rfl rfl ?_)
       refine qj Z Z<|nl<|Vc.condT Z<|tj [.p,.p,.e,.e,.p,.p] Z<|mj Z<|mj Z<|Rg.bslice1 Z Z Z Z Z Z Z (fun b62=>?_)
       refine Rg.append Z Z Z Z Z own7 (ys:=[⟨p50,(bodyG c (i+1)).length,c50⟩]) (Src.one (vs:=[.slice p50 (bodyG c (i+1)).length c50]) (by rfl)) (by simp<;>omega) (by simp [maxLen]<;>omega) rfl (fun v63 s63 own63=>?_)
       refine aj Z<|aj Z<|nl<|dj<|tj [.p,.p] Z<|uj Z (Pv.add rfl rfl (by omega))<|mj Z<|nl ?_
       exact Vc.inv5 (i+1) v63 s63 (.slice none 0 0) (s50++s1) ⟨⟨by omega,s50++s1,[],(List.append_nil _).symm,⟨_,own63,by
        have e:txG step c (i+1)=[pairG step n]++[bodyG c (i+1)]:=by unfold txG;rw [if_neg (by omega)];unfold stG;rw [if_neg (by omega),hvl,←hni];rfl
        rw [e];exact .snoc owns own50⟩,by
        have e:teG c (i+1)=[]:=by unfold teG;rw [if_neg (by omega)]
        rw [e];exact .nil⟩,by omega⟩ (.cons rfl (.cons rfl (.cons rfl (.cons rfl (.cons rfl (.cons rfl (.cons rfl (.cons rfl .nil)))))))) pulled
     · simp only [beq_eq_false_iff_ne,ne_eq] at h54
       refine mj Z<|mj Z<|uj Z (Pv.asI (n-1) (Pv.sub rfl rfl (by omega)) (by omega))<|uj Z (Pv.eql Z Z)<|pj Z Z<|nl<|cj Z (fun h59=>?_) (fun h59=>?_)
       · try simp only [beq_iff_eq] at h59
         have hni:i+1=n:=by omega
         refine tj [.p,.p,.e,.e,.p,.p] Z<|mj Z<|mj Z<|Rg.bslice1 Z Z Z Z Z Z Z (fun b62=>?_)
         refine Rg.append Z Z Z Z Z own7 (ys:=[⟨p50,(bodyG c (i+1)).length,c50⟩]) (Src.one (vs:=[.slice p50 (bodyG c (i+1)).length c50]) (by rfl)) (by simp<;>omega) (by simp [maxLen]<;>omega) rfl (fun v63 s63 own63=>?_)
         refine aj Z<|aj Z<|nl<|dj<|tj [.p,.p] Z<|uj Z (Pv.add rfl rfl (by omega))<|mj Z<|nl ?_
         exact Vc.inv5 (i+1) v63 s63 (.slice none 0 0) (s50++s1) ⟨⟨by omega,s50++s1,[],(List.append_nil _).symm,⟨_,own63,by
          have e:txG step c (i+1)=[pairG step n]++[bodyG c (i+1)]:=by unfold txG;rw [if_neg (by omega)];unfold stG;rw [if_neg (by omega),hvl,←hni];rfl
          rw [e];exact .snoc owns own50⟩,by
          have e:teG c (i+1)=[]:=by unfold teG;rw [if_neg (by omega)]
          rw [e];exact .nil⟩,by omega⟩ (.cons rfl (.cons rfl (.cons rfl (.cons rfl (.cons rfl (.cons rfl (.cons rfl (.cons rfl .nil)))))))) pulled
       · simp only [beq_eq_false_iff_ne,ne_eq] at h59
         have hni:i+1<n:=by omega
         refine kj<|dj<|tj [.p,.p] Z<|uj Z (Pv.add rfl rfl (by omega))<|mj Z<|nl ?_
         exact Vc.inv5 (i+1) w7 s0 _ (s1++s50) ⟨⟨by omega,s1,s50,rfl,⟨_,own7,by
          have e:txG step c (i+1)=[pairG step n]:=by unfold txG;rw [if_pos (by omega),hvl]
          rw [e];exact owns⟩,by
          have e:teG c (i+1)=bodyG c (i+1):=by unfold teG;rw [if_pos (by omega)]
          rw [e];exact own50⟩,by omega⟩ (.cons rfl (.cons rfl (.cons rfl (.cons rfl (.cons rfl (.cons rfl (.cons rfl (.cons rfl .nil)))))))) pulled
 · simp only [df] at h36
   obtain rfl:i=n:=by omega
   have hx:txG step c i=stG step c:=by unfold txG;rw [if_neg (by omega)]
   rw [hx] at owns
   refine Vc.exit Z<|sj [.p,.e,.p,.p,.p,.p] Z<|mj Z<|Rg.callA Z Z Z (mz Z) (join_spec (vs:=vs) (xss:=stG step c) ⟨Arg.own own7 frz_sb,owns.len,owns.arg frz_sb⟩ (by have:=stG_length_le (step:=step) (c:=c);omega) (stG_le (by omega)) (by have:=stB_le (step:=step) (c:=c) (by omega);unfold stB at this;omega)) ?_
   rintro v66 s66 ⟨u66,rfl,own66⟩
   refine xj Z Z<|xj Z Z<|aj Z<|aj Z<|nl ?_
   exact vr rfl (.cons (.tmp rfl) (tz Z)) (⟨_,rfl,own66⟩) pulled
theorem getB_pair0 {a b:Nat} (ha:a<18446744073709551616):getB (pairG a b) 0 8=a:=by
 have:=getB_at (a:=[]) (b:=leBytes 8 a) (c:=leBytes 8 b) (k:=0) (s:=8) rfl (by simp)
 rw [List.nil_append] at this
 rw [pairG,this,leNum_leBytes,Nat.mod_eq_of_lt (by show a<2 ^ 64;omega)]
theorem getB_pair8 {a b:Nat} (hb:b<18446744073709551616):getB (pairG a b) 8 8=b:=by
 have:=getB_at (a:=leBytes 8 a) (b:=leBytes 8 b) (c:=[]) (k:=8) (s:=8) (by simp) (by simp)
 rw [List.append_nil] at this
 rw [pairG,this,leNum_leBytes,Nat.mod_eq_of_lt (by show b<2 ^ 64;omega)]
theorem getB_vB {x:Int} {l:Bool} (h:InU x):getB (vB x l) 0 8=x.toNat:=by
 have:=getB_at (a:=[]) (b:=leBytes 8 x.toNat) (c:=[if l then 1 else 0]) (k:=0) (s:=8) rfl (by simp)
 rw [List.nil_append] at this
 have h1:=h.1
 have h2:=h.2
 rw [vB,this,leNum_leBytes,Nat.mod_eq_of_lt (by show _<2 ^ 64;omega)]
theorem vB_last (x:Int) (l:Bool):(vB x l)[8]! = if l then 1 else 0:=by
 rw [getElem!_pos _ 8 (by rw [vB_length];omega)]
 unfold vB
 rw [List.getElem_append_right (by simp)]
 simp
theorem stG_drop (step:Nat) (c:Cf):∃r,stG step c=pairG step c.vals.length::r∧r.flatten=bodyG c c.vals.length∧r.length≤1:=by
 refine ⟨_,rfl,?_,?_⟩
 · split
   · rename_i h;rw [h];rfl
   · simp
 · split<;>simp
set_option maxHeartbeats 4000000 in
theorem sdecode_spec {F:Fm} {v:Value} {c:Cf} {n step:Nat} (hi:InC c n) (hn:n≤100) (hs:step<1099511627776) (ha:Arg byteE F v (stB step c)) :
 Spec Tryz.prog 196 #[v] F [] fun v s=>∃u,v=.tuple #[.int .i64 (step:Int),u,.int .i64 0]∧CfO u c s:=by
 obtain ⟨p,cc,rfl⟩:=ha.shape
 have hvl:=hi.vl
 have hll:=hi.ll
 have hlen:=stB_le (step:=step) (c:=c) (by omega)
 obtain ⟨r,hr,hfl,hrl⟩:=stG_drop step c
 rw [hvl] at hr hfl
 have hbl:=bodyG_length c n
 refine Spec.of (n:=114) (vs:=[.slice p (stB step c).length cc]) Tryz.func196 rfl Tryz.ntmps196 rfl ?_
 refine sj [.p,.e,.p] Z<|aj Z<|Rg.alloc Z Z Z Z (fun b3=>?_)
 refine aj Z<|nl<|sj [.e] Z<|Rg.alloc Z Z Z Z (fun b5=>?_)
 refine nl<|sj [.p,.e,.p,.p,.p,.p,.p,.p,.p] Z<|mj Z<|Rg.callA Z Z Z (mz Z) (all_spec (xss:=stG step c) (ha.mono fun b o h=>Or.inr h) (stG_le (by omega)) (by have:=hlen;unfold stB at this;omega)) ?_
 rintro v21 s21 ⟨u21,rfl,vs,s0,s1,own0,owns,rfl⟩
 have hvsl:=owns.len
 rw [hr] at owns hvsl
 obtain ⟨⟨p1,m1,c1⟩,vt,rfl⟩:∃s vt,vs=s::vt:=by
  cases vs with
  | nil=>simp at hvsl
  | cons s vt=>exact ⟨s,vt,rfl⟩
 simp only [List.length_cons,Nat.add_right_cancel_iff] at hvsl
 have hr0:=fun (F0:Fm) (hF:∀b o,(b,o)∈s1→F0.at_ b o)=>owns.arg hF 0 (by simp)
 simp only [List.getElem!_cons_zero] at hr0
 have hrt:∀(F0:Fm),(∀b o,(b,o)∈s1→F0.at_ b o)→∀j,j<r.length→Arg byteE F0 vt[j]!.v r[j]! := fun F0 hF j hj=>by
  have:=owns.arg hF (j+1) (by simp;omega)
  rwa [List.getElem!_cons_succ,List.getElem!_cons_succ] at this
 rw [lx]
 obtain ⟨bt,ct,spt,e,_⟩:=own0.block (by simp)
 subst e
 obtain rfl:m1=16:=(hr0 (frz F s1) (fun b o hb=>Or.inl hb)).cap.1.trans (pairG_length _ _)
 have hct:vt.length+1≤ct:=(Arg.own (F:=frz F s0) own0 fun b o hb=>Or.inl hb).cap.2
 refine mj Z<|xj Z Z<|xj Z Z<|xj Z Z<|aj Z<|aj Z<|aj Z<|nl<|wj<|sj [.p,.p] Z<|mj Z<|uj Z (Pv.neq Z Z)<|nl<|cj Z (fun h26=>absurd h26 (by decide)) (fun h26=>?_)
 refine kj<|wj<|sj [.p,.p,.p,.p,.p,.p,.r,.p,.p,.p] Z<|mj Z<|uj Z (Pv.lenS Z)<|uj Z (Pv.eql Z Z)<|mj Z<|Rg.split (t:=32) rfl (fun h32=>absurd h32 (by simp;omega)) (fun h32=>?_)
 refine mj Z<|uj Z (Pv.ixA (0) rfl rfl (by first | omega | simp) (by first | omega | simp))<|rj Z (Ev.as (.slice p1 16 c1) (Ev.ldS (E:=slE) 0 (Src.own (rest:=[]) own0 (fun x hx=>by simp [hx])) rfl rfl rfl (by simp)) rfl)<|uj Z (Pv.lenS Z)<|uj Z (Pv.neq Z Z)<|pj Z Z<|nl<|cj Z (fun h38=>absurd h38 (by decide)) (fun h38=>?_)
 refine kj<|sj [.p,.p,.r,.e,.p,.p,.p,.p,.p] Z<|mj Z<|uj Z (Pv.ixA (0) rfl rfl (by first | omega | simp) (by first | omega | simp))<|rj Z (Ev.as (.slice p1 16 c1) (Ev.ldS (E:=slE) 0 (Src.own (rest:=[]) own0 (fun x hx=>by simp [hx])) rfl rfl rfl (by simp)) rfl)<|Rg.callP Z Z Z (mz Z) (get_spec (hr0 _ frz_sb) (by rw [pairG_length];omega) 0 8 (by omega) (by omega) (by rw [pairG_length];omega)) ?_
 rintro _ rfl
 rw [getB_pair0 (by omega)]
 refine mj Z<|xj Z Z<|xj Z Z<|aj Z<|aj Z<|nl<|sj [.p,.p,.r,.e,.p,.p,.p,.p,.p] Z<|mj Z<|uj Z (Pv.ixA (0) rfl rfl (by first | omega | simp) (by first | omega | simp))<|rj Z (Ev.as (.slice p1 16 c1) (Ev.ldS (E:=slE) 0 (Src.own (rest:=[]) own0 (fun x hx=>by simp [hx])) rfl rfl rfl (by simp)) rfl)<|Rg.callP Z Z Z (mz Z) (get_spec (hr0 _ frz_sb) (by rw [pairG_length];omega) 8 8 (by omega) (by omega) (by rw [pairG_length];omega)) ?_
 rintro _ rfl
 rw [getB_pair8 (by omega)]
 refine mj Z<|xj Z Z<|xj Z Z<|aj Z<|aj Z<|nl<|sj [.p,.p,.e,.p] Z<|mj Z<|uj Z (Pv.sl (lv:=some (.int .i64 ((1:Nat):Int))) (hv:=none) 1 (vt.length+1) rfl rfl rfl (by omega) (by omega) (by simp;omega))<|Rg.callA Z Z Z (mz Z) (concat_spec (vs:=vt) (xss:=r) ⟨(Arg.own own0 frz_sb).from (i:=1) (by simp),by omega,hrt _ frz_sb⟩ (by omega) (by rw [hfl];omega)) ?_
 rintro v56 s56 own56
 rw [hfl] at own56
 obtain ⟨pb,cb,rfl⟩:=own56.shape
 refine aj Z<|nl<|wj<|sj [.p,.p,.p,.p,.p,.p,.p,.p,.p,.p,.p,.p,.p,.p] Z<|mj Z<|uj Z (Pv.gtr Z Z)<|mj Z<|Rg.split (t:=59) rfl (fun h59=>absurd h59 (by simp only [dt];omega)) (fun h59=>?_)
 refine mj Z<|uj Z (Pv.gtr Z Z)<|pj Z Z<|mj Z<|Rg.split (t:=63) rfl (fun h63=>absurd h63 (by simp only [dt];omega)) (fun h63=>?_)
 refine mj Z<|uj Z (Pv.lenS Z)<|uj Z (Pv.asI (9*n) (Pv.convI rfl) (by rw [hbl];exact wrap_ult rfl (by show _<2 ^ 64;omega)))<|mj Z<|uj Z (Pv.asI (9*n) (Pv.mulW rfl rfl) (by rw [show ((n:Int)*9)=((9*n:Nat):Int) by omega];exact wrap_ult rfl (by show _<2 ^ 64;omega)))<|uj Z (Pv.neq Z Z)<|pj Z Z<|nl<|cj Z (fun h70=>absurd h70 (by simp)) (fun h70=>?_)
 refine kj<|wj<|sj [.p,.e] Z<|mj Z<|Rg.callA Z Z Z (mz Z) (chunkB_spec 9 (by omega)) ?_
 rintro _ _ ⟨k1,k2,rfl,rfl⟩
 refine nl<|bj ?_
 refine Vc.rangeFuncE (enc:=fun i=>[chunkVB pb 9 (bodyG c n).length i]) (Sp:=fun pre=>∃m,m≤nc 9 (bodyG c n).length∧pre=List.range m) (S:=fun ys=>ys=List.range (nc 9 (bodyG c n).length)) (hi:=[(k2,cellsO [.int .i64 ((9:Nat):Int)] 3),(k1,cellsO [.slice pb (bodyG c n).length cb] 40)]) (rest:=_) (fun pre hc=>∃p1 c1 p2 c2 q1 q2,Own u64E (.slice p1 pre.length c1) (c.vals.take pre.length) q1∧Own boolE (.slice p2 pre.length c2) (c.live.take pre.length) q2∧hc=(b3,cellsO [.slice none 0 0,.slice none 0 0] 84)::(b5,cellsO [.slice p1 pre.length c1,.slice p2 pre.length c2] 84)::(q1++q2)) (fun _=>False) ((b3,cellsO [.slice none 0 0,.slice none 0 0] 84)::(b5,cellsO [.slice none 0 0,.slice none 0 0] 84)::[]) rfl rfl (fun _=>rfl) rfl pulled (fun F2 hF2=>chunkB_iter (F:=F2) (Arg.own own56 fun b o hb=>hF2 b o (.inl (by simp [hb]))) (by omega) 9 (by omega) (by omega) k1 k2) ⟨none,0,none,0,[],[],.nil,.nil,rfl⟩ (fun DD hc hDD h=>h.elim) ?_ ?_
 · rintro lr rc pre x hc F2 hF2 ⟨mm,hmm1,hpre⟩ ⟨p1,c1,p2,c2,q1,q2,o1,o2,rfl⟩
   have hnc:nc 9 (bodyG c n).length=n:=by rw [hbl];unfold nc;omega
   obtain ⟨hx1,hpr⟩:=range_split hpre
   have hxn:x<n:=by omega
   have hpl:pre.length=x:=by rw [hpr,List.length_range]
   rw [hpl] at o1 o2 ⊢
   have harg:∀F3:Fm,(∀b o,F2.at_ b o→F3.at_ b o)→Arg byteE F3 (chunkVB pb 9 (bodyG c n).length x) (vB c.vals[x]! c.live[x]!):=fun F3 hF3=>by
    have:=chunkB_arg (F:=F3) (n:=9) (i:=x) (Arg.own own56 fun b o hb=>hF3 b o (hF2 b o (.inl (by simp [hb])))) (by omega)
    rwa [chunkLB_body c hxn] at this
   dsimp only
   obtain ⟨w,hw⟩:∃w,chunkVB pb 9 (bodyG c n).length x=w:=⟨_,rfl⟩
   rw [hw] at harg ⊢
   obtain ⟨bb,ob,cw,e,_⟩:=(harg F2 (fun _ _ h=>h)).block (by rw [vB_length];omega)
   rw [vB_length] at e
   subst e
   have hcap9:=(harg F2 (fun _ _ h=>h)).cap.2
   have e1:c.vals.take x++[c.vals[x]!]=c.vals.take (x+1):=by rw [List.take_succ_eq_append_getElem (by omega),getElem!_pos c.vals x (by omega)]
   have e2:c.live.take x++[c.live[x]!]=c.live.take (x+1):=by rw [List.take_succ_eq_append_getElem (by omega),getElem!_pos c.live x (by omega)]
   have l1:(c.vals.take (x+1)).length=x+1:=by rw [List.length_take];omega
   have l2:(c.live.take (x+1)).length=x+1:=by rw [List.length_take];omega
   have l3:(c.vals.take x).length=x:=by rw [List.length_take];omega
   have l4:(c.live.take x).length=x:=by rw [List.length_take];omega
   refine tj [.p] Z<|aj Z<|nl<|Vc.beginE Z<|bj<|sj [.p,.e,.p,.p,.p,.p,.p] Z<|mj Z<|Rg.callP Z Z Z (mz Z) (get_spec (harg _ (fun b o h=>Or.inr h)) (by rw [vB_length];omega) 0 8 (by omega) (by omega) (by rw [vB_length];omega)) ?_
   rintro _ rfl
   rw [getB_vB (hi.in_ x hxn),show ((c.vals[x]!.toNat:Nat):Int)=c.vals[x]! by have:=(hi.in_ x hxn).1;omega]
   refine mj Z<|xj Z Z<|xj Z Z<|aj Z<|aj Z<|nl ?_
   refine Vc.drawS [14,16] (.st 0 .pure (.st 1 .read (.st 2 .pure (.st 5 .pure (.st 6 .read (.st 7 .pure (.st 8 .pure (.st 9 .read (.st 10 .pure (.two 3 (.two 4 (sd [(13,.pure),(11,.eff),(12,.eff),(14,.eff),(15,.pure),(16,.eff)]) 11 (sd [(4,.eff),(13,.pure),(12,.eff),(14,.eff),(15,.pure),(16,.eff)])) 11 (sd [(3,.eff),(4,.eff),(13,.pure),(12,.eff),(14,.eff),(15,.pure),(16,.eff)]))))))))))) [(b3,cellsO [.slice none 0 0,.slice none 0 0] 84),(b5,cellsO [.slice p1 x c1,.slice p2 x c2] 84)] pulled mixed (by kernel_rfl)<|fj Z<|lj Z Z<|mj Z<|fj Z<|lj Z Z<|mj Z<|uj Z (Pv.ixA (8) rfl rfl (by omega) (by omega))<|rj Z (Ev.as (.int .u8 (if c.live[x]! then 1 else 0:Int)) (Ev.ldS (E:=byteE) 8 (harg F2 (fun _ _ h=>h)).src rfl rfl rfl (by rw [vB_length];omega)) (by rw [vB_last];cases c.live[x]! <;> rfl))<|uj Z (Pv.as (.bool c.live[x]!) (Pv.eql rfl rfl) (by cases c.live[x]! <;> rfl)) ?_
   refine Rg.two ?_ ?_
   · refine Rg.bslice1N Z Z Z Z Z Z Z (fun b83=>?_)
     refine Rg.two ?_ ?_
     · refine Rg.appendN Z Z Z Z Z o1 (ys:=[c.vals[x]!]) (Src.one (by rfl)) (by simp<;>omega) (by simp [maxLen]<;>omega) (fun v84 s84 own84=>?_)
       rw [e1] at own84
       obtain ⟨p84,c84,rfl⟩:=own84.shape
       rw [l1] at own84 ⊢
       refine fj Z ?_
       refine Rg.bslice1N Z Z Z Z Z Z Z (fun b91=>?_)
       refine Rg.appendN Z Z Z Z Z o2 (ys:=[c.live[x]!]) (Src.one (by rfl)) (by simp<;>omega) (by simp [maxLen]<;>omega) (fun v92 s92 own92=>?_)
       rw [e2] at own92
       obtain ⟨p92,c92,rfl⟩:=own92.shape
       rw [l2] at own92 ⊢
       refine Rg.store Z Z Z Z Z Z Z Z<|fj Z ?_
       refine Rg.store Z Z Z Z Z Z Z Z<|nl<|dj ?_
       exact Vc.finE (hc:=(b3,cellsO [.slice none 0 0,.slice none 0 0] 84)::(b5,cellsO [.slice p84 (x+1) c84,.slice p92 (x+1) c92] 84)::(s84++s92)) ⟨p84,c84,p92,c92,s84,s92,by rw [ly,List.length_singleton,hpl];exact own84,by rw [ly,List.length_singleton,hpl];exact own92,by rw [ly,List.length_singleton,hpl]⟩ pulled
     · refine Rg.bslice1N Z Z Z Z Z Z Z (fun b91=>?_)
       refine Rg.appendN Z Z Z Z Z o1 (ys:=[c.vals[x]!]) (Src.one (by rfl)) (by simp<;>omega) (by simp [maxLen]<;>omega) (fun v84 s84 own84=>?_)
       rw [e1] at own84
       obtain ⟨p84,c84,rfl⟩:=own84.shape
       rw [l1] at own84 ⊢
       refine fj Z ?_
       refine Rg.appendN Z Z Z Z Z o2 (ys:=[c.live[x]!]) (Src.one (by rfl)) (by simp<;>omega) (by simp [maxLen]<;>omega) (fun v92 s92 own92=>?_)
       rw [e2] at own92
       obtain ⟨p92,c92,rfl⟩:=own92.shape
       rw [l2] at own92 ⊢
       refine Rg.store Z Z Z Z Z Z Z Z<|fj Z ?_
       refine Rg.store Z Z Z Z Z Z Z Z<|nl<|dj ?_
       exact Vc.finE (hc:=(b3,cellsO [.slice none 0 0,.slice none 0 0] 84)::(b5,cellsO [.slice p84 (x+1) c84,.slice p92 (x+1) c92] 84)::(s84++s92)) ⟨p84,c84,p92,c92,s84,s92,by rw [ly,List.length_singleton,hpl];exact own84,by rw [ly,List.length_singleton,hpl];exact own92,by rw [ly,List.length_singleton,hpl]⟩ pulled
   · refine Rg.bslice1N Z Z Z Z Z Z Z (fun b91=>?_)
     refine Rg.bslice1N Z Z Z Z Z Z Z (fun b83=>?_)
     refine Rg.appendN Z Z Z Z Z o1 (ys:=[c.vals[x]!]) (Src.one (by rfl)) (by simp<;>omega) (by simp [maxLen]<;>omega) (fun v84 s84 own84=>?_)
     rw [e1] at own84
     obtain ⟨p84,c84,rfl⟩:=own84.shape
     rw [l1] at own84 ⊢
     refine fj Z ?_
     refine Rg.appendN Z Z Z Z Z o2 (ys:=[c.live[x]!]) (Src.one (by rfl)) (by simp<;>omega) (by simp [maxLen]<;>omega) (fun v92 s92 own92=>?_)
     rw [e2] at own92
     obtain ⟨p92,c92,rfl⟩:=own92.shape
     rw [l2] at own92 ⊢
     refine Rg.store Z Z Z Z Z Z Z Z<|fj Z ?_
     refine Rg.store Z Z Z Z Z Z Z Z<|nl<|dj ?_
     exact Vc.finE (hc:=(b3,cellsO [.slice none 0 0,.slice none 0 0] 84)::(b5,cellsO [.slice p84 (x+1) c84,.slice p92 (x+1) c92] 84)::(s84++s92)) ⟨p84,c84,p92,c92,s84,s92,by rw [ly,List.length_singleton,hpl];exact own84,by rw [ly,List.length_singleton,hpl];exact own92,by rw [ly,List.length_singleton,hpl]⟩ pulled
 · rintro DD ys hc hDD rfl ⟨p1,c1,p2,c2,q1,q2,o1,o2,rfl⟩
   have hnc:nc 9 (bodyG c n).length=n:=by rw [hbl];unfold nc;omega
   rw [List.length_range,hnc] at o1 o2 ⊢
   rw [List.take_of_length_le (by omega)] at o1 o2
   simp only [List.cons_append,lx]
   refine dj<|wj<|sj [.p,.p,.r,.e,.p,.p,.p,.p,.p] Z<|mj Z<|uj Z (Pv.asI step (Pv.convI rfl) (i64_wrap (by omega)))<|rj Z (Ev.ldA Z Z)<|Rg.callA Z Z Z (mz Z) (sencode_spec (a:=.slice p1 n c1) (b:=.slice p2 n c2) (c:=c) ⟨Arg.own o1 frz_sb,Arg.own o2 frz_sb,by omega,by omega⟩ hi hn step hs) ?_
   rintro v99 s99 ⟨u99,rfl,own99⟩
   refine mj Z<|xj Z Z<|xj Z Z<|aj Z<|aj Z<|nl<|sj [.p,.p,.p,.p,.p,.e,.p,.p] Z<|mj Z<|uj Z (Pv.neq Z Z)<|mj Z<|Rg.split (t:=104) rfl (fun h104=>absurd h104 (by decide)) (fun h104=>?_)
   refine mj Z<|mj Z<|Rg.callP Z Z Z (mz Z) (equal_spec (Arg.own own99 frz_sb) (ha.mono fun b o h=>Or.inr (Or.inr h))) ?_
   rintro _ rfl
   refine uj Z (Pv.not Z)<|pj Z Z<|nl<|cj Z (fun h109=>absurd h109 (by simp)) (fun h109=>?_)
   refine kj<|wj ?_
   refine Vc.draw [4] (sd [(0,.pure),(1,.pure),(2,.read),(3,.pure),(4,.eff),(5,.pure)]) mixed (by kernel_rfl)<|mj Z<|uj Z (Pv.asI step (Pv.convI rfl) (i64_wrap (by omega)))<|rj Z (Ev.ldA Z Z)<|aj Z<|Rg.storeA Z Z Z Z Z Z Z Z<|aj Z<|nl ?_
   exact Vc.ret (Vc.retsM (hl':=q1++q2) (Mk.one hDD) rfl (.cons (.tmp rfl) (.cons (.cellA rfl rfl) (tz Z))) ⟨_,rfl,_,_,q1,q2,rfl,o1,o2,rfl⟩ pulled)
deriving instance DecidableEq for Prg
def prE:Enc Prg where
 k:=2
 tid:=24
 cells:=fun p=>prC p
 val:=fun p=>prV p
 pos:=by decide
 len:=fun _=>rfl
 one:=fun x v hv=>by simp at hv;rcases hv with rfl | rfl<;>rfl
 vc:=fun _=>rfl
theorem eq_prg (x y:Prg) (w:World):(Op.equal 24 (prE.val x) (prE.val y)).run Tryz.prog w=.ok (decide (x=y)) w:=by
 have h1:∀d a b w,(Op.equalIn (d+1) 3 (.int .i64 a) (.int .i64 b)).run Tryz.prog w=.ok (a==b) w:=fun d a b w=>by
  simp [Op.equalIn]
 have h2:∀d a b w,(Op.equalIn (d+1) 22 (.int .u32 a) (.int .u32 b)).run Tryz.prog w=.ok (a==b) w:=fun d a b w=>by
  simp [Op.equalIn]
 have key:∀d,(Op.equalIn (d+2) 24 (prE.val x) (prE.val y)).run Tryz.prog w=.ok (decide (x=y)) w:=fun d=>by
  show (Op.equalIn (d+2) 24 (prV x) (prV y)).run Tryz.prog w=_
  rw [run_equalIn_struct w (d+1) 24 _ _ (by kernel_rfl) Tryz.stoodInHeld24]
  have hf : (Tryz.prog.fieldsOf 24).toList = [⟨ "Kind", 3, 0, false, "", "", 0⟩, ⟨ "Start", 22, 1, false, "", "", 8⟩] := by kernel_rfl
  rw [hf]
  simp [Op.eqFields,part,h1,h2]
  cases x;cases y
  simp only [Prg.mk.injEq]
  split
  · split<;>simp_all<;>omega
  · simp_all
 exact key 9998
instance : TyEqE Tryz.prog 24 prE:=⟨fun x=>⟨_,rfl⟩,Tryz.eqGuardType24,eq_prg⟩
structure Ma where
 seq:Nat
 n:Nat
 sh:Nat
 step:Int
 p:Prg
abbrev maV (m:Ma):Value:=.agg #[.int .u64 (m.seq:Int),.int .i64 (m.n:Int),.int .i64 (m.sh:Int),.int .i64 m.step,.int .i64 m.p.kind,.int .u32 (m.p.start:Int)]
abbrev maC (m:Ma):List Value:=[.int .u64 (m.seq:Int),.int .i64 (m.n:Int),.int .i64 (m.sh:Int),.int .i64 m.step,.int .i64 m.p.kind,.int .u32 (m.p.start:Int)]
structure OkM (m:Ma):Prop where
 seq:1≤m.seq∧m.seq<9223372036854775808
 n:m.n≤1048576
 sh:1≤m.sh∧m.sh≤4095
 start:m.p.start<4294967296
 how:(m.step = -1∧m.p=⟨0,0⟩)∨(0≤m.step∧m.step≤1099511627776∧rightP m.p (m.n:Int)=true)
theorem mright_spec {F:Fm} {m:Ma} (h:OkM m):Spec Tryz.prog 129 #[maV m] F [] fun v _=>v=.bool true:=by
 obtain ⟨hs1,hs2⟩:=h.seq
 have hn:=h.n
 obtain ⟨hsh1,hsh2⟩:=h.sh
 have hst:=h.start
 have hle:m.step≤1099511627776:=by rcases h.how with ⟨e,_⟩ | ⟨_,e,_⟩<;>omega
 refine Spec.of (n:=44) (vs:=[maV m]) Tryz.func129 rfl Tryz.ntmps129 rfl ?_
 refine sj [.e,.p] Z<|Rg.box Z Z Z Z Z (fun b1=>?_)
 refine aj Z<|nl<|sj [.p,.r,.p,.r,.e,.p,.p,.p,.p,.p] Z<|fj Z<|lj Z Z<|fj Z<|lj Z Z ?_
 refine Rg.callA Z Z Z (mz Z) (bounds_spec m.n m.sh hn hsh1 hsh2) ?_
 rintro v10 s10 ⟨u10,rfl,own10⟩
 refine mj Z<|xj Z Z<|xj Z Z<|aj Z<|aj Z<|nl<|wj<|bj<|sj [.p,.p,.p,.p,.r,.p,.p,.p,.p,.r,.p,.p,.p] Z<|mj Z<|uj Z (Pv.neq Z Z)<|mj Z<|Rg.split (t:=16) rfl (fun h16=>absurd h16 (by decide)) (fun h16=>?_)
 refine fj Z<|lj Z Z<|uj Z (Pv.eql Z Z)<|pj Z Z<|mj Z ?_
 refine Rg.split (t:=21) rfl (fun h21=>absurd h21 (by simp;omega)) (fun h21=>?_)
 refine fj Z<|lj Z Z<|uj Z (Pv.gtr Z Z)<|pj Z Z<|aj Z<|nl<|cj Z (fun h13=>absurd h13 (by simp only [dt];omega)) (fun h13=>?_)
 refine sj [.p,.r,.p,.p] Z<|fj Z<|lj Z Z<|uj Z (Pv.eql Z Z)<|aj Z<|nl<|cj Z (fun h26=>?_) (fun h26=>?_)
 · simp only [beq_iff_eq] at h26
   have hp:m.p=⟨0,0⟩:=by
    rcases h.how with ⟨_,e⟩ | ⟨e,_⟩
    · exact e
    · omega
   refine sj [.p,.r,.p,.p,.p] Z<|fj Z<|rj Z (Ev.as (prV m.p) (Ev.ldA Z Z) Z)<|uj Z (Pv.build (c:=#[.int .i64 0,.int .u32 0]) Z Z)<|uj Z (Pv.eqlE prE m.p ⟨0,0⟩ Z Z)<|aj Z<|nl<|vz Z (tz Z) ?_
   exact congrArg Value.bool (by rw [hp];rfl)
 · simp only [beq_eq_false_iff_ne,ne_eq] at h26
   obtain ⟨h0,_,hr⟩:=h.how.resolve_left (fun e=>h26 e.1)
   refine kj<|dj<|sj [.p,.r,.p,.p,.p,.r,.p,.r,.e,.p,.p] Z<|fj Z<|lj Z Z<|uj Z (Pv.geq Z Z)<|mj Z ?_
   refine Rg.split (t:=37) rfl (fun h37=>?_) (fun h37=>absurd h37 (by simp;omega))
   refine fj Z<|rj Z (Ev.as (prV m.p) (Ev.ldA Z Z) Z)<|fj Z<|lj Z Z ?_
   refine Rg.callP Z Z Z (mz Z) (tright_spec (p:=m.p) hst (m.n:Int)) ?_
   rintro _ rfl
   refine qj Z Z<|aj Z<|nl<|vz Z (tz Z) ?_
   exact congrArg Value.bool hr
def maN (m:Ma):List Nat:=[m.seq,m.n,m.sh,(m.step+1).toNat,m.p.kind.toNat,m.p.start]
def maT (m:Ma):List UInt8:=(maN m).flatMap (leBytes 8)
def maB (m:Ma):List UInt8:=encG (maT m)
theorem maT_length (m:Ma):(maT m).length=48:=by simp [maT,maN]
theorem maB_length (m:Ma):(maB m).length=54:=by rw [maB,encG_length,maT_length]
theorem OkM.kind {m:Ma} (h:OkM m):0≤m.p.kind∧m.p.kind≤5:=by
 rcases h.how with ⟨_,e⟩ | ⟨_,_,e⟩
 · rw [e];decide
 · have:=rightP_iff.1 e;omega
theorem maN_get {m:Ma} (h:OkM m) {j:Nat} (hj:j<6):([.int .u64 (m.seq:Int),.int .u64 (m.n:Int),.int .u64 (m.sh:Int),.int .u64 (((m.step+1).toNat:Nat):Int),.int .u64 ((m.p.kind.toNat:Nat):Int),.int .u64 (m.p.start:Int)]:List Value)[j]? = some (.int .u64 (((maN m)[j]! : Nat):Int)):=by
 rcases j with _ | _ | _ | _ | _ | _ | j<;>first | rfl | omega
theorem take_N {l:List Nat} {j:Nat} (h:j<l.length):(l.take (j+1)).flatMap (leBytes 8)=(l.take j).flatMap (leBytes 8)++leBytes 8 l[j]! := by
 rw [List.take_succ_eq_append_getElem h,getElem!_pos l j h,List.flatMap_append];simp
set_option maxHeartbeats 4000000 in
theorem mencode_spec {F:Fm} {m:Ma} (h:OkM m):Spec Tryz.prog 108 #[maV m] F [] fun v s=>∃u,v=.tuple #[u,.int .i64 0]∧Own byteE u (maB m) s:=by
 obtain ⟨hs1,hs2⟩:=h.seq
 have hn:=h.n
 obtain ⟨hsh1,hsh2⟩:=h.sh
 have hst:=h.start
 have hle : -1≤m.step∧m.step≤1099511627776:=by rcases h.how with ⟨e,_⟩ | ⟨_,e,_⟩<;>omega
 obtain ⟨hk0,hk5⟩:=h.kind
 refine Spec.of (n:=42) (vs:=[maV m]) Tryz.func108 rfl Tryz.ntmps108 rfl ?_
 refine sj [.e,.p,.p] Z<|Rg.box Z Z Z Z Z (fun b1=>?_)
 refine aj Z<|aj Z<|nl<|wj<|sj [.r,.e,.p] Z<|rj Z (Ev.as (maV m) (Ev.ldA Z Z) Z)<|Rg.callP Z Z Z (mz Z) (mright_spec h) ?_
 rintro _ rfl
 refine uj Z (Pv.not Z)<|nl<|cj Z (fun h9=>absurd h9 (by decide)) (fun h9=>?_)
 refine kj<|sj [.p] Z<|aj Z<|nl<|wj<|sj [.p,.r,.p,.r,.p,.p,.r,.p,.p,.r,.p,.p,.p,.p,.r,.p,.p,.p,.r,.p,.p,.p] Z<|fj Z<|lj Z Z<|fj Z<|lj Z Z<|uj Z (Pv.asI m.n (Pv.convI rfl) (wrap_ult rfl (by show _<2 ^ 64;omega)))<|fj Z<|lj Z Z<|uj Z (Pv.asI m.sh (Pv.convI rfl) (wrap_ult rfl (by show _<2 ^ 64;omega)))<|fj Z ?_
 refine lj Z Z<|uj Z (Pv.asI (m.step+1).toNat (Pv.add rfl rfl (by omega)) (by omega))<|uj Z (Pv.asI (m.step+1).toNat (Pv.convI rfl) (wrap_ult rfl (by show _<2 ^ 64;omega)))<|fj Z<|fj Z<|lj Z Z<|uj Z (Pv.asI m.p.kind.toNat (Pv.convI rfl) (by rw [show m.p.kind=((m.p.kind.toNat:Nat):Int) by omega];exact wrap_ult rfl (by show _<2 ^ 64;omega)))<|fj Z<|fj Z<|lj Z Z<|uj Z (Pv.asI m.p.start (Pv.convI rfl) (wrap_ult rfl (by show _<2 ^ 64;omega)))<|uj Z (Pv.buildA Z Z)<|mj Z<|nl<|bj ?_
 refine Vc.loop3 (fun (j:Nat) (w:Value) (sg:Hl)=>j≤6∧Own byteE w (((maN m).take j).flatMap (leBytes 8)) sg) (fun j w sg=>[(4,w),(30,.agg #[.int .u64 (m.seq:Int),.int .u64 (m.n:Int),.int .u64 (m.sh:Int),.int .u64 (((m.step+1).toNat:Nat):Int),.int .u64 ((m.p.kind.toNat:Nat):Int),.int .u64 (m.p.start:Int)]),(31,.int .i64 (j:Int))]) (fun j w sg=>sg) (fun j w sg=>6-j) 0 (.slice none 0 0) [] ⟨Nat.zero_le _,.nil⟩ (.cons Z (.cons Z (.cons Z .nil))) pulled ?_
 rintro j w sg ⟨hj,own⟩
 have hN:(maN m).length=6:=rfl
 have hlw:(((maN m).take j).flatMap (leBytes 8)).length≤48:=by
  have:∀l:List Nat,(l.flatMap (leBytes 8)).length=8*l.length:=fun l=>by
   induction l with
   | nil=>rfl
   | cons a l ih=>rw [List.flatMap_cons,ly,ih,leBytes_length,List.length_cons];omega
  rw [this,List.length_take];omega
 refine sj [.p] Z<|uj Z (Pv.lss Z Z)<|nl<|wj<|cj Z (fun h32=>?_) (fun h32=>?_)
 · simp only [dt] at h32
   have hj6:j<6:=by omega
   refine kj<|wj<|bj<|sj [.p,.p] Z<|uj Z (Pv.index j Z Z hj6 (maN_get h hj6) Z)<|aj Z<|nl<|tj [.p,.p,.e,.p] Z<|mj Z<|mj Z<|Rg.callA Z Z Z (mz Z) (put_spec (Arg.own own frz_sb) (by omega) 8 (maN m)[j]! (by omega)) ?_
   rintro v36 s36 own36
   refine aj Z<|nl<|dj<|tj [.p,.p] Z<|uj Z (Pv.asI (j+1) (Pv.add rfl rfl (by omega)) (by omega))<|mj Z<|nl ?_
   exact Vc.inv3 (j+1) v36 s36 ⟨⟨by omega,by rw [take_N (by omega)];exact own36⟩,by omega⟩ (.cons rfl (.cons rfl (.cons rfl .nil))) pulled
 · simp only [df] at h32
   obtain rfl:j=6:=by omega
   refine Vc.exit Z<|sj [.p,.e,.p,.p,.p,.p] Z<|mj Z<|Rg.callA Z Z Z (mz Z) (encode_spec (t:=maT m) (Arg.own own frz_sb) (by rw [maT_length];omega)) ?_
   rintro v39 s39 ⟨u39,rfl,own39⟩
   refine xj Z Z<|xj Z Z<|aj Z<|aj Z<|nl ?_
   exact vr rfl (.cons (.tmp rfl) (tz Z)) (⟨_,rfl,own39⟩) pulled
end Go.Proofs.YtkpiakgmkpbikaaGreatDoor
