/- Steps of the proof. -/
import Derived.Test.YtkpiakgmkpbikaaGreatDoorTcr
import Derived.Test.YtkpiakgmkpbikaaGreatDoorRows
import Derived.WalkKit
import Derived.ProofKit
import Derived.LaidMore
import Derived.WideKeyElems2
import Derived.Stop.LaidErr
import Derived.Stop.Joined
import Derived.Deep.Strs
set_option linter.unusedVariables false
namespace Go.Proofs.YtkpiakgmkpbikaaGreatDoor
open ED (Eg egV egC edgeE InE grV)
theorem tcS_b (S:Int):1≤tcS S∧tcS S≤6:=by unfold tcS;omega
theorem tcM_b (S:Int):tcM S≤6:=by unfold tcM;omega
theorem tcB_b (S:Int):1≤tcB S∧tcB S≤20:=by unfold tcB;omega
structure RunP (p:Prg) (n most d:Nat) (es:List Eg):Prop where
 hp:p.start<4294967296
 hr:rightP p (n:Int)=true
 hn:n≤12
 hrg:ED.rightG (n:Int) es=true
 hE:∀e∈es,InE e
 hl:es.length≤15
 hm:most≤6
 ends:Ends p n es most d
theorem RunP.ing {p:Prg} {n most d:Nat} {es:List Eg} (h:RunP p n most d es) {sh B:Nat} (hs:1≤sh∧sh≤6) (hB:1≤B∧B≤20):IngP CT n sh B 43 es :=
 ingP_ctx hs.1 (by omega) (by omega) h.hrg h.hE (by have:=h.hl;omega) hB.1 (by omega) (by have:=nc_le (len:=es.length) hB.1;have:=h.hl;omega) (by decide)
theorem RunP.go {p:Prg} {n most d:Nat} {es:List Eg} (h:RunP p n most d es) {sh:Nat} (hs:1≤sh∧sh≤6):GoP CT p n sh es most d :=
 goP_ctx h.ends (by have:=h.ends.le;have:=h.hm;omega) (by have:=h.ends.le;have:=h.hm;omega) h.hp h.hr (by have:=h.hn;omega) h.hrg h.hE (by have:=h.hl;omega) h.hl hs.1 (by omega)
theorem RunP.d8 {p:Prg} {n most d:Nat} {es:List Eg} (h:RunP p n most d es):d≤6:=by have:=h.ends.le;have:=h.hm;omega
theorem RunP.hin {p:Prg} {n most d:Nat} {es:List Eg} (h:RunP p n most d es):∀j,InC (conf p n es j) n:=conf_in (by have:=h.hn;omega) (ok_of h.hrg h.hE).2
section
variable {F : Fm}
end
def stp (mo:Option Ma):Int:=if mo.isSome=true then (mo.getD ma0).step else -1
theorem Rn.stp_b {p:Prg} {n sh d:Nat} {es:List Eg} {D:Dk} {mo:Option Ma} (h:Rn p n sh es d D mo) (hd:d≤6) : -1≤stp mo∧stp mo≤6:=by
 cases mo with
 | none=>exact ⟨by decide,by decide⟩
 | some m =>
  show -1≤m.step∧m.step≤6
  rcases EI.how h with h | ⟨_,j,hj,h⟩<;>omega
structure TcS where
 i:Nat
 mo:Option Ma
 ld:Bool
 st:Int
 D:Dk
 ep:Value
 s:Hl
section
variable {F : Fm}
set_option maxHeartbeats 16000000 in
theorem TopCrash_spec (hL:Laid F) {ve v1 v2:Value} {es0:List Eg} {ats:List Int} {ks0:List Bool} {p:Prg} (ha:Arg edgeE F ve es0) (hE0:∀e∈es0,InE e) (hp:p.start<4294967296) (hat:Arg intE F v1 ats) (hk:Arg boolE F v2 ks0) (N S M Bd:Int) :
 Spec Tryz.prog 4 #[ruV p N ve S M Bd,v1,v2] F [] fun v _=>v=.bool true:=by
 obtain ⟨pe,ce,rfl⟩:=ha.shape
 obtain ⟨p1,c1,rfl⟩:=hat.shape
 obtain ⟨p2,c2,rfl⟩:=hk.shape
 have hck:=hk.cap.2
 have hkt:=hk.take (k:=min ks0.length 60) (Nat.min_le_left _ _)
 obtain ⟨ks,hks⟩:∃ks,ks=ks0.take (min ks0.length 60):=⟨_,rfl⟩
 have hkl:min ks0.length 60=ks.length:=by rw [hks,List.length_take];omega
 rw [←hks,hkl] at hkt
 have hk60:ks.length≤60:=by omega
 obtain ⟨es,hes⟩:∃es,es=es0.take 15:=⟨_,rfl⟩
 have hl:es.length≤15:=by rw [hes];simp;omega
 have hE:∀e∈es,InE e:=fun e he=>hE0 e (by rw [hes] at he;exact List.mem_of_mem_take he)
 have hS:=tcS_b S
 have hM:=tcM_b M
 have hB:=tcB_b Bd
 have hw0:Wz CT ⟨[],max 10000 0,0,0,0,[],false⟩:=Wz.new CT
 refine Spec.of (n:=236) (vs:=[ruV p N (.slice pe es0.length ce) S M Bd,.slice p1 ats.length c1,.slice p2 ks0.length c2]) Tryz.func4 rfl Tryz.ntmps4 rfl ?_
 refine sj [.e,.p] Z<|Rg.box Z Z Z Z Z (fun b3=>?_)
 refine aj Z<|nl<|sj [.e,.p] Z<|Rg.callA Z Z Z (mz Z) (works_spec (hL.mono fun b o h=>Or.inr h)) ?_
 rintro _ s21 rfl
 refine aj Z<|nl<|sj [.r,.e,.p,.p,.p,.e,.p] Z<|rj Z (Ev.as (ruV p N (.slice pe es0.length ce) S M Bd) (Ev.ldA Z Z) Z)<|Rg.callA Z Z Z (mz Z) (cut_spec (ha.mono fun b o h=>Or.inr h) hE0 hp N S M Bd) ?_
 rw [←hes]
 rintro _ s24 ⟨u,S',M',B',ok,rfl,own,hok1,hok2⟩
 obtain ⟨q,c,rfl⟩:=own.shape
 refine mj Z<|xj Z Z<|xj Z Z<|Rg.storeA (us:=ruC p N (.slice q es.length c) S' M' B') Z Z Z Z Z Z Z Z<|aj Z<|nl<|wj<|sj [.p,.p] Z<|mj Z<|uj Z (Pv.not Z)<|nl<|cj Z (fun h28=>?_) (fun h28=>?_)
 · refine sj [.p,.p] Z<|mj Z<|aj Z<|nl<|vz Z (tz Z) ?_
   rfl
 · obtain ⟨hrg,hN12,hr,rfl,rfl,rfl⟩:=hok1 (by simpa using h28)
   obtain ⟨n,rfl,hn⟩:=ED.rightG_nat hrg
   obtain ⟨d,hEn⟩:=ends_ex p n es (tcM M)
   have hR:RunP p n (tcM M) d es:=⟨hp,hr,by omega,hrg,hE,hl,hM,hEn⟩
   have hd6:=hR.d8
   have hdm:=hEn.le
   have hlen:=ED.encG_length n es
   have hdec:=ED.dec_enc hE hrg
   have hing:=hR.ing hS hB
   have hgo:=hR.go hS
   refine kj<|sj [.p,.p,.p,.p,.p,.p] Z<|mj Z<|mj Z<|uj Z (Pv.lenS Z)<|uj Z (Pv.asI (min ks0.length 60) (Pv.min rfl rfl) (by omega))<|uj Z (Pv.slTo (min ks0.length 60) rfl rfl (by omega)) ?_
   simp only [hkl]
   refine aj Z<|nl<|sj [.p,.r,.e,.p] Z<|fj Z<|lj Z Z ?_
   refine Rg.callA Z Z Z (mz Z) (new_player 10000 (tcB Bd:Int)) ?_
   rintro _ _ ⟨pb,db,s37,rfl,rfl,hD0⟩
   refine aj Z<|nl<|wj<|sj [.p,.p] Z<|mj Z<|uj Z (Pv.eqlNil Z Z)<|nl<|cj Z (fun h39=>absurd h39 (by simp)) (fun h39=>?_)
   refine kj<|sj [.p,.r,.e,.p] Z<|fj Z<|rj Z (Ev.as (grV (n:Int) (.slice q es.length c)) (Ev.ldA Z Z) Z) ?_
   refine Rg.callA Z Z Z (mz Z) (ED.rencode_spec (Arg.own own frz_sb) (by omega) hE n (by omega)) ?_
   rintro v42 s42 own42
   obtain ⟨p42,c42,rfl⟩:=own42.shape
   refine aj Z<|nl<|sj [.p] Z<|aj Z<|nl<|sj [.p] Z<|aj Z<|nl<|wj<|sj [.p] Z<|aj Z<|nl<|bj ?_
   refine Vc.loop1 (fun (T:TcS)=>T.i≤ats.length∧T.ld=T.mo.isSome∧T.st=stp T.mo∧DiskAt db T.D T.s∧Wz CT T.D∧Rn p n (tcS S) es d T.D T.mo) (fun T=>[(11,.bool T.ld),(12,.int .i64 T.st),(13,.int .i64 (T.i:Int)),(1,.slice p1 ats.length c1),(2,.slice p2 ks.length c2),(3,.pointer (some ⟨b3,0,none⟩)),(7,.bool true),(9,.pointer (some ⟨pb,0,none⟩)),(10,.slice p42 (ED.encG n es).length c42)]) (fun T=>(b3,cellsO (ruC p (n:Int) (.slice q es.length c) (tcS S:Int) (tcM M:Int) (tcB Bd:Int)) 29)::(pb,plO 0 db T.ep (tcB Bd:Int))::(T.s++(s42++s24))) (fun T=>ats.length-T.i) (⟨0,none,false,-1,_,.pointer none,s37⟩:TcS) ⟨Nat.zero_le _,Z,Z,hD0,hw0,⟨Z,Z⟩⟩ (.cons Z (.cons Z (.cons Z (.cons Z (.cons Z (.cons Z (.cons Z (.cons Z (.cons Z .nil))))))))) pulled ?_
   rintro ⟨i,mo,ld,st,D,ep,s⟩ ⟨hi,hld,hst,hD,hw,hRn⟩
   simp only at hi hld hst hD hw hRn ⊢
   subst hld;subst hst
   have hsb:=hRn.stp_b hd6
   refine wj<|wj<|Vc.cut1 (fun (bb:Bool)=>bb=true→i<ats.length∧i<6) (fun bb=>[(50,.bool bb),(11,.bool mo.isSome),(12,.int .i64 (stp mo)),(13,.int .i64 (i:Int)),(1,.slice p1 ats.length c1),(2,.slice p2 ks.length c2),(3,.pointer (some ⟨b3,0,none⟩)),(7,.bool true),(9,.pointer (some ⟨pb,0,none⟩)),(10,.slice p42 (ED.encG n es).length c42)]) (fun bb=>(b3,cellsO (ruC p (n:Int) (.slice q es.length c) (tcS S:Int) (tcM M:Int) (tcB Bd:Int)) 29)::(pb,plO 0 db ep (tcB Bd:Int))::(s++(s42++s24))) ?_ ?_
   · refine tj [.p,.p,.p,.p,.p,.p,.p,.p] Z<|mj Z<|mj Z<|uj Z (Pv.lenS Z)<|uj Z (Pv.lss Z Z)<|mj Z<|Rg.split (t:=47) Z (fun h47=>?_) (fun h47=>?_)
     · refine mj Z<|uj Z (Pv.lss Z Z)<|qj Z Z<|nl ?_
       exact Vc.inv1 _ (fun h49=>by simp only [dt] at h47 h49;omega) (.cons rfl (.cons rfl (.cons rfl (.cons rfl (.cons rfl (.cons rfl (.cons rfl (.cons rfl (.cons rfl (.cons rfl .nil)))))))))) pulled
     · iterate 2 (first | refine Rg.skipP rfl rfl rfl ?_ | refine Rg.skipR rfl rfl rfl ?_ | refine Rg.skipE rfl rfl rfl ?_)
       refine pj Z Z<|nl ?_
       exact Vc.inv1 false (fun h=>by cases h) (.cons rfl (.cons rfl (.cons rfl (.cons rfl (.cons rfl (.cons rfl (.cons rfl (.cons rfl (.cons rfl (.cons rfl .nil)))))))))) pulled
   · rintro bb hbb
     refine cj Z (fun h50=>?_) (fun h50=>?_)
     · obtain ⟨hil,hi6⟩:=hbb h50
       obtain ⟨ba,oa,ca,ea,_⟩:=hat.block (by omega)
       simp only [Value.slice.injEq] at ea
       obtain ⟨rfl,_,rfl⟩:=ea
       refine kj<|wj<|bj<|sj [.p,.p,.p,.p,.r,.p,.p,.p,.p,.p,.e] Z<|mj Z<|mj Z<|mj Z<|uj Z (Pv.ixA (i) rfl rfl (by omega) (by omega))<|rj Z (Ev.as (.int .i64 ats[i]!) (Ev.ldS (E:=intE) i hat.src Z Z Z hil) Z)<|uj Z (Pv.and rfl rfl ⟨by decide,by decide⟩)<|uj Z (Pv.remN (andN ats[i]! 65535) 200 rfl rfl (by decide))<|uj Z (Pv.asI (1+andN ats[i]! 65535 % 200) (Pv.add rfl rfl (by omega)) (by omega))<|mj Z<|uj Z (Pv.build (c:=#[.int .i64 7,.int .i64 ((1+andN ats[i]! 65535 % 200:Nat):Int),.int .i64 0,.int .i64 0,.int .u32 ((0:Nat):Int),.slice none 0 0,.slice p2 ks.length c2]) rfl (by kernel_rfl))<|Rg.callH Z Z Z (mz Z) (fun F' hF'=>arm_any (F:=F') (N:=((1+andN ats[i]! 65535 % 200:Nat):Int)) (q:=⟨0,0⟩) (M:=0) (pd:=none) (nd:=0) (cd:=0) (ep:=ep) (pb:=pb) (B:=tcB Bd) (by omega) (hkt.mono fun b o h=>hF' b o (Or.inr h)) (by omega) (by omega) hw hRn hD) rfl ?_
       rintro _ _ ⟨g1,D1,rfl,rfl,hD1,hw1,hR1,_⟩
       refine nl<|sj [.p,.p,.e,.e,.e] Z<|mj Z<|uj Z (Pv.build (c:=#[.int .i64 1,.int .i64 0,.int .i64 0,.int .i64 0,.int .u32 ((0:Nat):Int),.slice none 0 0,.slice none 0 0]) rfl (by kernel_rfl))<|Rg.callH Z Z Z (mz Z) (fun F' hF'=>open_any (F:=F') (q:=⟨0,0⟩) (N:=0) (M:=0) (pd:=none) (nd:=0) (cd:=0) (pk:=none) (nk:=0) (ck:=0) (ep:=ep) (B:=tcB Bd) (pb:=pb) (hL.mono fun b o h=>hF' b o (Or.inr h)) CT_nms (by omega) (by omega) hB.1 CT_ok hR1 hD1 hw1) rfl ?_
       rintro _ _ ⟨e2,ep2,s2,g2,D2,rfl,rfl,hD2,hO2⟩
       refine Rg.alloc Z Z Z Z (fun b14=>?_)
       refine Rg.storeA (us:=anC e2 0 0 false ⟨0,0⟩) Z Z Z Z Z Z Z Z<|nl<|wj<|sj [.p,.r,.p,.p,.p,.r,.p,.p] Z<|fj Z<|lj Z Z<|uj Z (Pv.neq Z Z)<|mj Z ?_
       refine Rg.split (t:=70) Z (fun h70=>?_) (fun h70=>?_)
       · simp only [bne_iff_ne,ne_eq] at h70
         obtain ⟨rfl,rfl,_,hw2,hR2⟩:=hO2.resolve_left fun h=>h70 h.1
         rw [List.nil_append]
         refine fj Z<|lj Z Z<|uj Z (Pv.neq Z Z)<|qj Z Z<|nl<|cj Z (fun h74=>absurd h74 (by decide)) (fun h74=>?_)
         refine kj<|wj<|sj [.p,.r,.p] Z<|fj Z<|lj Z Z<|uj Z (Pv.eql Z Z)<|nl<|cj Z (fun h77=>?_) (fun h77=>absurd h77 (by decide))
         refine Vc.exit Z<|tj [.p,.p,.p] Z<|mj Z<|uj Z (Pv.asI (i+1) (Pv.add rfl rfl (by omega)) (by omega))<|aj Z<|nl ?_
         exact Vc.inv1 (⟨i+1,mo,mo.isSome,stp mo,D2,ep2,g2⟩:TcS) ⟨⟨by show i+1≤_;omega,rfl,rfl,hD2,hw2,hR2⟩,by show ats.length-(i+1)<ats.length-i;omega⟩ (.cons rfl (.cons rfl (.cons rfl (.cons rfl (.cons rfl (.cons rfl (.cons rfl (.cons rfl (.cons rfl .nil))))))))) pulled
       · simp only [bne_eq_false_iff_eq] at h70
         subst h70
         obtain ⟨_,⟨eb,rfl,rfl⟩,hE2,_⟩:=hO2.resolve_right fun h=>by cases h.1
         rw [List.singleton_append]
         iterate 3 (first | refine Rg.skipP rfl rfl rfl ?_ | refine Rg.skipR rfl rfl rfl ?_ | refine Rg.skipE rfl rfl rfl ?_)
         refine pj Z Z<|nl<|cj Z (fun h74=>absurd h74 (by decide)) (fun h74=>?_)
         refine kj<|wj<|sj [.p,.r,.p] Z<|fj Z<|lj Z Z<|uj Z (Pv.eql Z Z)<|nl<|cj Z (fun h77=>absurd h77 (by decide)) (fun h77=>?_)
         refine kj<|sj [.p,.p,.e,.e,.e] Z<|mj Z<|uj Z (Pv.build (c:=#[.int .i64 5,.int .i64 0,.int .i64 0,.int .i64 0,.int .u32 ((0:Nat):Int),.slice none 0 0,.slice none 0 0]) rfl (by kernel_rfl))<|Rg.callH Z Z Z (mz Z) (fun F' hF'=>status_any (F:=F') (s:=g2) (m:=mo.getD ma0) (is:=mo.isSome) (dd:=false) (q:=⟨0,0⟩) (N:=0) (M:=0) (pd:=none) (nd:=0) (cd:=0) (pk:=none) (nk:=0) (ck:=0) (eb:=eb) (pb:=pb) (db:=db) (Bi:=(tcB Bd:Int)) (hL.mono fun b o h=>hF' b o (Or.inr h))) Z ?_
         rintro _ _ ⟨rfl,rfl⟩
         rw [show (if mo.isSome=true then (mo.getD ma0).step else -1)=stp mo from rfl]
         generalize (if mo.isSome=true then (mo.getD ma0).p else ⟨0,0⟩)=q3
         refine Rg.alloc Z Z Z Z (fun b15=>?_)
         refine Rg.storeA (us:=anC 0 (stp mo) 0 mo.isSome q3) Z Z Z Z Z Z Z Z<|nl<|wj<|wj<|Vc.cut0 True [(99,.bool false),(13,.int .i64 (i:Int)),(15,.pointer (some ⟨b15,0,none⟩)),(1,.slice (some ⟨ba,oa,none⟩) ats.length c1),(2,.slice p2 ks.length c2),(3,.pointer (some ⟨b3,0,none⟩)),(7,.bool true),(9,.pointer (some ⟨pb,0,none⟩)),(10,.slice p42 (ED.encG n es).length c42)] ((b15,cellsO (anC 0 (stp mo) 0 mo.isSome q3) 38)::(b3,cellsO (ruC p (n:Int) (.slice q es.length c) (tcS S:Int) (tcM M:Int) (tcB Bd:Int)) 29)::(pb,plO 0 db (.pointer (some ⟨eb,0,none⟩)) (tcB Bd:Int))::(eb,enO db (tcB Bd:Int) (mo.getD ma0) mo.isSome false)::(g2++(s42++s24))) ?_ ?_
         · refine tj [.p,.p,.p,.r,.p,.p,.p,.p,.r,.p,.p,.p,.p,.p,.r,.p,.p,.p,.p] Z<|mj Z<|mj Z<|Rg.split (t:=82) Z (fun h82=>?_) (fun h82=>?_)
           · refine fj Z<|lj Z Z<|uj Z (Pv.not Z)<|qj Z Z<|mj Z ?_
             refine Rg.split (t:=87) rfl (fun h87=>absurd h87 (by first | (simp [h82];done) | simp)) (fun h87=>?_)
             refine fj Z<|lj Z Z<|mj Z<|uj Z (Pv.lss Z Z)<|pj Z Z<|mj Z ?_
             refine Rg.split (t:=93) rfl (fun h93=>absurd h93 (by simp)) (fun h93=>?_)
             refine fj Z<|lj Z Z<|mj Z<|uj Z (Pv.add rfl rfl (by omega))<|uj Z (Pv.as (.bool false) (Pv.gtr rfl rfl) (congrArg Value.bool (decide_eq_false (by omega))))<|pj Z Z<|nl ?_
             exact Vc.inv0 trivial (.cons rfl (.cons rfl (.cons rfl (.cons rfl (.cons rfl (.cons rfl (.cons rfl (.cons rfl (.cons rfl .nil))))))))) pulled
           · iterate 3 (first | refine Rg.skipP rfl rfl rfl ?_ | refine Rg.skipR rfl rfl rfl ?_ | refine Rg.skipE rfl rfl rfl ?_)
             refine pj Z Z<|mj Z<|fj Z<|lj Z Z<|mj Z<|uj Z (Pv.lss Z Z)<|pj Z Z<|mj Z ?_
             refine Rg.split (t:=93) rfl (fun h93=>absurd h93 (by simp)) (fun h93=>?_)
             refine fj Z<|lj Z Z<|mj Z<|uj Z (Pv.add rfl rfl (by omega))<|uj Z (Pv.as (.bool false) (Pv.gtr rfl rfl) (congrArg Value.bool (decide_eq_false (by omega))))<|pj Z Z<|nl ?_
             exact Vc.inv0 trivial (.cons rfl (.cons rfl (.cons rfl (.cons rfl (.cons rfl (.cons rfl (.cons rfl (.cons rfl (.cons rfl .nil))))))))) pulled
         · intro _
           refine cj Z (fun h99=>absurd h99 (by decide)) (fun h99=>?_)
           refine kj<|sj [.p,.p,.r,.p,.p,.e,.e,.e] Z<|mj Z<|fj Z<|lj Z Z<|mj Z<|uj Z (Pv.build (c:=#[.int .i64 2,.int .i64 (tcS S:Int),.int .i64 0,.int .i64 0,.int .u32 ((0:Nat):Int),.slice p42 (ED.encG n es).length c42,.slice none 0 0]) rfl (by kernel_rfl)) ?_
           refine Rg.callH Z Z Z (mz Z) (fun F' hF'=>ingest_any (F:=F') (q:=⟨0,0⟩) (M:=0) (pk:=none) (nk:=0) (ck:=0) (eb:=eb) (pb:=pb) (hL.mono fun b o h=>hF' b o (Or.inr h)) hing (Arg.own own42 fun b o h=>hF' b o (Or.inl (by simp [h]))) (by rw [hlen];omega) hdec CT_ok hE2 hD2) rfl ?_
           rintro _ _ ⟨e4,D4,m4,is4,dd4,g4,rfl,rfl,hD4,hE4,hq1,hq2,_⟩
           refine Rg.alloc Z Z Z Z (fun b16=>?_)
           refine Rg.storeA (us:=anC e4 0 0 false ⟨0,0⟩) Z Z Z Z Z Z Z Z<|nl<|wj<|wj<|Vc.cut0 True [(127,.bool false),(13,.int .i64 (i:Int)),(15,.pointer (some ⟨b15,0,none⟩)),(1,.slice (some ⟨ba,oa,none⟩) ats.length c1),(2,.slice p2 ks.length c2),(3,.pointer (some ⟨b3,0,none⟩)),(7,.bool true),(9,.pointer (some ⟨pb,0,none⟩)),(10,.slice p42 (ED.encG n es).length c42)] ((b15,cellsO (anC 0 (stp mo) 0 mo.isSome q3) 38)::(b3,cellsO (ruC p (n:Int) (.slice q es.length c) (tcS S:Int) (tcM M:Int) (tcB Bd:Int)) 29)::(pb,plO 0 db (.pointer (some ⟨eb,0,none⟩)) (tcB Bd:Int))::(eb,enO db (tcB Bd:Int) m4 is4 dd4)::(g4++(s42++s24))) ?_ ?_
           · refine tj [.p,.r,.p,.p,.r,.p,.p,.p,.p,.r,.p,.p,.p,.r,.p,.p,.p,.p,.r,.p,.p,.p] Z<|fj Z<|lj Z Z<|mj Z ?_
             refine Rg.split (t:=108) Z (fun h108=>?_) (fun h108=>?_)
             · refine fj Z<|lj Z Z<|uj Z (Pv.neq Z Z)<|qj Z Z<|mj Z ?_
               refine Rg.split (t:=113) rfl (fun h113=>absurd h113 (by first | (rw [(hq1 h108).1];decide) | decide)) (fun h113=>?_)
               refine fj Z<|lj Z Z<|uj Z (Pv.not Z)<|mj Z ?_
               refine Rg.split (t:=117) rfl (fun h117=>absurd h117 (by (rw [h108];decide))) (fun h117=>?_)
               iterate 3 (first | refine Rg.skipP rfl rfl rfl ?_ | refine Rg.skipR rfl rfl rfl ?_ | refine Rg.skipE rfl rfl rfl ?_)
               refine pj Z Z<|mj Z ?_
               iterate 3 (first | refine Rg.skipP rfl rfl rfl ?_ | refine Rg.skipR rfl rfl rfl ?_ | refine Rg.skipE rfl rfl rfl ?_)
               refine pj Z Z<|pj Z Z<|nl ?_
               exact Vc.inv0 trivial (.cons rfl (.cons rfl (.cons rfl (.cons rfl (.cons rfl (.cons rfl (.cons rfl (.cons rfl (.cons rfl .nil))))))))) pulled
             · iterate 3 (first | refine Rg.skipP rfl rfl rfl ?_ | refine Rg.skipR rfl rfl rfl ?_ | refine Rg.skipE rfl rfl rfl ?_)
               refine pj Z Z<|mj Z<|fj Z<|lj Z Z<|uj Z (Pv.not Z)<|mj Z ?_
               refine Rg.split (t:=117) rfl (fun h117=>?_) (fun h117=>absurd h117 (by (rw [h108];decide)))
               refine fj Z<|lj Z Z<|uj Z (Pv.neq Z Z)<|qj Z Z<|mj Z ?_
               refine Rg.split (t:=122) Z (fun h122=>?_) (fun h122=>?_)
               · have he7:e4=7:=((hq2 h108 rfl).resolve_left fun h=>by rw [h.1] at h122;cases h122).1
                 refine fj Z<|lj Z Z<|uj Z (Pv.as (.bool false) (Pv.neq rfl rfl) (by rw [he7];rfl))<|qj Z Z<|pj Z Z<|nl ?_
                 exact Vc.inv0 trivial (.cons rfl (.cons rfl (.cons rfl (.cons rfl (.cons rfl (.cons rfl (.cons rfl (.cons rfl (.cons rfl .nil))))))))) pulled
               · iterate 3 (first | refine Rg.skipP rfl rfl rfl ?_ | refine Rg.skipR rfl rfl rfl ?_ | refine Rg.skipE rfl rfl rfl ?_)
                 refine pj Z Z<|pj Z Z<|nl ?_
                 exact Vc.inv0 trivial (.cons rfl (.cons rfl (.cons rfl (.cons rfl (.cons rfl (.cons rfl (.cons rfl (.cons rfl (.cons rfl .nil))))))))) pulled
           · intro _
             refine cj Z (fun h127=>absurd h127 (by decide)) (fun h127=>?_)
             refine kj<|sj [.p,.p,.r,.p,.r,.p,.e] Z<|mj Z<|fj Z<|lj Z Z<|fj Z<|rj Z (Ev.as (prV p) (Ev.ldA Z Z) Z)<|uj Z (Pv.build (c:=#[.int .i64 3,.int .i64 (tcM M:Int),.int .i64 0,.int .i64 p.kind,.int .u32 (p.start:Int),.slice none 0 0,.slice none 0 0]) rfl (by kernel_rfl)) ?_
             refine Rg.callH Z Z Z (mz Z) (fun F' hF'=>run_any (F:=F') (M:=0) (pd:=none) (nd:=0) (cd:=0) (pk:=none) (nk:=0) (ck:=0) (eb:=eb) (pb:=pb) (hL.mono fun b o h=>hF' b o (Or.inr h)) hgo hB.1 CT_ok hE4 hD4) Z ?_
             rintro _ _ ⟨e5,z5,D5,m5,dd5,g5,rfl,rfl,hD5,hE5,_⟩
             refine nl<|sj [.p,.p,.e,.e] Z<|mj Z<|uj Z (Pv.build (c:=#[.int .i64 5,.int .i64 0,.int .i64 0,.int .i64 0,.int .u32 ((0:Nat):Int),.slice none 0 0,.slice none 0 0]) rfl (by kernel_rfl))<|Rg.callH Z Z Z (mz Z) (fun F' hF'=>status_any (F:=F') (s:=g5) (m:=m5) (is:=is4) (dd:=dd5) (q:=⟨0,0⟩) (N:=0) (M:=0) (pd:=none) (nd:=0) (cd:=0) (pk:=none) (nk:=0) (ck:=0) (eb:=eb) (pb:=pb) (db:=db) (Bi:=(tcB Bd:Int)) (hL.mono fun b o h=>hF' b o (Or.inr h))) Z ?_
             rintro _ _ ⟨rfl,rfl⟩
             generalize (if is4=true then m5.p else ⟨0,0⟩)=q5
             refine Rg.storeA (us:=anC 0 (if is4=true then m5.step else -1) 0 is4 q5) Z Z Z Z Z Z Z Z<|nl<|sj [.p,.r,.p] Z<|fj Z<|lj Z Z<|aj Z<|nl<|sj [.p,.r,.p] Z<|fj Z<|lj Z Z<|aj Z<|nl<|tj [.p,.p,.p,.e] Z<|mj Z<|mj Z ?_
             refine uj Z (Pv.build (c:=#[.int .i64 6,.int .i64 0,.int .i64 0,.int .i64 0,.int .u32 ((0:Nat):Int),.slice none 0 0,.slice p2 ks.length c2]) rfl (by kernel_rfl))<|Rg.callH Z Z Z (mz Z) (fun F' hF'=>crash_any (F:=F') (mo:=if is4=true then some m5 else none) (q:=⟨0,0⟩) (N:=0) (M:=0) (pd:=none) (nd:=0) (cd:=0) (ep:=.pointer (some ⟨eb,0,none⟩)) (B:=tcB Bd) (pb:=pb) CT_ok (by omega) (hkt.mono fun b o h=>hF' b o (Or.inr h)) hE5.wz hE5.rn hD5) rfl ?_
             rintro _ _ ⟨g6,D6,rfl,rfl,hD6,hw6,hR6,_⟩
             refine nl<|dj<|tj [.p,.p,.p] Z<|mj Z<|uj Z (Pv.asI (i+1) (Pv.add rfl rfl (by omega)) (by omega))<|aj Z<|nl ?_
             exact Vc.inv1 (⟨i+1,if is4=true then some m5 else none,is4,if is4=true then m5.step else -1,D6,.pointer (some ⟨eb,0,none⟩),g6⟩:TcS) ⟨⟨by show i+1≤_;omega,by cases is4<;>rfl,by cases is4<;>rfl,hD6,hw6,hR6⟩,by show ats.length-(i+1)<ats.length-i;omega⟩ (.cons rfl (.cons rfl (.cons rfl (.cons rfl (.cons rfl (.cons rfl (.cons rfl (.cons rfl (.cons rfl .nil))))))))) pulled
     · refine Vc.exit Z<|sj [.p,.p,.e] Z<|mj Z<|uj Z (Pv.build (c:=#[.int .i64 7,.int .i64 0,.int .i64 0,.int .i64 0,.int .u32 ((0:Nat):Int),.slice none 0 0,.slice none 0 0]) rfl (by kernel_rfl))<|Rg.callH Z Z Z (mz Z) (fun F' hF'=>arm_any (F:=F') (N:=0) (q:=⟨0,0⟩) (M:=0) (pd:=none) (nd:=0) (cd:=0) (pk:=none) (ck:=0) (ks:=[]) (ep:=ep) (pb:=pb) (B:=tcB Bd) (by omega) (.inl ⟨⟨none,0,rfl⟩,rfl⟩) (by decide) (by decide) hw hRn hD) rfl ?_
       rintro _ _ ⟨g1,D1,rfl,rfl,hD1,hw1,hR1,ha1⟩
       refine nl<|sj [.p,.p,.e,.e,.e] Z<|mj Z<|uj Z (Pv.build (c:=#[.int .i64 1,.int .i64 0,.int .i64 0,.int .i64 0,.int .u32 ((0:Nat):Int),.slice none 0 0,.slice none 0 0]) rfl (by kernel_rfl))<|Rg.callH Z Z Z (mz Z) (fun F' hF'=>open_any (F:=F') (q:=⟨0,0⟩) (N:=0) (M:=0) (pd:=none) (nd:=0) (cd:=0) (pk:=none) (nk:=0) (ck:=0) (ep:=ep) (B:=tcB Bd) (pb:=pb) (hL.mono fun b o h=>hF' b o (Or.inr h)) CT_nms (by omega) (by omega) hB.1 CT_ok hR1 hD1 hw1) rfl ?_
       rintro _ _ ⟨e2,ep2,s2,g2,D2,rfl,rfl,hD2,hO2⟩
       obtain ⟨rfl,⟨eb,rfl,rfl⟩,hE2,ha2⟩:=hO2.resolve_right (fun h=>h.2.2.1 (ha1 rfl))
       have ha2:=ha2 (ha1 rfl)
       rw [List.singleton_append]
       refine Rg.alloc Z Z Z Z (fun b17=>?_)
       refine Rg.storeA (us:=anC 0 0 0 false ⟨0,0⟩) Z Z Z Z Z Z Z Z<|nl<|sj [.p,.p,.e,.e,.e] Z<|mj Z<|uj Z (Pv.build (c:=#[.int .i64 5,.int .i64 0,.int .i64 0,.int .i64 0,.int .u32 ((0:Nat):Int),.slice none 0 0,.slice none 0 0]) rfl (by kernel_rfl))<|Rg.callH Z Z Z (mz Z) (fun F' hF'=>status_any (F:=F') (s:=g2) (m:=mo.getD ma0) (is:=mo.isSome) (dd:=false) (q:=⟨0,0⟩) (N:=0) (M:=0) (pd:=none) (nd:=0) (cd:=0) (pk:=none) (nk:=0) (ck:=0) (eb:=eb) (pb:=pb) (db:=db) (Bi:=(tcB Bd:Int)) (hL.mono fun b o h=>hF' b o (Or.inr h))) Z ?_
       rintro _ _ ⟨rfl,rfl⟩
       rw [show (if mo.isSome=true then (mo.getD ma0).step else -1)=stp mo from rfl]
       have hstp:stp mo=if mo.isSome=true then (mo.getD ma0).step else -1:=rfl
       generalize (if mo.isSome=true then (mo.getD ma0).p else ⟨0,0⟩)=q3
       generalize mo.getD ma0=m2 at hE2 hstp ⊢
       generalize mo.isSome=is2 at hE2 hstp ⊢
       generalize stp mo=st2 at hsb hstp ⊢
       refine Rg.alloc Z Z Z Z (fun b18=>?_)
       refine Rg.storeA (us:=anC 0 st2 0 is2 q3) Z Z Z Z Z Z Z Z<|nl<|wj<|wj<|Vc.cut2 (fun (D':Dk) (g':Hl)=>DiskAt db D' g'∧Eng CT p n (tcS S) es d D' m2 is2 false∧D'.armed=0) (fun D' g'=>[(194,.bool false),(1,.slice p1 ats.length c1),(3,.pointer (some ⟨b3,0,none⟩)),(7,.bool true),(9,.pointer (some ⟨pb,0,none⟩)),(10,.slice p42 (ED.encG n es).length c42)]) (fun D' g'=>(b3,cellsO (ruC p (n:Int) (.slice q es.length c) (tcS S:Int) (tcM M:Int) (tcB Bd:Int)) 29)::(pb,plO 0 db (.pointer (some ⟨eb,0,none⟩)) (tcB Bd:Int))::(eb,enO db (tcB Bd:Int) m2 is2 false)::(g'++(s42++s24))) ?_ ?_
       · refine tj [.p,.r,.p,.p,.p,.p,.p,.r,.p,.p,.p,.p,.p,.r,.p,.p,.p,.p,.p,.r,.p,.p,.p,.p,.p,.p,.r,.p,.p,.p,.p,.r,.p,.r,.p,.r,.e,.p,.p,.p] Z<|fj Z<|lj Z Z<|uj Z (Pv.neq Z Z)<|mj Z ?_
         refine Rg.split (t:=158) rfl (fun h158=>absurd h158 (by decide)) (fun h158=>?_)
         refine mj Z<|mj Z<|Rg.split (t:=160) Z (fun h160=>?_) (fun h160=>?_)
         · refine fj Z<|lj Z Z<|uj Z (Pv.not Z)<|qj Z Z<|pj Z Z<|mj Z ?_
           refine Rg.split (t:=166) rfl (fun h166=>absurd h166 (by first | (simp [h160];done) | simp)) (fun h166=>?_)
           refine fj Z<|lj Z Z<|mj Z<|uj Z (Pv.lss Z Z)<|pj Z Z<|mj Z ?_
           refine Rg.split (t:=172) rfl (fun h172=>absurd h172 (by simp)) (fun h172=>?_)
           refine fj Z<|lj Z Z<|mj Z<|uj Z (Pv.add rfl rfl (by omega))<|uj Z (Pv.as (.bool false) (Pv.gtr rfl rfl) (congrArg Value.bool (decide_eq_false (by omega))))<|pj Z Z<|mj Z ?_
           refine Rg.split (t:=179) rfl (fun h179=>absurd h179 (by decide)) (fun h179=>?_)
           refine fj Z<|lj Z Z<|uj Z (Pv.geq Z Z)<|mj Z ?_
           refine Rg.split (t:=183) Z (fun h183=>?_) (fun h183=>?_)
           · simp only [dt] at h183
             obtain rfl:is2=true:=by
              cases is2 with
              | true=>rfl
              | false=>have:st2 = -1:=hstp;omega
             have hstp2:st2=m2.step:=hstp
             refine mj Z<|fj Z<|rj Z (Ev.as (prV p) (Ev.ldA Z Z) Z)<|fj Z<|rj Z (Ev.as (grV (n:Int) (.slice q es.length c)) (Ev.ldA Z Z) Z)<|fj Z<|rj Z (Ev.as (.int .i64 (st2.toNat:Int)) (Ev.ld rfl rfl) (congrArg (Value.int .i64) (by omega))) ?_
             refine Rg.callH Z Z Z (mz Z) (fun F' hF'=>holds_spec (F:=F') (eb:=eb) (pb:=pb) (Bi:=(tcB Bd:Int)) (dn:=st2.toNat) (m:=m2) (hL.mono fun b o h=>hF' b o (Or.inr h)) hp hr (by omega) hR.hin (ok_of hrg hE).2 (by omega) (by omega) CT_ok (Arg.own own fun b o h=>hF' b o (Or.inl (by simp [h]))) (by omega) (by omega) hE2 ha2 hD2) rfl ?_
             rintro _ _ ⟨D3,g3,rfl,rfl,hD3,hE3,ha3⟩
             refine uj Z (Pv.not Z)<|qj Z Z<|pj Z Z<|nl ?_
             exact Vc.inv2 D3 g3 ⟨hD3,hE3,ha3⟩ (.cons rfl (.cons rfl (.cons rfl (.cons rfl (.cons rfl (.cons rfl .nil)))))) pulled
           · iterate 9 (first | refine Rg.skipP rfl rfl rfl ?_ | refine Rg.skipR rfl rfl rfl ?_ | refine Rg.skipE rfl rfl rfl ?_)
             refine pj Z Z<|pj Z Z<|nl ?_
             exact Vc.inv2 D2 g2 ⟨hD2,hE2,ha2⟩ (.cons rfl (.cons rfl (.cons rfl (.cons rfl (.cons rfl (.cons rfl .nil)))))) pulled
         · iterate 3 (first | refine Rg.skipP rfl rfl rfl ?_ | refine Rg.skipR rfl rfl rfl ?_ | refine Rg.skipE rfl rfl rfl ?_)
           refine pj Z Z<|pj Z Z<|mj Z<|fj Z<|lj Z Z<|mj Z<|uj Z (Pv.lss Z Z)<|pj Z Z<|mj Z ?_
           refine Rg.split (t:=172) rfl (fun h172=>absurd h172 (by simp)) (fun h172=>?_)
           refine fj Z<|lj Z Z<|mj Z<|uj Z (Pv.add rfl rfl (by omega))<|uj Z (Pv.as (.bool false) (Pv.gtr rfl rfl) (congrArg Value.bool (decide_eq_false (by omega))))<|pj Z Z<|mj Z ?_
           refine Rg.split (t:=179) rfl (fun h179=>absurd h179 (by decide)) (fun h179=>?_)
           refine fj Z<|lj Z Z<|uj Z (Pv.geq Z Z)<|mj Z ?_
           refine Rg.split (t:=183) Z (fun h183=>?_) (fun h183=>?_)
           · simp only [dt] at h183
             obtain rfl:is2=true:=by
              cases is2 with
              | true=>rfl
              | false=>have:st2 = -1:=hstp;omega
             have hstp2:st2=m2.step:=hstp
             refine mj Z<|fj Z<|rj Z (Ev.as (prV p) (Ev.ldA Z Z) Z)<|fj Z<|rj Z (Ev.as (grV (n:Int) (.slice q es.length c)) (Ev.ldA Z Z) Z)<|fj Z<|rj Z (Ev.as (.int .i64 (st2.toNat:Int)) (Ev.ld rfl rfl) (congrArg (Value.int .i64) (by omega))) ?_
             refine Rg.callH Z Z Z (mz Z) (fun F' hF'=>holds_spec (F:=F') (eb:=eb) (pb:=pb) (Bi:=(tcB Bd:Int)) (dn:=st2.toNat) (m:=m2) (hL.mono fun b o h=>hF' b o (Or.inr h)) hp hr (by omega) hR.hin (ok_of hrg hE).2 (by omega) (by omega) CT_ok (Arg.own own fun b o h=>hF' b o (Or.inl (by simp [h]))) (by omega) (by omega) hE2 ha2 hD2) rfl ?_
             rintro _ _ ⟨D3,g3,rfl,rfl,hD3,hE3,ha3⟩
             refine uj Z (Pv.not Z)<|qj Z Z<|pj Z Z<|nl ?_
             exact Vc.inv2 D3 g3 ⟨hD3,hE3,ha3⟩ (.cons rfl (.cons rfl (.cons rfl (.cons rfl (.cons rfl (.cons rfl .nil)))))) pulled
           · iterate 9 (first | refine Rg.skipP rfl rfl rfl ?_ | refine Rg.skipR rfl rfl rfl ?_ | refine Rg.skipE rfl rfl rfl ?_)
             refine pj Z Z<|pj Z Z<|nl ?_
             exact Vc.inv2 D2 g2 ⟨hD2,hE2,ha2⟩ (.cons rfl (.cons rfl (.cons rfl (.cons rfl (.cons rfl (.cons rfl .nil)))))) pulled
       · clear hE2 hD2 ha2
         rintro D3 g3 ⟨hD3,hE3,ha3⟩
         refine cj Z (fun h194=>absurd h194 (by decide)) (fun h194=>?_)
         refine kj<|sj [.p,.p,.r,.p,.p,.e] Z<|mj Z<|fj Z<|lj Z Z<|mj Z<|uj Z (Pv.build (c:=#[.int .i64 2,.int .i64 (tcS S:Int),.int .i64 0,.int .i64 0,.int .u32 ((0:Nat):Int),.slice p42 (ED.encG n es).length c42,.slice none 0 0]) rfl (by kernel_rfl)) ?_
         refine Rg.callH Z Z Z (mz Z) (fun F' hF'=>ingest_any (F:=F') (q:=⟨0,0⟩) (M:=0) (pk:=none) (nk:=0) (ck:=0) (eb:=eb) (pb:=pb) (hL.mono fun b o h=>hF' b o (Or.inr h)) hing (Arg.own own42 fun b o h=>hF' b o (Or.inl (by simp [h]))) (by rw [hlen];omega) hdec CT_ok hE3 hD3) rfl ?_
         rintro _ _ ⟨e4,D4,m4,is4,dd4,g4,rfl,rfl,hD4,hE4,_,_,hq3⟩
         obtain ⟨ha4,rfl,rfl,_⟩:=hq3 ha3 rfl
         refine nl<|sj [.p,.p,.r,.p,.r,.p,.e,.e,.e] Z<|mj Z<|fj Z<|lj Z Z<|fj Z<|rj Z (Ev.as (prV p) (Ev.ldA Z Z) Z)<|uj Z (Pv.build (c:=#[.int .i64 3,.int .i64 (tcM M:Int),.int .i64 0,.int .i64 p.kind,.int .u32 (p.start:Int),.slice none 0 0,.slice none 0 0]) rfl (by kernel_rfl)) ?_
         refine Rg.callH Z Z Z (mz Z) (fun F' hF'=>run_any (F:=F') (M:=0) (pd:=none) (nd:=0) (cd:=0) (pk:=none) (nk:=0) (ck:=0) (eb:=eb) (pb:=pb) (hL.mono fun b o h=>hF' b o (Or.inr h)) hgo hB.1 CT_ok hE4 hD4) Z ?_
         rintro _ _ ⟨e5,z5,D5,m5,dd5,g5,rfl,rfl,hD5,hE5,hq5⟩
         obtain ⟨ha5,rfl,rfl,rfl,hst5,hmp5⟩:=hq5 ha4 rfl rfl
         refine Rg.alloc Z Z Z Z (fun b19=>?_)
         refine Rg.storeA (us:=anC 0 (d:Int) 0 false ⟨0,0⟩) Z Z Z Z Z Z Z Z<|nl<|sj [.p,.r,.p,.r,.p,.r,.e,.p] Z<|fj Z<|rj Z (Ev.as (prV p) (Ev.ldA Z Z) Z)<|fj Z<|rj Z (Ev.as (grV (n:Int) (.slice q es.length c)) (Ev.ldA Z Z) Z)<|fj Z<|lj Z Z ?_
         refine Rg.callP Z Z Z (mz Z) (quiet_spec hp hr (by omega) hR.hin (ok_of hrg hE).2 (by omega) (Arg.own own frz_sb) hEn (by omega)) ?_
         rintro _ rfl
         refine aj Z<|nl<|sj [.p,.p,.p,.r,.p,.p,.p,.p,.r,.p,.p,.p,.p,.p,.p,.r,.p,.r,.p,.e,.p,.p] Z<|mj Z<|mj Z<|Rg.split (t:=216) rfl (fun h216=>?_) (fun h216=>absurd h216 (by decide))
         refine fj Z<|lj Z Z<|uj Z (Pv.eql Z Z)<|qj Z Z<|mj Z ?_
         refine Rg.split (t:=221) rfl (fun h221=>?_) (fun h221=>absurd h221 (by decide))
         refine fj Z<|lj Z Z<|mj Z<|uj Z (Pv.eql Z Z)<|qj Z Z<|mj Z ?_
         refine Rg.split (t:=227) rfl (fun h227=>?_) (fun h227=>absurd h227 (by simp))
         refine mj Z<|fj Z<|rj Z (Ev.as (prV p) (Ev.ldA Z Z) Z)<|fj Z<|rj Z (Ev.as (grV (n:Int) (.slice q es.length c)) (Ev.ldA Z Z) Z)<|mj Z ?_
         refine Rg.callH Z Z Z (mz Z) (fun F' hF'=>holds_spec (F:=F') (eb:=eb) (pb:=pb) (Bi:=(tcB Bd:Int)) (dn:=d) (m:=m5) (hL.mono fun b o h=>hF' b o (Or.inr h)) hp hr (by omega) hR.hin (ok_of hrg hE).2 (by omega) (by omega) CT_ok (Arg.own own fun b o h=>hF' b o (Or.inl (by simp [h]))) (by omega) (by omega) hE5 ha5 hD5) rfl ?_
         rintro _ _ ⟨D7,g7,rfl,rfl,hD7,hE7,ha7⟩
         refine qj Z Z<|aj Z<|nl<|vz Z (tz Z) ?_
         rfl
end
end Go.Proofs.YtkpiakgmkpbikaaGreatDoor
namespace Go.Proofs.YtkpiakgmkpbikaaGreatDoor
open Go.ChangeShapes Go.WideShapes Go.ChangeAt Go.RowKit
abbrev laidL : List (String × DataW Unit) := [("math/bits.deBruijn32tab", Rows.laid_math_bits_deBruijn32tab), ("math/bits.deBruijn64tab", Rows.laid_math_bits_deBruijn64tab), ("internal/strconv.uint64pow10", Rows.laid_internal_strconv_uint64pow10), ("strconv.ErrRange", Rows.laid_strconv_ErrRange), ("strconv.ErrSyntax", Rows.laid_strconv_ErrSyntax), ("cartage/script.calls", Rows.laid_cartage_script_calls)]
theorem var_block {W:World} {name:String} {g:Nat} {cs:Array Value} (hg:Tryz.prog.globalNamed name=some g) (h:W.var? Tryz.prog name=some cs):∃T z,W.heap[g]? = some (.cells cs T z):=by
 unfold World.var? at h
 rw [hg] at h
 simp only [Option.bind_some] at h
 split at h
 · rename_i c T z hb
   cases h
   exact ⟨T,z,hb⟩
 · cases h
theorem iface_of_trod {H:Type} {enc:TypeId×Value→H} {W:World} {sp:Nat→Bool} {held:Bool} {fuel:Nat} {t:TypeId} {ms:Array (String×TypeId)} {cs:List Value} {nm:String} {d:DataW H} {p:List MemPlace} (hi:Tryz.prog.underlying t=some (.interface ms)) (h:DataW.trod enc Tryz.prog W 0 sp held fuel t cs=some (.iface nm d,p)):∃u v,cs=[.iface u v]:=by
 cases fuel with
 | zero=>simp [DataW.trod] at h
 | succ n =>
  rw [DataW.trod_step] at h
  unfold DataW.trodStep at h
  rw [hi] at h
  split at h<;>simp_all
abbrev nmC (c:UInt8):List UInt8:=[99,97,114,116,97,103,101,47,115,99,114,105,112,116,46,99,97,108,108,115,36,c]
abbrev tabT:List (Lit×DataW (List UInt8)):=[(.int .i64 2,.held (nmC 49)),(.int .i64 3,.held (nmC 50)),(.int .i64 4,.held (nmC 51)),(.int .i64 5,.held (nmC 52))]
def nOf:Value→Int
 | .int _ n=>n
 | _=>0
theorem key_int {k:Lit} {v:Value} (h:keyOf Tryz.prog 3 v=some k):∃n:Int,v=.int .i64 n∧k=.int .i64 n:=by
 have hu:Tryz.prog.underlying 3=some (.int .i64):=Tryz.underlying3
 unfold keyOf at h
 rw [hu] at h
 simp only at h
 unfold mapKey at h
 rw [hu] at h
 split at h<;>simp_all
theorem func_cells {v:Value} {b:UInt8} {r:List UInt8} {q:List MemPlace} {W:World} {fuel:Nat} {f0:FuncId}
 (hone:((List.range Tryz.prog.funcs.size).filter fun f=>(Tryz.prog.funcs[f]?).any (·.name.toUTF8.data.toList==b::r))=[f0])
 (h:WideElems.elemAt (funcToken Tryz.prog) Tryz.prog W 0 (fun _=>true) true fuel 74 v=some (.held (b::r),q)):v=.func (.func f0) #[] #[]:=by
 unfold WideElems.elemAt at h
 split at h
 · rename_i hfm
   have hc:v.cells.toList=[v]:=by
    cases v<;>first | rfl | (simp [Value.formed,Tryz.underlying74] at hfm)
   rw [hc] at h
   exact func_of_trod Tryz.underlying74 hone h
 · cases h
set_option maxRecDepth 100000 in
theorem table_of {W:World} (h:laidMetH Tryz.prog laidL W):∃T z mb ms clock,W.heap[0]? = some (.cells [Value.map (some mb)].toArray T z)∧W.heap[mb]? = some (mapO kI ms clock)∧(ms.map (·.k)).Nodup ∧
 (findM ms 2).map (·.v)=some (.func (.func 175) #[] #[])∧(findM ms 3).map (·.v)=some (.func (.func 177) #[] #[])∧(findM ms 4).map (·.v)=some (.func (.func 179) #[] #[])∧(findM ms 5).map (·.v)=some (.func (.func 181) #[] #[]):=by
 obtain ⟨g, t, cs, fuel, p, hg, ht, hv, hd⟩ := h.funcs (n := "cartage/script.calls") (by simp [laidL, Rows.laid_cartage_script_calls]; rfl)
 obtain rfl := Option.some.inj ((show Tryz.prog.globalNamed "cartage/script.calls" = some 0 by kernel_rfl).symm.trans hg)
 obtain rfl:=Option.some.inj ((show (Tryz.prog.globals[0]?).map (·.type)=some 75 by kernel_rfl).symm.trans ht)
 obtain ⟨T,z,hb0⟩:=var_block hg hv
 have hd':DataW.trod (funcToken Tryz.prog) Tryz.prog W 0 (fun _=>true) true fuel 75 cs.toList=some (.map tabT,p):=hd
 have hmt:Tryz.prog.underlying 75=some (.map 3 74):=Tryz.underlying75
 rcases WideElems.open_map hmt hd' with ⟨_,hx⟩ | ⟨b,es,clock,n,_,hcs,hb,_,hF,hx⟩
 · cases hx
 · simp only [Prod.mk.injEq,DataW.map.injEq] at hx
   have hperm:=sorted_perm (es.toList.map (WideElems.rg Tryz.prog 3 (WideElems.elemAt (funcToken Tryz.prog) Tryz.prog W 0 (fun _=>true) true n 74)))
   rw [←hx.1] at hperm
   obtain ⟨ms,hms⟩:∃ms:List (Me Int),ms=es.toList.map fun x=>⟨nOf x.key,x.val,x.born⟩:=⟨_,rfl⟩
   have hkey:∀x∈es.toList,x.key=.int .i64 (nOf x.key):=fun x hx=>by
    obtain ⟨y,hy⟩:=hF.reads x hx
    obtain ⟨m,e,_⟩:=key_int (WideElems.rd_key hy)
    rw [e];rfl
   have hes:es.toList=ms.map (ent kI):=by
    rw [hms,List.map_map]
    refine (List.map_id es.toList).symm.trans (List.map_congr_left fun x hx=>?_)
    show x=(⟨.int .i64 (nOf x.key),x.val,x.born⟩:MapEntry)
    rw [←hkey x hx]
   have hnd:(ms.map (·.k)).Nodup:=by
    have hpw:=hF.stamped.2.2
    have e:es.toList.map (·.key)=(ms.map (·.k)).map kI:=by rw [hes,List.map_map,List.map_map];rfl
    rw [e] at hpw
    exact (List.pairwise_map.1 hpw).imp fun h e=>h (by rw [e])
   have key:∀(c:UInt8) (m:Int) (f0:FuncId),((Lit.int .i64 m,DataW.held (nmC c)):Lit×DataW (List UInt8))∈tabT→((List.range Tryz.prog.funcs.size).filter fun f=>(Tryz.prog.funcs[f]?).any (·.name.toUTF8.data.toList==nmC c))=[f0]→(findM ms m).map (·.v)=some (.func (.func f0) #[] #[]):=fun c m f0 hin hone=>by
    obtain ⟨x,hx,hrx⟩:=List.mem_map.1 (hperm.mem_iff.1 hin)
    obtain ⟨y,hy⟩:=hF.reads x hx
    rw [WideElems.rg_of hy] at hrx
    subst hrx
    obtain ⟨m',e1,e2⟩:=key_int (WideElems.rd_key hy)
    simp only [Lit.int.injEq,true_and] at e2
    subst e2
    unfold WideElems.rd at hy
    simp only [Option.bind_eq_some_iff,Option.map_eq_some_iff] at hy
    obtain ⟨kk,_,⟨d,q⟩,hel,hkd⟩:=hy
    simp only [Prod.mk.injEq] at hkd
    obtain ⟨_,rfl⟩:=hkd
    have hvx:=func_cells hone hel
    have hmem:(⟨m,x.val,x.born⟩:Me Int)∈ms:=by
     rw [hms]
     exact List.mem_map.2 ⟨x,hx,by rw [e1];rfl⟩
    cases hfd:findM ms m with
    | none=>exact absurd rfl (findM_none.1 hfd _ hmem)
    | some m2 =>
     have h1:=List.find?_some hfd
     simp only [dt] at h1
     have h2:=List.mem_of_find?_eq_some hfd
     have:m2=⟨m,x.val,x.born⟩:=by
      obtain ⟨i,hi,ei⟩:=List.mem_iff_getElem.1 h2
      obtain ⟨j,hj,ej⟩:=List.mem_iff_getElem.1 hmem
      have hij:i=j:=(List.getElem_inj (xs:=ms.map (·.k)) (h₀:=by simpa using hi) (h₁:=by simpa using hj) hnd).1 (by simp [ei,ej,h1])
      subst hij
      rw [←ei,ej]
     rw [this]
     show some x.val=_
     rw [hvx]
   refine ⟨T,z,b,ms,clock,?_,?_,hnd,key 49 2 _ (by simp [tabT]) (by kernel_rfl),key 50 3 _ (by simp [tabT]) (by kernel_rfl),key 51 4 _ (by simp [tabT]) (by kernel_rfl),key 52 5 _ (by simp [tabT]) (by kernel_rfl)⟩
   · rw [hb0]
     congr 2
     rw [←hcs]
   · rw [hb]
     unfold mapO
     rw [←hes]
set_option maxRecDepth 100000 in
theorem laid_of {W:World} (h:laidMetH Tryz.prog laidL W):Laid (fmOf W):=by
 obtain ⟨T,z,mb,ms,clock,h0,hm,hnd,k2,k3,k4,k5⟩:=table_of h
 have h' : laidMet Tryz.prog [("math/bits.deBruijn32tab", Rows.laid_math_bits_deBruijn32tab), ("math/bits.deBruijn64tab", Rows.laid_math_bits_deBruijn64tab), ("internal/strconv.uint64pow10", Rows.laid_internal_strconv_uint64pow10), ("strconv.ErrRange", Rows.laid_strconv_ErrRange), ("strconv.ErrSyntax", Rows.laid_strconv_ErrSyntax)] W ∧ handlesMet Tryz.prog [("cartage/script.calls", Rows.laid_cartage_script_calls)] W := h
 obtain ⟨ps,⟨g1,t1,cs1,f1,p1,q1,hg1,ht1,hv1,hd1,_,_⟩,_,_⟩:=h'.1.tail.tail.tail.tail
 obtain rfl := Option.some.inj ((show Tryz.prog.globalNamed "strconv.ErrSyntax" = some 1 by kernel_rfl).symm.trans hg1)
 obtain rfl:=Option.some.inj ((show (Tryz.prog.globals[1]?).map (·.type)=some 161 by kernel_rfl).symm.trans ht1)
 obtain ⟨T1,z1,hb1⟩:=var_block hg1 hv1
 obtain ⟨u,v,hcs1⟩:=iface_of_trod (TyIfc.under (P:=Tryz.prog) (t:=161)) hd1
 have hb1':W.heap[1]? = some (.cells [Value.iface u v].toArray T1 z1):=by
  rw [hb1]
  congr 2
  rw [←hcs1]
 exact ⟨⟨T,z,mb,ms,clock,h0,hm,hnd,k2⟩,⟨T,z,mb,ms,clock,h0,hm,hnd,k3⟩,⟨T,z,mb,ms,clock,h0,hm,hnd,k4⟩,⟨T,z,mb,ms,clock,h0,hm,hnd,k5⟩,atoiN_of (F:=fmOf W) hb1'⟩
open ED (Eg egV egC edgeE InE grV)
theorem ownKnob_none:ownKnob Tryz.prog.godebug=none:=by kernel_rfl
theorem laidOut:laidOutB Tryz.prog=true:=by kernel_rfl
theorem rowed:mapsRowed Tryz.prog=true:=by kernel_rfl
theorem slicesFull:((List.range Tryz.prog.types.size).all fun t=>match Tryz.prog.underlying t with | some (.slice e)=>decide (0<Tryz.prog.cellsOf e) | _=>true)=true:=by kernel_rfl
theorem cellsBo:Tryz.prog.cellsOf 4=boolE.k:=by kernel_rfl
theorem cellsIn:Tryz.prog.cellsOf 3=intE.k:=by kernel_rfl
theorem cellsIn1:Tryz.prog.cellsOf 3=1:=by kernel_rfl
theorem cellsU4:Tryz.prog.cellsOf 22=1:=by kernel_rfl
theorem cellsEg:Tryz.prog.cellsOf 79=edgeE.k:=by kernel_rfl
theorem cellsSl:Tryz.prog.cellsOf 25=1:=by kernel_rfl
theorem cellsPr:Tryz.prog.cellsOf 24=2:=by kernel_rfl
theorem cellsGr:Tryz.prog.cellsOf 27=2:=by kernel_rfl
theorem cellsRu:Tryz.prog.cellsOf 29=7:=by kernel_rfl
theorem ctRu:Tryz.prog.cellTypes Tryz.prog.depth 29=some [3,22,3,25,3,3,3]:=by kernel_rfl
theorem num_u32 {a:Int} (h:(Lit.int .u32 a).wf=true):a=((a.toNat:Nat):Int)∧a.toNat<4294967296:=by
 simp [Lit.wf,IntKind.min,IntKind.max,IntKind.signed,IntKind.bits] at h
 omega
section
variable {H : Type} {enc : TypeId × Value → H}
set_option maxRecDepth 100000 in
theorem open_bitsT {W:World} {base:Nat} {v:Value} {d:DataW H} {ps:List MemPlace} (hval:Value.okWide Tryz.prog W .any base 41 v) (h:DataW.Trod enc Tryz.prog W 0 (fun _=>true) true 41 v d ps) :
 ∃xs:List Bool,Arg boolE (fmOf W) v xs:=by
 obtain ⟨xs,h,_⟩:=open_arg (E:=boolE) (fun _=>True) Tryz.underlying41 cellsBo hval h fun n cs y hlen hy=>by
  obtain ⟨b,e,_⟩:=DataW.trod_bool Tryz.underlying4 hy
  exact ⟨b,e,trivial⟩
 exact ⟨xs,h⟩
set_option maxRecDepth 100000 in
theorem open_numsT {W:World} {base:Nat} {v:Value} {d:DataW H} {ps:List MemPlace} (hval:Value.okWide Tryz.prog W .any base 45 v) (h:DataW.Trod enc Tryz.prog W 0 (fun _=>true) true 45 v d ps) :
 ∃xs:List Int,Arg intE (fmOf W) v xs:=by
 obtain ⟨xs,h,_⟩:=open_arg (E:=intE) (fun _=>True) Tryz.underlying45 cellsIn hval h fun n cs y hlen hy=>by
  obtain ⟨a,e,_,wa⟩:=DataW.trod_int Tryz.underlying3 hy
  exact ⟨a,e,trivial⟩
 exact ⟨xs,h⟩
set_option maxRecDepth 100000 in
theorem dec_edgeT {W:World} {n:Nat} {cs:List Value} {y:DataW H×List MemPlace} (hlen:cs.length=edgeE.k) (hy:DataW.trod enc Tryz.prog W 0 (fun _=>true) true n 79 cs=some y):∃x,cs=edgeE.cells x∧InE x:=by
 obtain ⟨y0,y1,y2,m,_,_,h0,h1,h2⟩:=Go.Deep.trod_struct3 Tryz.underlying79 hy
 match cs,hlen with
 | [c0,c1,c2],_ =>
  obtain ⟨a,e0,_,wa⟩:=DataW.trod_int Tryz.underlying22 h0
  obtain ⟨b,e1,_,wb⟩:=DataW.trod_int Tryz.underlying22 h1
  obtain ⟨c,e2,_,wc⟩:=DataW.trod_int Tryz.underlying22 h2
  simp [cellsU4] at e0 e1 e2
  subst e0 e1 e2
  obtain ⟨ea,la⟩:=num_u32 wa
  obtain ⟨eb,lb⟩:=num_u32 wb
  obtain ⟨ec,lc⟩:=num_u32 wc
  refine ⟨⟨a.toNat,b.toNat,c.toNat⟩,?_,la,lb,lc⟩
  show _=[Value.int .u32 ((a.toNat:Nat):Int),Value.int .u32 ((b.toNat:Nat):Int),Value.int .u32 ((c.toNat:Nat):Int)]
  rw [←ea,←eb,←ec]
set_option maxRecDepth 100000 in
theorem open_edgesT {W:World} {base:Nat} {v:Value} {d:DataW H} {ps:List MemPlace} (hval:Value.okWide Tryz.prog W .any base 25 v) (h:DataW.Trod enc Tryz.prog W 0 (fun _=>true) true 25 v d ps) :
 ∃xs:List Eg,Arg edgeE (fmOf W) v xs∧∀x∈xs,InE x :=
 open_arg (E:=edgeE) InE Tryz.underlying25 cellsEg hval h fun n cs y hlen hy=>dec_edgeT hlen hy
set_option maxRecDepth 100000 in
theorem open_runT {W:World} {base:Nat} {v:Value} {d:DataW H} {ps:List MemPlace} (hval:Value.okWide Tryz.prog W .any base 29 v) (h:DataW.Trod enc Tryz.prog W 0 (fun _=>true) true 29 v d ps) :
 ∃(p:Prg) (N S M B:Int) (u:Value) (es:List Eg),v=ruV p N u S M B∧Arg edgeE (fmOf W) u es∧(∀e∈es,InE e)∧p.start<4294967296:=by
 have hval':=hval
 obtain ⟨cs,rfl,hsz⟩:=okWide_struct Tryz.underlying29 hval
 obtain ⟨fuel,h⟩:=h
 obtain ⟨xs,n,_,_,_,hlen,hf⟩:=DataW.trod_struct Tryz.underlying29 h
 rw [cellsRu] at hsz
 obtain ⟨lst⟩:=cs
 match lst,hsz,xs,hlen with
 | [c0,c1,c2,c3,c4,c5,c6],_,[y0,y1,y2,y3,y4],_ =>
  have g0:=hf 0 _ rfl
  have g1:=hf 1 _ rfl
  have g2:=hf 2 _ rfl
  have g3:=hf 3 _ rfl
  have g4:=hf 4 _ rfl
  simp [Value.cells,cellsPr,cellsGr,cellsIn1] at g0 g1 g2 g3 g4
  obtain ⟨a0,a1,m0,_,_,h0,h1⟩:=trod_struct2 Tryz.underlying24 g0
  obtain ⟨b0,b1,m1,_,_,k0,k1⟩:=trod_struct2 Tryz.underlying27 g1
  obtain ⟨K,e0,_,_⟩:=DataW.trod_int Tryz.underlying3 h0
  obtain ⟨st,e1,_,w1⟩:=DataW.trod_int Tryz.underlying22 h1
  obtain ⟨N,e2,_,_⟩:=DataW.trod_int Tryz.underlying3 k0
  obtain ⟨S,e4,_,_⟩:=DataW.trod_int Tryz.underlying3 g2
  obtain ⟨M,e5,_,_⟩:=DataW.trod_int Tryz.underlying3 g3
  obtain ⟨B,e6,_,_⟩:=DataW.trod_int Tryz.underlying3 g4
  simp [cellsIn1,cellsU4] at e0 e1 e2 e4 e5 e6
  subst e0 e1 e2 e4 e5 e6
  have hc3:Value.okWide Tryz.prog W .any base 25 c3:=by
   simp only [Value.okWide,Tryz.underlying29] at hval'
   obtain ⟨cs',e,_,ts,hts,_,hall⟩:=hval'
   cases e
   rw [ctRu] at hts
   cases hts
   obtain ⟨u,hu,hok⟩:=hall 3 c3 rfl
   cases hu
   simp only [Value.okWide,Tryz.underlying25]
   exact hok
  obtain ⟨a,len,cap,rfl⟩:=okWide_slice Tryz.underlying25 hc3
  obtain ⟨es,ha,hE⟩:=open_edgesT (enc:=enc) (d:=b1.1) (ps:=b1.2) hc3 ⟨m1,by simpa [Value.cells,cellsSl] using k1⟩
  obtain ⟨est,lst⟩:=num_u32 w1
  refine ⟨⟨K,st.toNat⟩,N,S,M,B,_,es,?_,ha,hE,lst⟩
  show Value.agg #[.int .i64 K,.int .u32 st,.int .i64 N,_,.int .i64 S,.int .i64 M,.int .i64 B]=Value.agg #[.int .i64 K,.int .u32 ((st.toNat:Nat):Int),.int .i64 N,_,.int .i64 S,.int .i64 M,.int .i64 B]
  rw [←est]
end
theorem door_met (os:Os) (args:Array Value):laidMetH Tryz.prog laidL ((World.doorLaid Tryz.prog 87 os).forCall (fun _ _=>0) ⟨#[],args,[]⟩).memory :=
 laidMetH_of_parts3 (fuel:=8) (laidMet_of_run' 8 (by kernel_rfl) (by kernel_rfl)) (by kernel_rfl) (by kernel_rfl)
end Go.Proofs.YtkpiakgmkpbikaaGreatDoor
