/- Steps of the proof. -/
import Derived.Test.YtkpiakgmkpbikaaGreatDoorTcd
set_option linter.unusedVariables false
namespace Go.Proofs.YtkpiakgmkpbikaaGreatDoor
open ED (Eg egV egC edgeE InE grV)
theorem Rg.callAN {P:Program} {Qf:Exit→Act→World→Prop} {n:Nf} {F:Fm} {ks:List KItem} {ops:List Oper} {clr:List Nat} {hs hl q:Hl} {r:Sd} {l:Env} {i:Nat} {ty:TypeId} {pos:String} {af:Array Edge} {g:Option (Nat×Bool)} {t f:Nat} {o:Op} {args:Array Value} {post:Value→Hl→Prop} (ho:nth ops i=some ⟨some t,o,ty,pos,af,g⟩) (hg:wantB ops l g=some true) (ht:Nat.blt t n.n=true) (hc:Callz P n l ⟨some t,o,ty,pos,af,g⟩ f args)
 (hspec:Spec P f args (frz F hl) [] post) [hq:PullL hl hs q] (h:∀v s,post v s→Rg P Qf n F ks ops clr hs r ((t,v)::l) (s++hl)):Rg P Qf n F ks ops clr hs (.st i .eff r) l hl :=
 Rg.calls [] hl ho hg (fun a w hf _=>hc a w hf) (List.Perm.refl _) hspec fun v hl' hpost=>⟨hs,fun w hw=>⟨hl'++q,hw.perm (by rw [lx];exact (hq.perm.trans List.perm_append_comm).append_left hl')⟩,.same,fun a hf=>⟨_,hf.put ht v,h v hl' hpost⟩⟩
structure HoS where
 j:Nat
 D:Dk
 g:Hl
 x:Value
 y:Value
 sc:Hl
section
variable {F : Fm} {s : Hl} {pb db eb B K : Nat} {p : Prg} {C : Cx} {D : Dk} {m : Ma} {n sh d : Nat} {es : List Eg} {ve : Value}
set_option maxHeartbeats 4000000 in
theorem holds_spec (hL:Laid F) (hp:p.start<4294967296) (hr:rightP p (n:Int)=true) (hn:n≤100) (hin:∀j,InC (conf p n es j) n) (hG:InG n es) (hel:es.length≤1000000) (hd:d≤8) (hC:C.Ok) (ha:Arg edgeE F ve es) {Bi:Int} {dn:Nat} (hdn:(dn:Int)≤m.step) (hdn8:dn≤8)
 (hE:Eng C p n sh es d D m true false) (harm:D.armed=0) (hD:DiskAt db D s) :
 Spec Tryz.prog 12 #[.pointer (some ⟨pb,0,none⟩),prV p,grV (n:Int) ve,.int .i64 (dn:Int)] F ((pb,plO 0 db (.pointer (some ⟨eb,0,none⟩)) Bi)::(eb,enO db Bi m true false)::s) fun v s'=>∃D' g,v=.bool true∧s'=(pb,plO 0 db (.pointer (some ⟨eb,0,none⟩)) Bi)::(eb,enO db Bi m true false)::g∧DiskAt db D' g∧Eng C p n sh es d D' m true false∧D'.armed=0:=by
 obtain ⟨pe,ce,rfl⟩:=ha.shape
 refine Spec.of (n:=59) (vs:=[.pointer (some ⟨pb,0,none⟩),prV p,grV (n:Int) (.slice pe es.length ce),.int .i64 (dn:Int)]) Tryz.func12 rfl Tryz.ntmps12 rfl ?_
 refine sj [.e,.e,.p] Z<|Rg.box Z Z Z Z Z (fun b5=>?_)
 refine Rg.box Z Z Z Z Z (fun b6=>?_)
 refine aj Z<|nl<|sj [.r,.r,.e,.e,.e] Z<|rj Z (Ev.as (prV p) (Ev.ldA Z Z) Z)<|rj Z (Ev.as (grV (n:Int) (.slice pe es.length ce)) (Ev.ldA Z Z) Z)<|Rg.callA Z Z Z (mz Z) (rstart_spec hp n (by omega) hr) ?_
 rintro _ s15 ⟨x0,y0,q1,q2,rfl,o1,o2,hs15⟩
 have hx0:=o1.one
 have hy0:=o2.one
 refine Rg.alloc Z Z Z Z (fun b9=>?_)
 refine Rg.storeA (us:=[x0,y0]) rfl rfl rfl rfl rfl (by simp [hx0,hy0]) rfl rfl<|nl<|wj<|sj [.p] Z<|aj Z<|nl<|bj ?_
 refine Vc.loop1 (fun (S:HoS)=>S.j≤dn+1∧S.x.oneCell'=true∧S.y.oneCell'=true∧CfO (cfV S.x S.y) (conf p n es S.j) S.sc∧DiskAt db S.D S.g∧Eng C p n sh es d S.D m true false∧S.D.armed=0) (fun S=>[(10,.int .i64 (S.j:Int)),(0,.pointer (some ⟨pb,0,none⟩)),(3,.int .i64 (dn:Int)),(5,.pointer (some ⟨b5,0,none⟩)),(6,.pointer (some ⟨b6,0,none⟩)),(9,.pointer (some ⟨b9,0,none⟩))]) (fun S=>(b5,cellsO (prC p) 24)::(b6,cellsO [.int .i64 (n:Int),.slice pe es.length ce] 27)::(b9,cellsO [S.x,S.y] 84)::(pb,plO 0 db (.pointer (some ⟨eb,0,none⟩)) Bi)::(eb,enO db Bi m true false)::(S.sc++S.g)) (fun S=>dn+1-S.j) (⟨0,D,s,x0,y0,s15⟩:HoS) ⟨Nat.zero_le _,hx0,hy0,⟨x0,y0,q1,q2,Z,o1,o2,hs15⟩,hD,hE,harm⟩ (.cons Z (.cons Z (.cons Z (.cons Z (.cons Z (.cons Z .nil)))))) pulled ?_
 rintro ⟨j,D1,g1,x,y,sc⟩ ⟨hj,hx,hy,hcf,hD1,hE1,ha1⟩
 simp only at hj hx hy hcf hD1 hE1 ha1 ⊢
 have hA0:CfA (frz F sc) x y (conf p n es j):=hcf.arg2 (hin j) fun b o h=>Or.inl h
 obtain ⟨pv,cv,e1⟩:=hA0.va.shape
 obtain ⟨pl,cl,e2⟩:=hA0.la.shape
 rw [(hin j).vl] at e1
 rw [(hin j).ll] at e2
 subst e1;subst e2
 have hva:=hA0.va
 have hla:=hA0.la
 refine wj<|sj [.p,.p,.p] Z<|mj Z<|mj Z<|uj Z (Pv.leq Z Z)<|nl<|cj Z (fun h18=>?_) (fun h18=>?_)
 · have hjd:j≤dn:=by simp only [dt] at h18;omega
   refine kj<|wj<|bj<|wj<|sj [.p] Z<|aj Z<|nl<|bj ?_
   refine Vc.loop3 (fun (v:Nat) (D2:Dk) (g2:Hl)=>v≤n∧DiskAt db D2 g2∧Eng C p n sh es d D2 m true false∧D2.armed=0) (fun v D2 g2=>[(11,.int .i64 (v:Int)),(10,.int .i64 (j:Int)),(0,.pointer (some ⟨pb,0,none⟩)),(3,.int .i64 (dn:Int)),(5,.pointer (some ⟨b5,0,none⟩)),(6,.pointer (some ⟨b6,0,none⟩)),(9,.pointer (some ⟨b9,0,none⟩))]) (fun v D2 g2=>(b5,cellsO (prC p) 24)::(b6,cellsO [.int .i64 (n:Int),.slice pe es.length ce] 27)::(b9,cellsO [.slice pv n cv,.slice pl n cl] 84)::(pb,plO 0 db (.pointer (some ⟨eb,0,none⟩)) Bi)::(eb,enO db Bi m true false)::(sc++g2)) (fun v D2 g2=>n-v) 0 D1 g1 ⟨Nat.zero_le _,hD1,hE1,ha1⟩ (.cons Z (.cons Z (.cons Z (.cons Z (.cons Z (.cons Z (.cons Z .nil))))))) pulled ?_
   rintro v D2 g2 ⟨hv,hD2,hE2,ha2⟩
   refine wj<|sj [.p,.p,.r,.p] Z<|mj Z<|fj Z<|lj Z Z<|uj Z (Pv.lss Z Z)<|nl<|cj Z (fun h24=>?_) (fun h24=>?_)
   · have hvn:v<n:=by simp only [dt] at h24;omega
     obtain ⟨bv,ov,cv',e3,_⟩:=hva.block (by rw [(hin j).vl];omega)
     simp only [Value.slice.injEq] at e3
     obtain ⟨rfl,_,rfl⟩:=e3
     obtain ⟨bl,ol,cl',e4,_⟩:=hla.block (by rw [(hin j).ll];omega)
     simp only [Value.slice.injEq] at e4
     obtain ⟨rfl,_,rfl⟩:=e4
     refine kj<|wj<|bj<|sj [.p,.p,.p,.p,.e,.e,.e] Z<|mj Z<|mj Z<|mj Z<|uj Z (Pv.build (c:=#[.int .i64 4,.int .i64 (j:Int),.int .i64 (v:Int),.int .i64 0,.int .u32 ((0:Nat):Int),.slice none 0 0,.slice none 0 0]) rfl (by kernel_rfl))<|Rg.callH Z Z Z (mz Z) (fun F' hF'=>query_any (F:=F') (q:=⟨0,0⟩) (j:=j) (v:=v) (Bi:=Bi) (eb:=eb) (pb:=pb) (pd:=none) (nd:=0) (cd:=0) (pk:=none) (nk:=0) (ck:=0) (hL.mono fun b o h=>hF' b o (Or.inr h)) hn hin hd hC hE2 ha2 (by omega) hvn hD2) rfl ?_
     rintro _ _ ⟨D3,g3,rfl,rfl,hD3,hE3,ha3⟩
     refine Rg.alloc Z Z Z Z (fun b12=>?_)
     refine Rg.storeA (us:=anC 0 0 (conf p n es j).vals[v]! (conf p n es j).live[v]! ⟨0,0⟩) Z Z Z Z Z Z Z Z<|nl<|wj ?_
     refine Vc.draw [] (sd [(0,.pure),(1,.read),(2,.pure),(3,.pure),(4,.pure),(5,.read),(6,.pure),(7,.read),(8,.pure),(9,.pure),(10,.read),(11,.pure),(12,.pure),(13,.pure),(14,.pure),(15,.read),(16,.pure),(17,.read),(18,.pure),(19,.pure),(20,.read),(21,.pure),(22,.pure)]) mixed (by kernel_rfl)<|fj Z<|lj Z Z<|uj Z (Pv.neq Z Z)<|mj Z ?_
     refine Rg.split (t:=35) rfl (fun h35=>absurd h35 (by decide)) (fun h35=>?_)
     refine fj Z<|lj Z Z<|fj Z<|lj Z Z<|mj Z<|uj Z (Pv.ixA (v) rfl rfl (by omega) (by omega))<|rj Z (Ev.as (.int .u64 (conf p n es j).vals[v]!) (Ev.ldS (E:=u64E) v (Arg.srcF (s:=sc) hva) rfl rfl rfl (by rw [(hin j).vl];exact hvn)) rfl)<|uj Z (Pv.neq Z Z)<|pj Z Z<|mj Z ?_
     refine Rg.split (t:=45) rfl (fun h45=>absurd h45 (by simp)) (fun h45=>?_)
     refine fj Z<|lj Z Z<|fj Z<|lj Z Z<|mj Z<|uj Z (Pv.ixA (v) rfl rfl (by omega) (by omega))<|rj Z (Ev.as (.bool (conf p n es j).live[v]!) (Ev.ldS (E:=boolE) v (Arg.srcF (s:=sc) hla) rfl rfl rfl (by rw [(hin j).ll];exact hvn)) rfl)<|uj Z (Pv.neqB Z Z)<|pj Z Z<|nl<|cj Z (fun h54=>absurd h54 (by simp)) (fun h54=>?_)
     refine kj<|dj<|tj [.p,.p,.p] Z<|mj Z<|uj Z (Pv.asI (v+1) (Pv.add rfl rfl (by omega)) (by omega))<|aj Z<|nl ?_
     exact Vc.inv3 (v+1) D3 g3 ⟨⟨by omega,hD3,hE3,ha3⟩,by omega⟩ (.cons rfl (.cons rfl (.cons rfl (.cons rfl (.cons rfl (.cons rfl (.cons rfl .nil))))))) pulled
   · refine Vc.exit Z<|tj [.r,.r,.r,.e,.e] Z<|rj Z (Ev.as (prV p) (Ev.ldA Z Z) Z)<|rj Z (Ev.as (grV (n:Int) (.slice pe es.length ce)) (Ev.ldA Z Z) Z)<|rj Z (Ev.as (cfV (.slice pv n cv) (.slice pl n cl)) (Ev.ldA Z Z) Z)<|Rg.callA Z Z Z (mz Z) (rstep_spec hp (hin j) hG hel (ha.mono fun b o h=>Or.inr h) (hcf.arg2 (hin j) fun b o h=>Or.inl (by simp [h]))) ?_
     rintro _ s58 ⟨x2,y2,r1,r2,rfl,o3,o4,hs58⟩
     have hx2:=o3.one
     have hy2:=o4.one
     refine Rg.storeA (us:=[x2,y2]) rfl rfl rfl rfl rfl (by simp [hx2,hy2]) rfl rfl<|nl<|dj<|tj [.p,.p,.p] Z<|mj Z<|uj Z (Pv.asI (j+1) (Pv.add rfl rfl (by omega)) (by omega))<|aj Z<|nl ?_
     exact Vc.inv1 (⟨j+1,D2,g2,x2,y2,s58⟩:HoS) ⟨⟨by show j+1≤dn+1;omega,hx2,hy2,⟨x2,y2,r1,r2,rfl,o3,o4,hs58⟩,hD2,hE2,ha2⟩,by show dn+1-(j+1)<dn+1-j;omega⟩ (.cons rfl (.cons rfl (.cons rfl (.cons rfl (.cons rfl (.cons rfl .nil)))))) pulled
 · refine Vc.exit Z<|sj [.p] Z<|aj Z<|nl ?_
   exact vr rfl (tz Z) (⟨D1,g1,rfl,rfl,hD1,hE1,ha1⟩) pulled
theorem open_none (hL:Laid F) (hN:NmsOk C) (hd:d≤8) (hsh:sh<100) (hB:1≤B) (hC:C.Ok) (hR:SlotsN D) (hD:DiskAt db D s) (hw:Wz C D) (ha:D.armed=0) {N M:Int} {q:Prg} {pd pk:Option Addr} {nd cd nk ck:Nat} {ep:Value} :
 Spec Tryz.prog 9 #[.pointer (some ⟨pb,0,none⟩),spV 1 N M q (.slice pd nd cd) (.slice pk nk ck)] F ((pb,plO 0 db ep (B:Int))::s) fun v s'=>∃eb g D',v=anV 0 0 0 false ⟨0,0⟩∧s'=(pb,plO 0 db (.pointer (some ⟨eb,0,none⟩)) (B:Int))::(eb,enO db (B:Int) ma0 false false)::g∧DiskAt db D' g∧Eng C p n sh es d D' ma0 false false∧D'.armed=0:=by
 refine (open_any (p:=p) (n:=n) (sh:=sh) (es:=es) (d:=d) (mo:=none) hL hN hd hsh hB hC hR hD hw).mono ?_
 rintro v s' ⟨e,ep',s1,g,D',rfl,rfl,hD',hO⟩
 obtain ⟨rfl,⟨eb,rfl,rfl⟩,hE,harm⟩:=hO.resolve_right (fun h=>h.2.2.1 ha)
 exact ⟨eb,g,D',rfl,rfl,hD',hE,harm ha⟩
set_option maxHeartbeats 4000000 in
theorem loads_spec (hL:Laid F) (hN:NmsOk C) (hC:C.Ok) (hd:d≤8) (hP:IngP C n sh B K es) (ha:Arg edgeE F ve es) (hE:∀e∈es,InE e) {room:Int} (hroom:C.room=max room 0) {M:Int} :
 Spec Tryz.prog 8 #[ruV p (n:Int) ve (sh:Int) M (B:Int),.int .i64 room] F [] fun v s'=>∃pb db eb D g,v=.pointer (some ⟨pb,0,none⟩)∧s'=(pb,plO 0 db (.pointer (some ⟨eb,0,none⟩)) (B:Int))::(eb,enO db (B:Int) (ma1 n sh) true false)::g∧DiskAt db D g∧Eng C p n sh es d D (ma1 n sh) true false∧D.armed=0:=by
 obtain ⟨pe,ce,rfl⟩:=ha.shape
 have hdec:=ED.dec_enc hE hP.hrg
 have hlen:=ED.encG_length n es
 have hl:=hP.hl
 have hw0:=Wz.new C
 rw [hroom] at hw0
 refine Spec.of (n:=34) (vs:=[ruV p (n:Int) (.slice pe es.length ce) (sh:Int) M (B:Int),.int .i64 room]) Tryz.func8 rfl Tryz.ntmps8 rfl ?_
 refine sj [.e,.p] Z<|Rg.box Z Z Z Z Z (fun b2=>?_)
 refine aj Z<|nl<|sj [.p,.p,.r,.e,.p] Z<|mj Z<|fj Z<|lj Z Z ?_
 refine Rg.callA Z Z Z (mz Z) (new_player room (B:Int)) ?_
 rintro _ _ ⟨pb,db,s2,rfl,rfl,hD0⟩
 refine aj Z<|nl<|wj<|sj [.p,.p] Z<|mj Z<|uj Z (Pv.eqlNil Z Z)<|nl<|cj Z (fun h13=>absurd h13 (by simp)) (fun h13=>?_)
 refine kj<|sj [.p,.p,.e,.e,.e] Z<|mj Z<|uj Z (Pv.build (c:=#[.int .i64 1,.int .i64 0,.int .i64 0,.int .i64 0,.int .u32 ((0:Nat):Int),.slice none 0 0,.slice none 0 0]) rfl (by kernel_rfl))<|Rg.callH Z Z Z (mz Z) (fun F' hF'=>open_none (F:=F') (p:=p) (n:=n) (sh:=sh) (es:=es) (d:=d) (B:=B) (C:=C) (q:=⟨0,0⟩) (N:=0) (M:=0) (pd:=none) (nd:=0) (cd:=0) (pk:=none) (nk:=0) (ck:=0) (ep:=.pointer none) (pb:=pb) (hL.mono fun b o h=>hF' b o (Or.inr h)) hN hd hP.h2 hP.hB hC ⟨Z,Z⟩ hD0 hw0 Z) Z ?_
 rintro _ _ ⟨eb,g,D1,rfl,rfl,hD1,hE1,ha1⟩
 refine Rg.alloc Z Z Z Z (fun b6=>?_)
 refine Rg.storeA (us:=anC 0 0 0 false ⟨0,0⟩) Z Z Z Z Z Z Z Z<|nl<|wj ?_
 refine Vc.drawS [9] (.st 0 .pure (.st 1 .pure (.st 2 .read (.st 3 .pure (.st 4 .read (.two 5 (.st 6 .pure (.two 7 (sd [(8,.eff),(9,.eff)]) 8 (sd [(7,.eff),(9,.eff)]))) 8 (sd [(5,.eff),(6,.pure),(7,.eff),(9,.eff)]))))))) [(b2,cellsO (ruC p (n:Int) (.slice pe es.length ce) (sh:Int) M (B:Int)) 29)] pulled mixed (by kernel_rfl)<|mj Z<|fj Z<|lj Z Z<|fj Z<|rj Z (Ev.as (grV (n:Int) (.slice pe es.length ce)) (Ev.ldA Z Z) Z) ?_
 refine Rg.two ?_ ?_
 · refine Rg.callAN Z Z Z (mz Z) (ED.rencode_spec (ha.mono fun b o h=>Or.inr h) (by omega) hE n hP.hn) ?_
   rintro v22 s22 own22
   obtain ⟨p22,c22,rfl⟩:=own22.shape
   refine uj Z (Pv.build (c:=#[.int .i64 2,.int .i64 (sh:Int),.int .i64 0,.int .i64 0,.int .u32 ((0:Nat):Int),.slice p22 (ED.encG n es).length c22,.slice none 0 0]) rfl (by kernel_rfl))<|Rg.two ?_ ?_
   · refine Rg.callHN Z Z Z (mz Z) (fun F' hF'=>ingest_any (F:=F') (p:=p) (d:=d) (is:=false) (dd:=false) (m:=ma0) (q:=⟨0,0⟩) (M:=0) (pk:=none) (nk:=0) (ck:=0) (eb:=eb) (pb:=pb) (hL.mono fun b o h=>hF' b o (Or.inr h)) hP (Arg.own own22 fun b o h=>hF' b o (Or.inl (by simp [h]))) (by rw [hlen];omega) hdec hC hE1 hD1) ?_
     rintro _ _ ⟨e,D2,m2,is2,dd2,g2,rfl,rfl,hD2,hE2,_,hq2,hq3⟩
     obtain ⟨ha2,rfl,rfl,he0⟩:=hq3 ha1 rfl
     obtain ⟨rfl,_,rfl⟩:=(hq2 rfl rfl).resolve_right (fun h=>by cases h.2)
     refine Rg.allocN Z Z Z Z (fun b7=>?_)
     refine Rg.storeA (us:=anC 0 0 0 false ⟨0,0⟩) Z Z Z Z Z Z Z Z<|nl<|wj<|sj [.p,.r,.p,.p,.p,.r,.p,.p] Z<|fj Z<|lj Z Z<|uj Z (Pv.neq Z Z)<|mj Z ?_
     refine Rg.split (t:=28) rfl (fun h28=>absurd h28 (by decide)) (fun h28=>?_)
     refine fj Z<|lj Z Z<|uj Z (Pv.neq Z Z)<|pj Z Z<|nl<|cj Z (fun h32=>absurd h32 (by decide)) (fun h32=>?_)
     refine kj<|sj [.p,.p] Z<|mj Z<|aj Z<|nl ?_
     exact vr rfl (tz Z) (⟨pb,db,eb,D2,g2,rfl,rfl,hD2,hE2,ha2⟩) pulled
   · refine Rg.allocN Z Z Z Z (fun b7=>?_)
     refine Rg.callHN Z Z Z (mz Z) (fun F' hF'=>ingest_any (F:=F') (p:=p) (d:=d) (is:=false) (dd:=false) (m:=ma0) (q:=⟨0,0⟩) (M:=0) (pk:=none) (nk:=0) (ck:=0) (eb:=eb) (pb:=pb) (hL.mono fun b o h=>hF' b o (Or.inr h)) hP (Arg.own own22 fun b o h=>hF' b o (Or.inl (by simp [h]))) (by rw [hlen];omega) hdec hC hE1 hD1) ?_
     rintro _ _ ⟨e,D2,m2,is2,dd2,g2,rfl,rfl,hD2,hE2,_,hq2,hq3⟩
     obtain ⟨ha2,rfl,rfl,he0⟩:=hq3 ha1 rfl
     obtain ⟨rfl,_,rfl⟩:=(hq2 rfl rfl).resolve_right (fun h=>by cases h.2)
     refine Rg.storeA (us:=anC 0 0 0 false ⟨0,0⟩) Z Z Z Z Z Z Z Z<|nl<|wj<|sj [.p,.r,.p,.p,.p,.r,.p,.p] Z<|fj Z<|lj Z Z<|uj Z (Pv.neq Z Z)<|mj Z ?_
     refine Rg.split (t:=28) rfl (fun h28=>absurd h28 (by decide)) (fun h28=>?_)
     refine fj Z<|lj Z Z<|uj Z (Pv.neq Z Z)<|pj Z Z<|nl<|cj Z (fun h32=>absurd h32 (by decide)) (fun h32=>?_)
     refine kj<|sj [.p,.p] Z<|mj Z<|aj Z<|nl ?_
     exact vr rfl (tz Z) (⟨pb,db,eb,D2,g2,rfl,rfl,hD2,hE2,ha2⟩) pulled
 · refine Rg.allocN Z Z Z Z (fun b7=>?_)
   refine Rg.callAN Z Z Z (mz Z) (ED.rencode_spec (ha.mono fun b o h=>Or.inr h) (by omega) hE n hP.hn) ?_
   rintro v22 s22 own22
   obtain ⟨p22,c22,rfl⟩:=own22.shape
   refine uj Z (Pv.build (c:=#[.int .i64 2,.int .i64 (sh:Int),.int .i64 0,.int .i64 0,.int .u32 ((0:Nat):Int),.slice p22 (ED.encG n es).length c22,.slice none 0 0]) rfl (by kernel_rfl))<|Rg.callHN Z Z Z (mz Z) (fun F' hF'=>ingest_any (F:=F') (p:=p) (d:=d) (is:=false) (dd:=false) (m:=ma0) (q:=⟨0,0⟩) (M:=0) (pk:=none) (nk:=0) (ck:=0) (eb:=eb) (pb:=pb) (hL.mono fun b o h=>hF' b o (Or.inr h)) hP (Arg.own own22 fun b o h=>hF' b o (Or.inl (by simp [h]))) (by rw [hlen];omega) hdec hC hE1 hD1) ?_
   rintro _ _ ⟨e,D2,m2,is2,dd2,g2,rfl,rfl,hD2,hE2,_,hq2,hq3⟩
   obtain ⟨ha2,rfl,rfl,he0⟩:=hq3 ha1 rfl
   obtain ⟨rfl,_,rfl⟩:=(hq2 rfl rfl).resolve_right (fun h=>by cases h.2)
   refine Rg.storeA (us:=anC 0 0 0 false ⟨0,0⟩) Z Z Z Z Z Z Z Z<|nl<|wj<|sj [.p,.r,.p,.p,.p,.r,.p,.p] Z<|fj Z<|lj Z Z<|uj Z (Pv.neq Z Z)<|mj Z ?_
   refine Rg.split (t:=28) rfl (fun h28=>absurd h28 (by decide)) (fun h28=>?_)
   refine fj Z<|lj Z Z<|uj Z (Pv.neq Z Z)<|pj Z Z<|nl<|cj Z (fun h32=>absurd h32 (by decide)) (fun h32=>?_)
   refine kj<|sj [.p,.p] Z<|mj Z<|aj Z<|nl ?_
   exact vr rfl (tz Z) (⟨pb,db,eb,D2,g2,rfl,rfl,hD2,hE2,ha2⟩) pulled
end
theorem nc_mono {B a b:Nat} (h:a≤b):nc B a≤nc B b:=by unfold nc;exact Nat.div_le_div_right (by omega)
theorem ingP_ctx {st bx shc K:Nat} {room:Int} {n sh B:Nat} {es:List Eg} (h1:1≤sh) (h2:sh<100) (hsc:sh≤shc) (hrg:ED.rightG (n:Int) es=true) (hE:∀e∈es,InE e) (hl:es.length<49) (hB:1≤B) (hB2:B<1000) (hK:3*nc B es.length≤K+2) (hK2:K<100):IngP (ctxC st bx shc K room) n sh B K es :=
 ⟨h1,h2,(ED.rightG_all hrg).1,(ok_of hrg hE).1,hrg,hl,hB,hB2,(show 1000≤1000 by omega),fun i hi=>⟨in_ptN (by omega),in_shN (by omega)⟩,fun i hi=>by
  have:=nc_mono (B:=B) (inSL_len n sh i es)
  omega,hK2,fun k h1 h2=>in_runN h1 h2,in_slT,in_slN (by omega)⟩
theorem goP_ctx {st bx shc K:Nat} {room:Int} {n sh most d:Nat} {p:Prg} {es:List Eg} (hEn:Ends p n es most d) (hd:d≤8) (hds:d<st) (hp:p.start<4294967296) (hr:rightP p (n:Int)=true) (hn:n≤100) (hrg:ED.rightG (n:Int) es=true) (hE:∀e∈es,InE e) (hl:es.length<49) (hbx:es.length≤bx) (h1:1≤sh) (h2:sh<100):GoP (ctxC st bx shc K room) p n sh es most d :=
 ⟨hEn,hd,hp,hr,hn,conf_in (by omega) (ok_of hrg hE).2,⟨in_slT,fun i hi=>in_slN hi,in_stT,fun j hj=>in_stN (by omega),(show 1000≤1000 by omega)⟩,fun k h1 h2=>in_boxN h1 (by omega),h1,h2,(ok_of hrg hE).1,(ok_of hrg hE).2,hl⟩
abbrev bsW:List UInt8:=[2,0,0,0,0,0,0,0,1,0,0,0,7,0,0,0]
abbrev esW:List Eg:=[⟨0,1,7⟩]
abbrev pW:Prg:=⟨1,0⟩
abbrev CW:Cx:=ctxC 6 1 1 1 1000
theorem decW:ED.decG bsW=(2,esW,0,0):=by decide
theorem inW:∀e∈esW,InE e:=by intro e he;rw [List.mem_singleton] at he;subst he;exact ⟨by decide,by decide,by decide⟩
theorem rgW:ED.rightG ((2:Nat):Int) esW=true:=by decide
theorem endsW:Ends pW 2 esW 5 2:=⟨by decide,by decide,fun _=>by decide⟩
theorem ingW:IngP CW 2 1 4 1 esW:=ingP_ctx (by decide) (by decide) (by decide) rgW inW (by decide) (by decide) (by decide) (by decide) (by decide)
theorem goW:GoP CW pW 2 1 esW 5 2:=goP_ctx endsW (by decide) (by decide) (by decide) (by decide) (by decide) rgW inW (by decide) (by decide) (by decide) (by decide)
theorem valW:(conf pW 2 esW 2).vals[1]! = 1:=by decide
set_option maxHeartbeats 4000000 in
theorem works_spec {F:Fm} (hL:Laid F):Spec Tryz.prog 6 #[] F [] fun v _=>v=.bool true:=by
 have hC:CW.Ok:=ctxC_ok (by decide) (by decide)
 have hN:NmsOk CW:=ctxC_nms (by decide)
 have hw0:Wz CW ⟨[],max 1000 0,0,0,0,[],false⟩:=Wz.new CW
 have hin:=conf_in (p:=pW) (show 2≤1048576 by decide) (ok_of rgW inW).2
 refine Spec.of (n:=51) (vs:=[]) Tryz.func6 rfl Tryz.ntmps6 rfl ?_
 refine sj [.p] Z<|aj Z<|nl<|sj [.e,.p] Z<|Rg.callA Z Z Z (mz Z) (new_player 1000 ((4:Nat):Int)) ?_
 rintro _ _ ⟨pb,db,s2,rfl,rfl,hD0⟩
 refine aj Z<|nl<|wj<|sj [.p,.p] Z<|mj Z<|uj Z (Pv.eqlNil Z Z)<|nl<|cj Z (fun h8=>absurd h8 (by simp)) (fun h8=>?_)
 refine kj<|sj [.p,.p,.e,.e,.e] Z<|mj Z<|uj Z (Pv.build (c:=#[.int .i64 1,.int .i64 0,.int .i64 0,.int .i64 0,.int .u32 ((0:Nat):Int),.slice none 0 0,.slice none 0 0]) rfl (by kernel_rfl))<|Rg.callH Z Z Z (mz Z) (fun F' hF'=>open_none (F:=F') (p:=pW) (n:=2) (sh:=1) (es:=esW) (d:=2) (B:=4) (C:=CW) (q:=⟨0,0⟩) (N:=0) (M:=0) (pd:=none) (nd:=0) (cd:=0) (pk:=none) (nk:=0) (ck:=0) (ep:=.pointer none) (pb:=pb) (hL.mono fun b o h=>hF' b o (Or.inr h)) hN (by decide) (by decide) (by decide) hC ⟨rfl,rfl⟩ hD0 hw0 rfl) rfl ?_
 rintro _ _ ⟨eb,g,D1,rfl,rfl,hD1,hE1,ha1⟩
 refine Rg.alloc Z Z Z Z (fun b2=>?_)
 refine Rg.storeA (us:=anC 0 0 0 false ⟨0,0⟩) Z Z Z Z Z Z Z Z<|nl<|sj [.p,.e,.p,.e,.e,.e] Z<|mj Z<|Rg.bsliceN Z Z Z Z Z Z Z (fun b13=>?_)
 refine uj Z (Pv.build (c:=#[.int .i64 2,.int .i64 ((1:Nat):Int),.int .i64 0,.int .i64 0,.int .u32 ((0:Nat):Int),.slice (some ⟨b13,0,none⟩) 16 16,.slice none 0 0]) rfl (by kernel_rfl))<|Rg.callH Z Z Z (mz Z) (fun F' hF'=>ingest_any (F:=F') (p:=pW) (n:=2) (sh:=1) (es:=esW) (d:=2) (B:=4) (K:=1) (C:=CW) (bs:=bsW) (pd:=some ⟨b13,0,none⟩) (cd:=16) (is:=false) (dd:=false) (m:=ma0) (q:=⟨0,0⟩) (M:=0) (pk:=none) (nk:=0) (ck:=0) (eb:=eb) (pb:=pb) (hL.mono fun b o h=>hF' b o (Or.inr h)) ingW (Arg.own (Own.blk' (E:=byteE) b13 16 16 bsW [] rfl rfl (by decide)) fun b o h=>hF' b o (Or.inl (by rw [List.mem_singleton] at h;rw [h];exact List.mem_cons_self))) (by decide) decW hC hE1 hD1) rfl ?_
 rintro _ _ ⟨e,D2,m2,is2,dd2,g2,rfl,rfl,hD2,hE2,_,hq2,hq3⟩
 obtain ⟨ha2,rfl,rfl,he0⟩:=hq3 ha1 rfl
 obtain ⟨rfl,_,rfl⟩:=(hq2 rfl rfl).resolve_right (fun h=>by cases h.2)
 refine Rg.alloc Z Z Z Z (fun b3=>?_)
 refine Rg.storeA (us:=anC 0 0 0 false ⟨0,0⟩) Z Z Z Z Z Z Z Z<|nl<|sj [.p,.p,.p,.e,.e,.e] Z<|mj Z<|uj Z (Pv.build (c:=#[.int .i64 1,.int .u32 ((0:Nat):Int)]) Z Z)<|uj Z (Pv.build (c:=#[.int .i64 3,.int .i64 ((5:Nat):Int),.int .i64 0,.int .i64 1,.int .u32 ((0:Nat):Int),.slice none 0 0,.slice none 0 0]) rfl (by kernel_rfl))<|Rg.callH Z Z Z (mz Z) (fun F' hF'=>run_any (F:=F') (p:=pW) (n:=2) (sh:=1) (es:=esW) (d:=2) (most:=5) (B:=4) (C:=CW) (is:=true) (dd:=false) (m:=ma1 2 1) (M:=0) (pd:=none) (nd:=0) (cd:=0) (pk:=none) (nk:=0) (ck:=0) (eb:=eb) (pb:=pb) (hL.mono fun b o h=>hF' b o (Or.inr h)) goW (by decide) hC hE2 hD2) rfl ?_
 rintro _ _ ⟨e,z,D3,m3,dd3,g3,rfl,rfl,hD3,hE3,hq⟩
 obtain ⟨ha3,rfl,rfl,rfl,hst3,hmp3⟩:=hq ha2 rfl rfl
 refine Rg.alloc Z Z Z Z (fun b4=>?_)
 refine Rg.storeA (us:=anC 0 ((2:Nat):Int) 0 false ⟨0,0⟩) Z Z Z Z Z Z Z Z<|nl<|sj [.p,.p,.e,.e,.e] Z<|mj Z<|uj Z (Pv.build (c:=#[.int .i64 4,.int .i64 ((2:Nat):Int),.int .i64 ((1:Nat):Int),.int .i64 0,.int .u32 ((0:Nat):Int),.slice none 0 0,.slice none 0 0]) rfl (by kernel_rfl))<|Rg.callH Z Z Z (mz Z) (fun F' hF'=>query_any (F:=F') (p:=pW) (n:=2) (sh:=1) (es:=esW) (d:=2) (C:=CW) (q:=⟨0,0⟩) (j:=2) (v:=1) (Bi:=((4:Nat):Int)) (m:=m3) (eb:=eb) (pb:=pb) (pd:=none) (nd:=0) (cd:=0) (pk:=none) (nk:=0) (ck:=0) (hL.mono fun b o h=>hF' b o (Or.inr h)) (by decide) hin (by decide) hC hE3 ha3 (by omega) (by decide) hD3) rfl ?_
 rintro _ _ ⟨D4,g4,rfl,rfl,hD4,hE4,ha4⟩
 rw [valW]
 refine Rg.alloc Z Z Z Z (fun b5=>?_)
 refine Rg.storeA (us:=anC 0 0 1 (conf pW 2 esW 2).live[1]! ⟨0,0⟩) Z Z Z Z Z Z Z Z<|nl<|sj [.p,.r,.p,.p,.p,.r,.p,.p,.p,.p,.r,.p,.p,.p,.p,.r,.p,.p,.p,.p,.r,.p,.p,.p,.p,.r,.p,.p,.p] Z<|fj Z<|lj Z Z<|uj Z (Pv.eql Z Z)<|mj Z ?_
 refine Rg.split (t:=26) rfl (fun h26=>?_) (fun h26=>absurd h26 (by decide))
 refine fj Z<|lj Z Z<|uj Z (Pv.eql Z Z)<|qj Z Z<|mj Z ?_
 refine Rg.split (t:=31) rfl (fun h31=>?_) (fun h31=>absurd h31 (by decide))
 refine fj Z<|lj Z Z<|uj Z (Pv.eql Z Z)<|qj Z Z<|mj Z ?_
 refine Rg.split (t:=36) rfl (fun h36=>?_) (fun h36=>absurd h36 (by decide))
 refine fj Z<|lj Z Z<|uj Z (Pv.eql Z Z)<|qj Z Z<|mj Z ?_
 refine Rg.split (t:=41) rfl (fun h41=>?_) (fun h41=>absurd h41 (by decide))
 refine fj Z<|lj Z Z<|uj Z (Pv.eql Z Z)<|qj Z Z<|mj Z ?_
 refine Rg.split (t:=46) rfl (fun h46=>?_) (fun h46=>absurd h46 (by decide))
 refine fj Z<|lj Z Z<|uj Z (Pv.eql Z Z)<|qj Z Z<|aj Z<|nl<|vz Z (tz Z) ?_
 rfl
abbrev CT:Cx:=ctxC 10 15 20 43 10000
theorem CT_ok:CT.Ok:=ctxC_ok (by decide) (by decide)
theorem CT_nms:NmsOk CT:=ctxC_nms (by decide)
section
variable {F : Fm} {s : Hl} {pb db eb : Nat} {D : Dk} {bs : List UInt8} {pd pk : Option Addr} {cd nk ck : Nat} {M : Int} {q : Prg}
end
section
variable {F : Fm}
end
end Go.Proofs.YtkpiakgmkpbikaaGreatDoor
namespace Go.Proofs.YtkpiakgmkpbikaaGreatDoor
theorem eq_an (e a val:Int) (is:Bool) (q:Prg) (w:World):(Op.equal 38 (anV e a val is q) (anV e a val is q)).run Tryz.prog w=.ok true w:=by
 have h1:∀d a b w,(Op.equalIn (d+1) 3 (.int .i64 a) (.int .i64 b)).run Tryz.prog w=.ok (a==b) w:=fun d a b w=>by simp [Op.equalIn]
 have h2:∀d a b w,(Op.equalIn (d+1) 22 (.int .u32 a) (.int .u32 b)).run Tryz.prog w=.ok (a==b) w:=fun d a b w=>by simp [Op.equalIn]
 have h3:∀d a b w,(Op.equalIn (d+1) 35 (.int .i64 a) (.int .i64 b)).run Tryz.prog w=.ok (a==b) w:=fun d a b w=>by simp [Op.equalIn]
 have h4:∀d a b w,(Op.equalIn (d+1) 36 (.int .u64 a) (.int .u64 b)).run Tryz.prog w=.ok (a==b) w:=fun d a b w=>by simp [Op.equalIn]
 have h5:∀d a b w,(Op.equalIn (d+1) 4 (.bool a) (.bool b)).run Tryz.prog w=.ok (a==b) w:=fun d a b w=>by simp [Op.equalIn]
 have h6:∀d w,(Op.equalIn (d+2) 24 (.agg #[.int .i64 q.kind,.int .u32 (q.start:Int)]) (.agg #[.int .i64 q.kind,.int .u32 (q.start:Int)])).run Tryz.prog w=.ok true w:=fun d w=>by
  rw [run_equalIn_struct w (d+1) 24 _ _ (by kernel_rfl) Tryz.stoodInHeld24]
  have hf : (Tryz.prog.fieldsOf 24).toList = [⟨ "Kind", 3, 0, false, "", "", 0⟩, ⟨ "Start", 22, 1, false, "", "", 8⟩] := by kernel_rfl
  rw [hf]
  simp [Op.eqFields,part,h1,h2]
 have key:∀d,(Op.equalIn (d+3) 38 (anV e a val is q) (anV e a val is q)).run Tryz.prog w=.ok true w:=fun d=>by
  rw [run_equalIn_struct w (d+2) 38 _ _ (by kernel_rfl) Tryz.stoodInHeld38]
  have hf : (Tryz.prog.fieldsOf 38).toList = [⟨ "Err", 35, 0, false, "", "", 0⟩, ⟨ "N", 3, 1, false, "", "", 8⟩, ⟨ "Val", 36, 2, false, "", "", 16⟩, ⟨ "Is", 4, 3, false, "", "", 24⟩, ⟨ "Program", 24, 4, false, "", "", 32⟩] := by kernel_rfl
  rw [hf]
  simp [Op.eqFields,part,h1,h3,h4,h5,h6]
 exact key 9997
theorem Pv.neqAn {n:Nf} {l:Env} {d:Option Tmp} {ty:TypeId} {pos:String} {af:Array Edge} {g:Option (Nat×Bool)} {t':TypeId} {x y:Operand} (e a val:Int) (is:Bool) (q:Prg) (hx:ev l x=some (anV e a val is q)) (hy:ev l y=some (anV e a val is q)) :
 Pv Tryz.prog n l ⟨d,.binOp .neq 38 x y t',ty,pos,af,g⟩ (.bool false):=fun ac w hf=>by
 have h:=eq_an e a val is q w
 have hg:=Tryz.eqGuardType38
 simp [execOp,hf.ev hx,hf.ev hy,eqGuard,hg,binOp,h]
end Go.Proofs.YtkpiakgmkpbikaaGreatDoor
