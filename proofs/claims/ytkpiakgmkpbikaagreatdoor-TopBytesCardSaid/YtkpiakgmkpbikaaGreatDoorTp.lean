/- Proved here: steps of the proof (Tx Ts Tp). -/
import Derived.Test.YtkpiakgmkpbikaaGreatDoorTw
import Derived.Test.YtkpiakgmkpbikaaGreatDoorByP
set_option linter.unusedVariables false
namespace Go.Proofs.YtkpiakgmkpbikaaGreatDoor
abbrev rdO (db:Nat) (nm:Nm) (at_ sz:Nat) (tv:Value) (short:Bool) (err:Int):Obj:=cellsO [.pointer (some ⟨db,0,none⟩),kS nm,.int .i64 (at_:Int),.int .i64 (sz:Int),tv,.bool short,.int .i64 err] 340
def RdT (rb db:Nat) (nm:Nm) (l:List Rc) (fresh:Bool) (hl:Hl):Prop:=∃(at_ sz:Nat) (p:Option Addr) (c:Nat) (text:List UInt8) (short:Bool) (q:Hl),Tl byteE (.slice p text.length c) text q∧hl.Perm ((rb,rdO db nm at_ sz (.slice p text.length c) short 0)::q) ∧
 ((fresh=true∧l≠[]∧text=[]∧at_=0∧sz=(fileB l).length∧short=false)∨(fresh=false∧text=rcsB l∧at_=sz))
def InRs (l:List Rc):Prop:=∀r∈l,InR r
theorem InRs.nr {l:List Rc} (h:InRs l):NR l:=fun r hr=>(h r hr).2
section
variable {F : Fm} {db wb rb : Nat} {C : Cx} {D : Dk} {s s1 s2 : Hl} {nm : Nm}
theorem newReader_z (hC:C.Ok) (hD:DiskAt db D s) (hw:Wz C D) {f:Fl} {l:List Rc} (hf:findF D.files nm=some f) (hl:f.now=fileB l) :
 Spec Tryz.prog 221 #[.pointer (some ⟨db,0,none⟩),kS nm] F s fun v s'=>∃p e D' h1 h2,v=.tuple #[.pointer p,.int .i64 e]∧s'=h1++h2∧DiskAt db D' h2∧Out C none1 (fun _=>True) D 0 e D'∧(e=0→∃rb,p=some ⟨rb,0,none⟩∧RdT rb db nm l (decide (l≠[])) h1):=by
 refine Spec.of (n:=22) (vs:=[.pointer (some ⟨db,0,none⟩),kS nm]) Tryz.func221 rfl Tryz.ntmps221 rfl ?_
 refine sj [.p,.p] Z<|aj Z<|aj Z<|nl<|sj [.p,.p,.e,.p,.p,.p,.p,.p] Z<|mj Z<|mj Z<|Rg.callH Z Z Z (run_callF Z) (fun F' hF'=>size_z (F:=F') hC hD hw hf) Z ?_
 rintro _ s11 ⟨m,e,D',rfl,hD11,hO⟩
 rw [List.append_nil]
 have hO':Out C none1 (fun _=>True) D 0 e D':=⟨hO.1,hO.2.imp (fun x=>⟨x.1,x.2.1,trivial⟩) id⟩
 refine mj Z<|xj Z Z<|xj Z Z<|aj Z<|aj Z<|nl<|wj<|sj [.p,.p] Z<|mj Z<|uj Z (Pv.neq Z Z)<|nl<|cj Z (fun h15 => ?_) (fun h15 => ?_)
 · simp only [bne_iff_ne,ne_eq] at h15
   refine sj [.p,.p,.p] Z<|mj Z<|aj Z<|aj Z<|nl ?_
   exact Vc.ret (Vc.retsH rfl (.cons (.tmp rfl) (.cons (.tmp rfl) (.nil))) (⟨none,e,D',[],s11,rfl,rfl,hD11,hO',fun h=>absurd h h15⟩) pulled)
 · simp only [bne_eq_false_iff_eq] at h15
   subst h15
   obtain ⟨_,_,hm⟩:=hO.good (by decide)
   subst hm
   refine kj<|sj [.p,.p,.p,.p,.e,.p,.p] Z<|mj Z<|mj Z<|mj Z<|uj Z (Pv.build (c:=#[.pointer (some ⟨db,0,none⟩),kS nm,.int .i64 0,.int .i64 ((f.now.length:Nat):Int),.slice none 0 0,.bool false,.int .i64 0]) Z Z)<|Rg.box Z Z Z Z Z (fun b21 => ?_)
   refine aj Z<|aj Z<|nl ?_
   exact Vc.ret (Vc.retsH rfl (.cons (.tmp rfl) (.cons (.tmp rfl) (.nil))) (⟨some ⟨b21,0,none⟩,0,D',[(b21,rdO db nm 0 f.now.length (.slice none 0 0) false 0)],s11,rfl,rfl,hD11,hO',fun _=>⟨b21,rfl,0,f.now.length,none,0,[],false,[],.nil,.refl _,by
    by_cases hn:l=[]
    · refine .inr ⟨by simp [hn],by rw [hn]; rfl,?_⟩
      rw [hl,hn]; rfl
    · exact .inl ⟨by simp [hn],hn,rfl,rfl,by rw [hl],rfl⟩⟩⟩) pulled)
set_option maxHeartbeats 2000000 in
theorem in_z (hC:C.Ok) {l:List Rc} {p0:Option Addr} {c0:Nat} {q0:Hl} (own0:Tl byteE (.slice p0 0 c0) [] q0) (hne:l≠[]) (hll:l.length<50) (hD:DiskAt db D s2) (hw:Wz C D) {f:Fl} (hf:findF D.files nm=some f) (hl:f.now=fileB l) :
 Spec Tryz.prog 286 #[.pointer (some ⟨rb,0,none⟩)] F ((rb,rdO db nm 0 (fileB l).length (.slice p0 0 c0) false 0)::(q0++s2)) fun v s'=>∃(e:Int) (D':Dk) (at_:Nat) (p:Option Addr) (c:Nat) (text:List UInt8) (short:Bool) (h1 h2:Hl),v=.int .i64 e∧s'=(rb,rdO db nm at_ (fileB l).length (.slice p text.length c) short 0)::(h1++h2)∧Tl byteE (.slice p text.length c) text h1∧text.length≤800∧DiskAt db D' h2∧Out C none1 (fun _=>text=rcsB l∧at_=(fileB l).length) D 0 e D':=by
 obtain ⟨n,hn⟩:∃n,n=(fileB l).length:=⟨_,rfl⟩
 have hfl:f.now.length=n:=by rw [hl,hn]
 have hnl:=fileB_length l
 have hrl:=rcsB_length l
 have hpos:0<l.length:=List.length_pos_iff.2 hne
 have hdec:decG (fileB l)=(rcsB l,(rcsB l).length+6,0):=by
  have:=decG_encG (t:=rcsB l) (rest:=[]) (by omega)
  rw [List.append_nil] at this
  rw [fileB_ne hne]; exact this
 have hnn:n=(rcsB l).length+6:=by rw [hn,fileB_ne hne,encG_length]
 rw [←hn] at hnl ⊢
 refine Spec.of (n:=84) (vs:=[.pointer (some ⟨rb,0,none⟩)]) Tryz.func286 rfl Tryz.ntmps286 rfl ?_
 refine sj [.p] Z<|aj Z<|nl<|wj ?_
 refine Vc.draw [22] (sd [(0,.pure),(1,.pure),(2,.pure),(3,.read),(4,.pure),(5,.pure),(6,.pure),(7,.read),(8,.pure),(9,.pure),(10,.pure),(11,.read),(12,.pure),(13,.pure),(14,.pure),(15,.read),(16,.pure),(17,.pure),(18,.pure),(19,.read),(20,.pure),(21,.pure),(22,.eff),(23,.pure),(24,.pure),(25,.pure),(26,.pure),(27,.pure)]) mixed (by kernel_rfl)<|mj Z<|nj Z<|fj Z<|lj Z Z<|mj Z<|nj Z<|fj Z<|lj Z Z<|mj Z<|nj Z<|fj Z<|lj Z Z<|mj Z<|nj Z ?_
 refine fj Z<|lj Z Z<|mj Z<|nj Z<|fj Z<|lj Z Z<|uj Z (Pv.asI (n) (Pv.sub rfl rfl (by omega)) (by omega))<|uj Z (Pv.asI (n) (Pv.min rfl rfl) (by omega)) ?_
 refine Rg.callH Z Z Z (run_callF rfl) (fun F' hF'=>read_z (F:=F') hC hD hw hf (a:=0) (m:=n) (by omega)) rfl ?_
 rintro _ _ ⟨u30,q30,s30,bs,e,D',rfl,own30,hD30,hO,rfl⟩
 rw [List.append_assoc]
 refine mj Z<|xj Z Z<|xj Z Z<|aj Z<|aj Z<|nl<|wj<|sj [.p,.p] Z<|mj Z<|uj Z (Pv.neq Z Z)<|nl<|cj Z (fun h34 => ?_) (fun h34 => ?_)
 · simp only [bne_iff_ne,ne_eq] at h34
   obtain ⟨he7,hB⟩:=hO.bad h34
   refine sj [.p,.p] Z<|mj Z<|aj Z<|nl ?_
   exact Vc.ret (Vc.retsH (hl':=(rb,rdO db nm 0 n (.slice p0 0 c0) false 0)::(q0++s30)) rfl (.cons (.tmp rfl) .nil) ⟨e,D',0,p0,c0,[],false,q0,s30,rfl,rfl,own0,Nat.zero_le _,hD30,hO.wz,.inr ⟨he7,hB⟩⟩ pulled)
 · simp only [bne_eq_false_iff_eq] at h34
   subst h34
   obtain ⟨_,hG,hbs⟩:=hO.good (by decide)
   rw [List.drop_zero,List.take_of_length_le (by omega),hl] at hbs
   subst hbs
   refine kj<|sj [.p,.e,.p,.p,.p,.p,.p,.p,.p] Z<|mj Z<|Rg.callA Z Z Z (run_callF rfl) (decode_spec (Arg.own own30 frz_sb) (by omega)) ?_
   rintro _ s38 ⟨u38,rfl,own38⟩
   rw [hdec] at own38 ⊢
   simp only at own38 ⊢
   obtain ⟨pt,ct,rfl⟩:=own38.shape
   refine mj Z<|xj Z Z<|xj Z Z<|xj Z Z<|aj Z<|aj Z<|aj Z<|nl<|wj<|sj [.p,.p] Z<|mj Z<|uj Z (Pv.neq Z Z)<|nl<|cj Z (fun h43=>absurd h43 (by simp)) (fun h43 => ?_)
   refine kj<|wj<|sj [.p,.p,.p,.p,.p,.p,.p,.p,.p,.p,.p,.p,.p,.p,.p,.p,.p,.p,.r,.p] Z<|mj Z<|uj Z (Pv.lenS Z)<|uj Z (Pv.eql Z Z)<|mj Z<|Rg.split (t:=48) rfl (fun h48=>absurd h48 (by (simp only [beq_iff_eq]; omega))) (fun h48 => ?_)
   refine mj Z<|uj Z (Pv.lenS Z)<|uj Z (Pv.asI ((rcsB l).length % 16) (Pv.rem rfl rfl (by omega)) (by omega))<|uj Z (Pv.neq Z Z)<|pj Z Z<|mj Z<|Rg.split (t:=54) rfl (fun h54=>absurd h54 (by (simp only [bne_iff_ne,ne_eq,Classical.not_not]; omega))) (fun h54 => ?_)
   refine mj Z<|uj Z (Pv.lenS Z)<|uj Z (Pv.gtr Z Z)<|pj Z Z<|mj Z<|Rg.split (t:=59) rfl (fun h59=>absurd h59 (by (simp only [decide_eq_true_eq]; omega))) (fun h59 => ?_)
   refine mj Z<|nj Z<|fj Z<|lj Z Z<|pj Z Z<|nl<|cj Z (fun h64=>absurd h64 (by decide)) (fun h64 => ?_)
   refine kj<|sj [.p,.p,.p,.p,.p,.p,.r,.p,.p,.p,.p,.p,.p,.p,.p,.e,.p,.p,.e,.p,.p,.e] Z<|mj Z<|mj Z<|mj Z<|mj Z<|nj Z<|fj Z<|lj Z Z<|mj Z<|uj Z (Pv.asI (n) (Pv.add rfl rfl (by omega)) (by omega))<|mj Z<|mj Z<|uj Z (Pv.lenS Z)<|uj Z (Pv.lss Z Z) ?_
   refine nj Z<|fj Z ?_
   refine Rg.store Z Z Z Z Z Z Z Z<|nj Z<|fj Z ?_
   refine Rg.store Z Z Z Z Z Z Z Z<|nj Z<|fj Z ?_
   refine Rg.store Z Z Z Z Z Z Z Z<|nl<|sj [.p] Z<|aj Z<|nl ?_
   exact Vc.ret (Vc.retsH rfl (.cons (.tmp rfl) (.nil)) (⟨0,D',n,pt,ct,rcsB l,decide (((rcsB l).length:Int)<800),s38,s30,rfl,rfl,own38.tl,by omega,hD30,hO.wz,.inl ⟨rfl,hG,rfl,rfl⟩⟩) pulled)
structure RdS where
 at_:Nat
 sz:Nat
 p:Option Addr
 c:Nat
 text:List UInt8
 short:Bool
 e:Int
 D:Dk
 q1:Hl
 q2:Hl
set_option maxHeartbeats 4000000 in
theorem next_z (hC:C.Ok) {l:List Rc} {fresh:Bool} (hR:RdT rb db nm l fresh s1) (hll:l.length<50) (hI:InRs l) (hD:DiskAt db D s2) (hw:Wz C D) (hup:D.down=false) (hf:fresh=true→∃f,findF D.files nm=some f∧f.now=fileB l) :
 Spec Tryz.prog 266 #[.pointer (some ⟨rb,0,none⟩)] F (s1++s2) fun v s'=>∃x is e D' h1 h2,v=.tuple #[recV x,.bool is,.int .i64 e]∧s'=h1++h2∧DiskAt db D' h2∧Out C none1 (fun _=>(l=[]∧is=false)∨(∃t,l=x::t∧is=true)) D 0 e D'∧(e=0→RdT rb db nm l.tail false h1)∧(e≠0→is=false)∧(is=false→x=⟨0,0⟩):=by
 obtain ⟨at0,sz0,p0,c0,text0,short0,q0,own,hp,hst⟩:=hR
 refine Spec.perm ?_ (hp.append_right s2)
 rw [List.cons_append]
 have hrl:=rcsB_length l
 refine Spec.of (n:=79) (vs:=[.pointer (some ⟨rb,0,none⟩)]) Tryz.func266 rfl Tryz.ntmps266 rfl ?_
 refine sj [.e,.p,.p] Z<|Rg.alloc Z Z Z Z (fun b2 => ?_)
 refine aj Z<|aj Z<|nl<|wj<|wj<|Vc.cut1 (fun (bb:Bool)=>bb=fresh) (fun bb=>[(28,.bool bb),(0,.pointer (some ⟨rb,0,none⟩)),(2,.pointer (some ⟨b2,0,none⟩))]) (fun bb=>(b2,cellsO [.int .u64 0,.int .u64 0] 293)::(rb,rdO db nm at0 sz0 (.slice p0 text0.length c0) short0 0)::(q0++s2)) ?_ ?_
 · refine Vc.draw [] (sd [(0,.pure),(1,.pure),(2,.pure),(3,.read),(4,.pure),(5,.pure),(6,.pure),(7,.pure),(8,.pure),(9,.read),(10,.pure),(11,.pure),(12,.pure),(13,.pure),(14,.pure),(15,.pure),(16,.pure),(17,.read),(18,.pure),(19,.pure),(20,.pure),(21,.read),(22,.pure),(23,.pure)]) mixed (by kernel_rfl)<|mj Z<|nj Z<|fj Z<|lj Z Z<|uj Z (Pv.eql Z Z)<|mj Z ?_
   refine Rg.split (t:=10) rfl (fun h10 => ?_) (fun h10=>absurd h10 (by simp))
   refine mj Z<|nj Z<|fj Z<|lj Z Z<|uj Z (Pv.lenS Z)<|uj Z (Pv.eql Z Z)<|qj Z Z<|mj Z ?_
   refine Rg.split (t:=18) Z (fun h18 => ?_) (fun h18 => ?_)
   · simp only [beq_iff_eq] at h18
     refine mj Z<|nj Z<|fj Z<|lj Z Z<|mj Z<|nj Z<|fj Z<|lj Z Z<|uj Z (Pv.lss Z Z)<|qj Z Z<|nl ?_
     exact Vc.inv1 _ (by
      rcases hst with ⟨rfl,hne,_,rfl,rfl,_⟩ | ⟨rfl,_,rfl⟩
      · rw [decide_eq_true_eq,fileB_ne hne,encG_length]; omega
      · rw [decide_eq_false_iff_not]; omega) (.cons rfl (.cons rfl (.cons rfl .nil))) pulled
   · simp only [beq_eq_false_iff_ne,ne_eq] at h18
     iterate 9 (first | refine Rg.skipP rfl rfl rfl ?_ | refine Rg.skipR rfl rfl rfl ?_ | refine Rg.skipE rfl rfl rfl ?_)
     refine pj Z Z<|nl ?_
     exact Vc.inv1 false (by
      rcases hst with ⟨_,_,rfl,_⟩ | ⟨rfl,_⟩
      · exact absurd rfl h18
      · rfl) (.cons rfl (.cons rfl (.cons rfl .nil))) pulled
 · rintro bb rfl
   refine Vc.cut1 (fun (R:RdS)=>Tl byteE (.slice R.p R.text.length R.c) R.text R.q1∧R.text.length≤800∧DiskAt db R.D R.q2∧Out C none1 (fun _=>R.text=rcsB l∧R.at_=R.sz) D 0 R.e R.D) (fun R=>[(0,.pointer (some ⟨rb,0,none⟩)),(2,.pointer (some ⟨b2,0,none⟩))]) (fun R=>(b2,cellsO [.int .u64 0,.int .u64 0] 293)::(rb,rdO db nm R.at_ R.sz (.slice R.p R.text.length R.c) R.short R.e)::(R.q1++R.q2)) ?_ ?_
   · refine cj Z (fun h28 => ?_) (fun h28 => ?_)
     · subst h28
       obtain ⟨f,hff,hfl⟩:=hf rfl
       obtain ⟨_,hne,rfl,rfl,rfl,rfl⟩:=hst.resolve_right (fun h=>by cases h.1)
       refine tj [.p,.p,.e,.p,.p,.e] Z<|mj Z<|mj Z<|Rg.callH Z Z Z (run_callF Z) (fun F' hF'=>in_z (F:=F') (rb:=rb) hC own hne hll hD hw hff hfl) Z ?_
       rintro _ _ ⟨e,D',at1,p1,c1,text1,short1,g1,g2,rfl,rfl,own31,hle,hD31,hO⟩
       rw [List.cons_append,List.append_assoc]
       refine nj Z<|fj Z ?_
       refine Rg.store Z Z Z Z Z Z Z Z<|nl ?_
       exact Vc.inv1 (⟨at1,(fileB l).length,p1,c1,text1,short1,e,D',g1,g2⟩:RdS) ⟨own31,hle,hD31,hO⟩ (.cons rfl (.cons rfl .nil)) pulled
     · subst h28
       obtain ⟨_,rfl,rfl⟩:=hst.resolve_left (fun h=>by cases h.1)
       refine kj ?_
       exact Vc.inv1 (⟨at0,at0,p0,c0,rcsB l,short0,0,D,q0,s2⟩:RdS) ⟨own,by (show (rcsB l).length≤800); omega,hD,hw,.inl ⟨rfl,.refl hup,rfl,rfl⟩⟩ (.cons rfl (.cons rfl .nil)) pulled
   · rintro ⟨at1,sz1,p1,c1,text1,short1,e,D1,g1,g2⟩ ⟨ownR,hle,hDR,hO⟩
     simp only at ownR hle hDR hO ⊢
     have hcap:=ownR.cap
     refine wj<|sj [.p,.p,.p,.r,.p,.p,.p,.p,.p,.r,.p,.p,.p] Z<|mj Z<|nj Z<|fj Z<|lj Z Z<|uj Z (Pv.neq Z Z)<|mj Z ?_
     refine Rg.split (t:=39) Z (fun h39 => ?_) (fun h39 => ?_)
     · simp only [bne_iff_ne,ne_eq] at h39
       obtain ⟨he7,hB⟩:=hO.bad h39
       iterate 6 (first | refine Rg.skipP rfl rfl rfl ?_ | refine Rg.skipR rfl rfl rfl ?_ | refine Rg.skipE rfl rfl rfl ?_)
       refine qj Z Z<|nl<|Vc.condT Z<|wj ?_
       refine Vc.drawS [] (sd [(1,.pure),(2,.pure),(3,.pure),(4,.read),(0,.eff),(5,.eff),(6,.pure),(7,.pure)]) [(rb,rdO db nm at1 sz1 (.slice p1 text1.length c1) short1 e)] pulled mixed (by kernel_rfl)<|mj Z<|nj Z<|fj Z<|lj Z Z ?_
       refine Rg.loadAE Z Z Z Z Z<|Rg.storeAN Z Z Z Z Z Z Z<|aj Z<|aj Z<|nl ?_
       exact Vc.ret (Vc.retsH rfl (.cons (.cellA rfl rfl) (.cons (.tmp rfl) (.cons (.tmp rfl) (.nil)))) (⟨⟨0,0⟩,false,e,D1,(rb,rdO db nm at1 sz1 (.slice p1 text1.length c1) short1 e)::g1,g2,rfl,rfl,hDR,⟨hO.wz,.inr ⟨he7,hB⟩⟩,fun h=>absurd h h39,fun _=>rfl,fun _=>rfl⟩) pulled)
     · simp only [bne_eq_false_iff_eq] at h39
       subst h39
       obtain ⟨_,hG,htx,hat⟩:=hO.good (by decide)
       subst htx
       subst hat
       refine mj Z<|nj Z<|fj Z<|lj Z Z<|uj Z (Pv.lenS Z)<|uj Z (Pv.eql Z Z)<|pj Z Z<|nl<|cj Z (fun h46 => ?_) (fun h46 => ?_)
       · simp only [beq_iff_eq] at h46
         obtain rfl:l=[]:=List.length_eq_zero_iff.1 (by omega)
         refine wj ?_
         refine Vc.drawS [] (sd [(1,.pure),(2,.pure),(3,.pure),(4,.read),(0,.eff),(5,.eff),(6,.pure),(7,.pure)]) [(rb,rdO db nm at1 at1 (.slice p1 (rcsB []).length c1) short1 0)] pulled mixed (by kernel_rfl)<|mj Z<|nj Z<|fj Z<|lj Z Z ?_
         refine Rg.loadAE Z Z Z Z Z<|Rg.storeAN Z Z Z Z Z Z Z<|aj Z<|aj Z<|nl ?_
         exact Vc.ret (Vc.retsH rfl (.cons (.cellA rfl rfl) (.cons (.tmp rfl) (.cons (.tmp rfl) (.nil)))) (⟨⟨0,0⟩,false,0,D1,(rb,rdO db nm at1 at1 (.slice p1 (rcsB []).length c1) short1 0)::g1,g2,rfl,rfl,hDR,⟨hO.wz,.inl ⟨rfl,hG,.inl ⟨rfl,rfl⟩⟩⟩,fun _=>⟨at1,at1,p1,c1,rcsB [],short1,g1,ownR,.refl _,.inr ⟨rfl,rfl,rfl⟩⟩,fun h=>absurd rfl h,fun _=>rfl⟩) pulled)
       · simp only [beq_eq_false_iff_ne,ne_eq] at h46
         obtain ⟨x,t,rfl⟩:∃x t,l=x::t:=by
          cases l with
          | nil=>exact absurd rfl h46
          | cons x t=>exact ⟨x,t,rfl⟩
         obtain ⟨hg1,hg2⟩:=getB_head (l:=t) (hI x (by simp))
         have hfrom:Tl byteE (.slice (if c1=16 then p1 else Option.map (fun x=>x.add (16*1)) p1) ((rcsB (x::t)).length-16) (c1-16)) (rcsB t) g1:=by
          have:=ownR.from (k:=16) (by omega) (by omega)
          rw [drop_head] at this
          exact this
         have hlt:(rcsB (x::t)).length-16=(rcsB t).length:=by rw [rcsB_length,rcsB_length,List.length_cons]; omega
         rw [hlt] at hfrom
         refine kj<|sj [.p,.p,.p,.r,.e,.p,.p,.p,.p,.e] Z<|mj Z<|nj Z<|fj Z<|lj Z Z ?_
         refine Rg.callP Z Z Z (run_callF rfl) (get_spec (Arg.tl ownR frz_sb) (by omega) 0 8 (by omega) (by omega) (by omega)) ?_
         rintro _ rfl
         refine mj Z<|xj Z Z<|xj Z Z<|fj Z ?_
         refine Rg.store Z Z Z Z Z Z Z Z<|nl<|sj [.p,.p,.p,.r,.e,.p,.p,.p,.p,.e] Z<|mj Z<|nj Z<|fj Z<|lj Z Z ?_
         refine Rg.callP Z Z Z (run_callF rfl) (get_spec (Arg.tl ownR frz_sb) (by omega) 8 8 (by omega) (by omega) (by omega)) ?_
         rintro _ rfl
         refine mj Z<|xj Z Z<|xj Z Z<|fj Z ?_
         refine Rg.store Z Z Z Z Z Z Z Z<|nl<|sj [.p,.p,.p,.p,.r,.p,.p,.p,.e] Z<|mj Z<|mj Z<|nj Z<|fj Z<|lj Z Z<|uj Z (Pv.sl (lv:=some (.int .i64 ((16:Nat):Int))) (hv:=none) 16 (rcsB (x::t)).length rfl rfl rfl (by omega) hcap (fun _=>hcap))<|nj Z<|fj Z ?_
         refine Rg.store Z Z Z Z Z (by rfl) rfl rfl<|nl<|wj ?_
         rw [hg1,hg2,hlt]
         refine tj [.r,.e,.p,.p] Z<|rj Z (Ev.ldA Z Z)<|Rg.storeA Z Z Z Z Z Z Z Z<|aj Z<|aj Z<|nl ?_
         exact Vc.ret (Vc.retsH rfl (.cons (.cellA rfl rfl) (.cons (.tmp rfl) (.cons (.tmp rfl) (.nil)))) (⟨x,true,0,D1,(rb,rdO db nm at1 at1 (.slice (if c1=16 then p1 else Option.map (fun x=>x.add (16*1)) p1) (rcsB t).length (c1-16)) short1 0)::g1,g2,rfl,rfl,hDR,⟨hO.wz,.inl ⟨rfl,hG,.inr ⟨t,rfl,rfl⟩⟩⟩,fun _=>⟨at1,at1,_,_,rcsB t,short1,g1,hfrom,.refl _,.inr ⟨rfl,rfl,rfl⟩⟩,fun h=>absurd rfl h,fun h=>(by cases h)⟩) pulled)
set_option maxHeartbeats 2000000 in
theorem write_z (hC:C.Ok) (hD:DiskAt db D s) (hw:Wz C D) (hk:nm∈C.S) (hf:findF D.files nm=none) {vl:Value} {l:List Rc} (ha:Arg recE F vl l) (hI:InRs l) (hl:l.length<50) (hcap:16*l.length+6≤C.cap) :
 Spec Tryz.prog 252 #[.pointer (some ⟨db,0,none⟩),kS nm,vl] F s fun v s'=>∃e D',v=.int .i64 e∧DiskAt db D' s'∧Out C (· = nm) (fun D'=>findF D'.files nm=some ⟨fileB l,fileB l⟩) D 0 e D':=by
 obtain ⟨p,c,rfl⟩:=ha.shape
 refine Spec.of (n:=36) (vs:=[.pointer (some ⟨db,0,none⟩),kS nm,.slice p l.length c]) Tryz.func252 rfl Tryz.ntmps252 rfl ?_
 refine sj [.p] Z<|aj Z<|nl<|sj [.p,.p,.e,.p,.p,.p,.p,.p] Z<|mj Z<|mj Z<|Rg.callH Z Z Z (run_callF Z) (fun F' hF'=>newWriter_z (F:=F') hC hD hw hk hf) Z ?_
 rintro _ _ ⟨pw,e,D1,h1,h2,rfl,rfl,hD1,hO1,hW1⟩
 refine mj Z<|xj Z Z<|xj Z Z<|aj Z<|aj Z<|nl<|wj<|sj [.p,.p] Z<|mj Z<|uj Z (Pv.neq Z Z)<|nl<|cj Z (fun h19 => ?_) (fun h19 => ?_)
 · simp only [bne_iff_ne,ne_eq] at h19
   obtain ⟨he7,hB⟩:=hO1.bad h19
   refine sj [.p,.p] Z<|mj Z<|aj Z<|nl ?_
   exact Vc.ret (Vc.retsH (hl':=h2) (rest:=h1) rfl (.cons (.tmp rfl) .nil) ⟨e,D1,rfl,hD1,hO1.wz,.inr ⟨he7,hB⟩⟩ ((List.Perm.of_eq (List.append_nil _)).trans List.perm_append_comm))
 · simp only [bne_eq_false_iff_eq] at h19
   subst h19
   obtain ⟨_,hG1,hf1⟩:=hO1.good (by decide)
   obtain ⟨wb,rfl,hW⟩:=hW1 rfl
   rw [List.append_nil]
   refine kj<|wj<|sj [.p,.p,.p] Z<|mj Z<|uj Z (Pv.lenS Z)<|mj Z<|nl<|bj ?_
   refine Vc.loop2 (fun (i:Nat) (s1:Hl)=>i≤l.length∧WtAt wb db nm (l.take i) s1) (fun i s1=>[(7,.pointer (some ⟨wb,0,none⟩)),(21,.slice p l.length c),(22,.int .i64 (l.length:Int)),(23,.int .i64 (i:Int))]) (fun i s1=>s1++h2) (fun i s1=>l.length-i) 0 h1 ⟨Nat.zero_le _,hW⟩ (.cons Z (.cons Z (.cons Z (.cons Z .nil)))) pulled ?_
   rintro i s1 ⟨hi,hWi⟩
   have htl:(l.take i).length=i:=by rw [List.length_take]; omega
   refine sj [.p] Z<|uj Z (Pv.lss Z Z)<|nl<|wj<|cj Z (fun h24 => ?_) (fun h24 => ?_)
   · simp only [decide_eq_true_eq] at h24
     have hi1:i<l.length:=by omega
     obtain ⟨b,off,c1,e,_⟩:=ha.block (by omega)
     cases e
     have htk:l.take (i+1)=l.take i++[l[i]!]:=by rw [List.take_succ_eq_append_getElem hi1,getElem!_pos l i hi1]
     have hri:InR l[i]! := hI _ (by rw [getElem!_pos l i hi1]; exact List.getElem_mem _)
     refine kj<|wj<|bj<|sj [.p,.r,.e,.e] Z<|uj Z (Pv.ixA (i) rfl rfl (by omega) (by omega))<|rj Z (Ev.as (recV l[i]!) (Ev.ldS (E:=recE) i ha.src rfl rfl rfl (by omega)) rfl)<|Rg.alloc Z Z Z Z (fun b10 => ?_)
     refine Rg.storeA Z Z Z Z Z Z Z Z<|nl<|sj [.p,.r,.e,.p] Z<|mj Z<|rj Z (Ev.ldA Z Z)<|Rg.callH Z Z Z (run_callF rfl) (fun F' hF'=>putR_z (F:=F') hWi (by omega) l[i]! hri) rfl ?_
     rintro _ g1 ⟨rfl,hW29⟩
     rw [←htk] at hW29
     refine aj Z<|nl<|sj [.p,.p] Z<|mj Z<|uj Z (Pv.neq Z Z)<|nl<|cj Z (fun h31=>absurd h31 (by decide)) (fun h31 => ?_)
     refine kj<|dj<|tj [.p,.p] Z<|uj Z (Pv.asI (i+1) (Pv.add rfl rfl (by omega)) (by omega))<|mj Z<|nl ?_
     exact Vc.inv2 (i+1) g1 ⟨⟨by omega,hW29⟩,by omega⟩ (.cons rfl (.cons rfl (.cons rfl (.cons rfl .nil)))) pulled
   · simp only [decide_eq_false_iff_not] at h24
     obtain rfl:i=l.length:=by omega
     rw [List.take_length] at hWi
     refine Vc.exit Z<|sj [.p,.e,.p] Z<|mj Z<|Rg.callH Z Z Z (run_callF Z) (fun F' hF'=>closeR_z (F:=F') hC hWi hl hD1 hO1.wz hG1.up hf1 hcap) Z ?_
     rintro _ s35 ⟨e2,D2,rfl,hD2,hO2⟩
     refine aj Z<|nl ?_
     exact Vc.ret (Vc.retsH rfl (.cons (.tmp rfl) (.nil)) (⟨e2,D2,rfl,hD2,hO2.wz,hO2.2.imp (fun x=>⟨x.1,hG1.trans x.2.1,x.2.2⟩) (fun x=>⟨x.1,hG1.dn x.2⟩)⟩) pulled)
set_option maxHeartbeats 2000000 in
theorem readR_z (hC:C.Ok) (hD:DiskAt db D s) (hw:Wz C D) {f:Fl} {l:List Rc} (hf:findF D.files nm=some f) (hl:f.now=fileB l) (hll:l.length<50) (hI:InRs l) :
 Spec Tryz.prog 260 #[.pointer (some ⟨db,0,none⟩),kS nm] F s fun v s'=>∃u e D' h1 h2,v=.tuple #[u,.int .i64 e]∧s'=h1++h2∧DiskAt db D' h2∧Out C none1 (fun _=>Own recE u l h1) D 0 e D':=by
 refine Spec.of (n:=37) (vs:=[.pointer (some ⟨db,0,none⟩),kS nm]) Tryz.func260 rfl Tryz.ntmps260 rfl ?_
 refine sj [.p,.p] Z<|aj Z<|aj Z<|nl<|sj [.p,.p,.e,.p,.p,.p,.p,.p] Z<|mj Z<|mj Z<|Rg.callH Z Z Z (run_callF Z) (fun F' hF'=>newReader_z (F:=F') hC hD hw hf hl) Z ?_
 rintro _ _ ⟨p,e,D1,h1,h2,rfl,rfl,hD1,hO1,hR1⟩
 refine mj Z<|xj Z Z<|xj Z Z<|aj Z<|aj Z<|nl<|wj<|sj [.p,.p] Z<|mj Z<|uj Z (Pv.neq Z Z)<|nl<|cj Z (fun h17 => ?_) (fun h17 => ?_)
 · simp only [bne_iff_ne,ne_eq] at h17
   obtain ⟨he7,hB⟩:=hO1.bad h17
   refine sj [.p,.p,.p] Z<|mj Z<|aj Z<|aj Z<|nl ?_
   exact Vc.ret (Vc.retsH (hl':=[]++h2) (rest:=h1) rfl (.cons (.tmp rfl) (.cons (.tmp rfl) .nil)) ⟨_,e,D1,[],h2,rfl,rfl,hD1,hO1.wz,.inr ⟨he7,hB⟩⟩ ((List.Perm.of_eq (List.append_nil _)).trans List.perm_append_comm))
 · simp only [bne_eq_false_iff_eq] at h17
   subst h17
   obtain ⟨_,hG1,_⟩:=hO1.good (by decide)
   obtain ⟨rb,rfl,hR⟩:=hR1 rfl
   rw [List.append_nil]
   refine kj<|bj ?_
   refine Vc.loop7 (fun (acc rest:List Rc) (fresh:Bool) (D':Dk) (q1 q2:Hl) (w:Value×Hl)=>acc++rest=l∧Gd none1 D D'∧Wz C D'∧RdT rb db nm rest fresh q1∧DiskAt db D' q2∧Own recE w.1 acc w.2∧(fresh=true→rest=l)) (fun acc rest fresh D' q1 q2 w=>[(4,w.1),(6,.pointer (some ⟨rb,0,none⟩))]) (fun acc rest fresh D' q1 q2 w=>q1++(q2++w.2)) (fun acc rest fresh D' q1 q2 w=>rest.length) [] l (decide (l≠[])) D1 h1 h2 (_,[]) ⟨Z,hG1,hO1.wz,hR,hD1,.nil,fun _=>Z⟩ (.cons Z (.cons Z .nil)) pulled ?_
   rintro acc rest fresh D' q1 q2 ⟨w1,w2⟩ ⟨hl2,hG,hW,hR,hD,own,hfr⟩
   simp only at own ⊢
   have hacc:=congrArg List.length hl2
   rw [List.length_append] at hacc
   obtain ⟨pa,ca,rfl⟩:=own.shape
   rw [←List.append_assoc]
   refine bj<|sj [.p,.e,.p,.p,.p,.p,.e,.e,.p,.p] Z<|mj Z<|Rg.callH Z Z Z (run_callF rfl) (fun F' hF'=>next_z (F:=F') hC hR (by omega) (fun r hr=>hI r (by rw [←hl2]; simp [hr])) hD hW hG.up (fun h=>⟨f,by rw [hG.same _ (fun h=>h.elim)]; exact hf,by rw [hfr h]; exact hl⟩)) rfl ?_
   rintro _ _ ⟨x,is,e,D2,g1,g2,rfl,rfl,hD21,hO21,hR21,hi21,_⟩
   rw [List.append_assoc]
   refine mj Z<|xj Z Z<|xj Z Z<|xj Z Z<|Rg.alloc Z Z Z Z (fun b7 => ?_)
   refine Rg.storeA Z Z Z Z Z Z Z Z<|aj Z<|aj Z<|nl<|bj<|sj [.p,.p,.p] Z<|mj Z<|uj Z (Pv.neq Z Z)<|aj Z<|nl<|cj Z (fun h29 => ?_) (fun h29 => ?_)
   · simp only [bne_iff_ne,ne_eq] at h29
     obtain ⟨he7,hB⟩:=hO21.bad h29
     refine sj [.p,.p,.p] Z<|mj Z<|aj Z<|aj Z<|nl ?_
     exact Vc.ret (Vc.retsH (hl':=[]++g2) rfl (.cons (.tmp rfl) (.cons (.tmp rfl) .nil)) ⟨_,e,D2,[],g2,rfl,rfl,hD21,hO21.wz,.inr ⟨he7,hG.dn hB⟩⟩ pulled)
   · simp only [bne_eq_false_iff_eq] at h29
     subst h29
     obtain ⟨_,hG21,hcase⟩:=hO21.good (by decide)
     have hR22:=hR21 rfl
     refine sj [.p,.p,.p] Z<|mj Z<|uj Z (Pv.not Z)<|aj Z<|nl<|cj Z (fun h33 => ?_) (fun h33 => ?_)
     · simp only [Bool.not_eq_true'] at h33
       obtain ⟨rfl,_⟩:=hcase.resolve_right (fun ⟨t,_,h⟩=>by rw [h] at h33; cases h33)
       rw [List.append_nil] at hl2
       subst hl2
       refine sj [.p,.p,.p] Z<|mj Z<|aj Z<|aj Z<|nl ?_
       exact Vc.ret (Vc.retsH (hl':=w2++g2) rfl (.cons (.tmp rfl) (.cons (.tmp rfl) .nil)) ⟨_,0,D2,w2,g2,rfl,rfl,hD21,hO21.wz,.inl ⟨rfl,hG.trans hG21,own⟩⟩ pulled)
     · simp only [Bool.not_eq_false'] at h33
       obtain ⟨t,rfl,_⟩:=hcase.resolve_left (fun ⟨_,h⟩=>by rw [h] at h33; cases h33)
       refine tj [.p,.r,.e,.e,.p] Z<|mj Z<|rj Z (Ev.ldA Z Z)<|Rg.bslice1 Z Z Z Z Z Z Z (fun b27 => ?_)
       refine Rg.append Z Z Z Z Z own (Src.one (y:=x) rfl) (by simp<;>omega) (by simp [maxLen]<;>omega) rfl (fun v28 s28 own28 => ?_)
       refine aj Z<|nl<|dj<|dj ?_
       exact Vc.inv7 (acc++[x]) t false D2 g1 g2 (v28,s28) ⟨⟨by rw [←hl2]; simp,hG.trans hG21,hO21.wz,hR22,hD21,own28,fun h=>by cases h⟩,by simp⟩ (.cons rfl (.cons rfl .nil)) pulled
end
end Go.Proofs.YtkpiakgmkpbikaaGreatDoor
namespace Go.Proofs.YtkpiakgmkpbikaaGreatDoor
section
variable {P : Program} {n : Nf} {F : Fm} {l : Env} {hl : Hl} {d : Option Tmp} {ty : TypeId} {pos : String} {af : Array Edge} {g : Option (Nat × Bool)}
theorem Pv.slStr {t:TypeId} {s:ByteArray} {x:Operand} {lo hi:Option Operand} (i j:Nat) [ht:TyUnder P t .string] (hx:ev l x=some (.string s))
 (hlo:match lo with | none=>i=0 | some y=>ev l y=some (.int .i64 (i:Int))) (hhi:match hi with | none=>j=s.size | some y=>ev l y=some (.int .i64 (j:Int))) (hij:i≤j) (hj:j≤s.size) :
 Pv P n l ⟨d,.slice t x lo hi none,ty,pos,af,g⟩ (.string (s.extract i j)):=fun a w hf=>by
 cases lo with
 | none =>
  simp only at hlo; subst hlo
  cases hi with
  | none=>simp only at hhi; subst hhi; simp [execOp,Instr.sliceAt,Instr.slice,Instr.sliceBounds,run_underlying ht.under,hf.ev hx]
  | some y=>simp only at hhi; simp [execOp,Instr.sliceAt,Instr.slice,Instr.sliceBounds,Instr.sliceBound,run_underlying ht.under,hf.ev hx,hf.ev hhi,asIntOf,hj]
 | some z =>
  simp only at hlo
  cases hi with
  | none=>simp only at hhi; subst hhi; simp [execOp,Instr.sliceAt,Instr.slice,Instr.sliceBounds,Instr.sliceBound,run_underlying ht.under,hf.ev hx,hf.ev hlo,asIntOf,hij]
  | some y=>simp only at hhi; simp [execOp,Instr.sliceAt,Instr.slice,Instr.sliceBounds,Instr.sliceBound,run_underlying ht.under,hf.ev hx,hf.ev hhi,hf.ev hlo,asIntOf,hj,hij]
theorem Pv.addS {t t':TypeId} {x y:Operand} {p q:ByteArray} (hx:ev l x=some (.string p)) (hy:ev l y=some (.string q)) (h:p.size+q.size≤9223372036854775807):Pv P n l ⟨d,.binOp .add t x y t',ty,pos,af,g⟩ (.string (p++q)):=fun a w hf=>by
 have : ¬(((p.size+q.size:Nat):Int)>IntKind.i64.max):=by show ¬(_>(9223372036854775807:Int)); omega
 simp [execOp,hf.ev hx,hf.ev hy,eqGuard,binOp,Op.stringOp]
 omega
end
theorem str_app (a b:List UInt8):(⟨a.toArray⟩:ByteArray)++⟨b.toArray⟩=⟨(a++b).toArray⟩:=by
 apply ByteArray.ext
 simp
theorem str_ext (a:List UInt8) (i j:Nat):(⟨a.toArray⟩:ByteArray).extract i j=⟨((a.drop i).take (j-i)).toArray⟩:=by
 apply ByteArray.ext
 simp
theorem str_size (a:List UInt8):(⟨a.toArray⟩:ByteArray).size=a.length:=rfl
section
variable {P : Program} {n : Nf} {l : Env} {d : Option Tmp} {ty : TypeId} {pos : String} {af : Array Edge} {g : Option (Nat × Bool)}
theorem Pv.addK {t t':TypeId} {x y:Operand} {p q:List UInt8} (hx:ev l x=some (kS p)) (hy:ev l y=some (kS q)) (h:p.length+q.length≤9223372036854775807):Pv P n l ⟨d,.binOp .add t x y t',ty,pos,af,g⟩ (kS (p++q)):=by
 have:=Pv.addS (P:=P) (n:=n) (l:=l) (d:=d) (ty:=ty) (pos:=pos) (af:=af) (g:=g) (t:=t) (t':=t') hx hy h
 rwa [str_app] at this
theorem Pv.slK {t:TypeId} {s:List UInt8} {x:Operand} {lo hi:Option Operand} (i j:Nat) [ht:TyUnder P t .string] (hx:ev l x=some (kS s))
 (hlo:match lo with | none=>i=0 | some y=>ev l y=some (.int .i64 (i:Int))) (hhi:match hi with | none=>j=s.length | some y=>ev l y=some (.int .i64 (j:Int))) (hij:i≤j) (hj:j≤s.length) :
 Pv P n l ⟨d,.slice t x lo hi none,ty,pos,af,g⟩ (kS ((s.drop i).take (j-i))):=by
 have:=Pv.slStr (P:=P) (n:=n) (l:=l) (d:=d) (ty:=ty) (pos:=pos) (af:=af) (g:=g) (t:=t) (s:=⟨s.toArray⟩) (lo:=lo) (hi:=hi) i j hx hlo hhi hij hj
 rwa [str_ext] at this
end
def dig (i:Nat):List UInt8:=if i<10 then [UInt8.ofNat (48+i)] else [UInt8.ofNat (48+i / 10),UInt8.ofNat (48+i % 10)]
theorem dig_len (i:Nat):(dig i).length≤2:=by unfold dig; split<;>simp
theorem small_spec {F:Fm} (i:Nat) (hi:i<100):Spec Tryz.prog 123 #[.int .i64 (i:Int)] F [] fun v _=>v=kS (dig i):=by
 refine Spec.of (n:=15) (vs:=[.int .i64 (i:Int)]) Tryz.func123 rfl Tryz.ntmps123 rfl ?_
 refine sj [.p] Z<|aj Z<|nl<|wj<|sj [.p,.p] Z<|mj Z<|uj Z (Pv.lss Z Z)<|nl<|cj Z (fun h4 => ?_) (fun h4 => ?_)
 · simp only [decide_eq_true_eq] at h4
   have hi10:i<10:=by omega
   refine sj [.p,.p,.p,.p,.p] Z<|mj Z<|mj Z<|uj Z (Pv.asI (i+1) (Pv.add rfl rfl (by omega)) (by omega))<|uj Z (Pv.slStr i (i+1) rfl rfl rfl (by omega) (by (show i+1≤36); omega))<|aj Z<|nl<|Vc.ret (Vc.rets Z (.cons (.tmp Z) (.nil)) ?_)
   exact (show Value.string _=kS (dig i) from by
    have key:∀j,j<10→(⟨#[48,49,50,51,52,53,54,55,56,57,97,98,99,100,101,102,103,104,105,106,107,108,109,110,111,112,113,114,115,116,117,118,119,120,121,122]⟩:ByteArray).extract j (j+1)=⟨(dig j).toArray⟩:=by decide +kernel
    exact congrArg Value.string (key i hi10))
 · simp only [decide_eq_false_iff_not] at h4
   have hi10:10≤i:=by omega
   refine kj<|sj [.p,.p,.p,.p,.p,.p,.p] Z<|mj Z<|uj Z (Pv.asI (2*i) (Pv.mul rfl rfl (by omega)) (by omega))<|mj Z<|uj Z (Pv.asI (2*i) (Pv.mul rfl rfl (by omega)) (by omega))<|uj Z (Pv.asI (2*i+2) (Pv.add rfl rfl (by omega)) (by omega))<|uj Z (Pv.slStr (2*i) (2*i+2) rfl rfl rfl (by omega) (by (show 2*i+2≤200); omega))<|aj Z<|nl<|Vc.ret (Vc.rets Z (.cons (.tmp Z) (.nil)) ?_)
   exact (show Value.string (ByteArray.extract _ (2*i) (2*i+2))=kS (dig i) from by
    refine congrArg Value.string ?_
    have key:∀j,j<100→10≤j→(⟨((List.range 100).flatMap fun k=>[UInt8.ofNat (48+k / 10),UInt8.ofNat (48+k % 10)]).toArray⟩:ByteArray).extract (2*j) (2*j+2)=⟨(dig j).toArray⟩:=by decide +kernel
    rw [←key i hi hi10]
    refine congrArg (fun s:ByteArray=>s.extract (2*i) (2*i+2)) ?_
    decide +kernel)
theorem formatInt_spec {F:Fm} (i:Nat) (hi:i<100):Spec Tryz.prog 105 #[.int .i64 (i:Int),.int .i64 10] F [] fun v _=>v=kS (dig i):=by
 refine Spec.of (n:=54) (vs:=[.int .i64 (i:Int),.int .i64 10]) Tryz.func105 rfl Tryz.ntmps105 rfl ?_
 refine sj [.p] Z<|aj Z<|nl<|wj<|sj [.p,.p] Z<|mj Z<|uj Z (Pv.eql Z Z)<|nl<|cj Z (fun h11 => ?_) (fun h11=>absurd h11 (by decide))
 refine wj<|sj [.p,.p,.p,.p,.p,.p] Z<|mj Z<|uj Z (Pv.leq Z Z)<|mj Z<|Rg.split (t:=14) rfl (fun h14 => ?_) (fun h14=>absurd h14 (by (simp only [decide_eq_false_iff_not]; omega)))
 refine mj Z<|uj Z (Pv.lss Z Z)<|qj Z Z<|nl<|cj Z (fun h17 => ?_) (fun h17=>absurd h17 (by (simp only [decide_eq_false_iff_not]; omega)))
 refine sj [.p,.e,.p] Z<|mj Z<|Rg.callP Z Z Z (run_callF Z) (small_spec i hi) ?_
 rintro _ rfl
 refine aj Z<|nl<|Vc.ret (Vc.rets Z (.cons (.tmp Z) (.nil)) ?_)
 rfl
theorem iitoa_spec {F:Fm} (i:Nat) (hi:i<100):Spec Tryz.prog 87 #[.int .i64 (i:Int)] F [] fun v _=>v=kS (dig i):=by
 refine Spec.of (n:=5) (vs:=[.int .i64 (i:Int)]) Tryz.func87 rfl Tryz.ntmps87 rfl ?_
 refine sj [.p] Z<|aj Z<|nl<|sj [.p,.e,.p] Z<|mj Z<|Rg.callP Z Z Z (run_callF Z) (formatInt_spec i hi) ?_
 rintro _ rfl
 refine aj Z<|nl<|Vc.ret (Vc.rets Z (.cons (.tmp Z) (.nil)) ?_)
 rfl
theorem itoa_spec {F:Fm} (i:Nat) (hi:i<100):Spec Tryz.prog 74 #[.int .i64 (i:Int)] F [] fun v _=>v=kS (dig i):=by
 refine Spec.of (n:=5) (vs:=[.int .i64 (i:Int)]) Tryz.func74 rfl Tryz.ntmps74 rfl ?_
 refine sj [.p] Z<|aj Z<|nl<|sj [.p,.e,.p] Z<|mj Z<|Rg.callP Z Z Z (run_callF Z) (iitoa_spec i hi) ?_
 rintro _ rfl
 refine aj Z<|nl<|Vc.ret (Vc.rets Z (.cons (.tmp Z) (.nil)) ?_)
 rfl
theorem iformatUint_spec {F:Fm} (i:Nat) (hi:i<100):Spec Tryz.prog 233 #[.int .u64 (i:Int),.int .i64 10] F [] fun v _=>v=kS (dig i):=by
 refine Spec.of (n:=32) (vs:=[.int .u64 (i:Int),.int .i64 10]) Tryz.func233 rfl Tryz.ntmps233 rfl ?_
 refine sj [.p] Z<|aj Z<|nl<|wj<|sj [.p,.p] Z<|mj Z<|uj Z (Pv.eql Z Z)<|nl<|cj Z (fun h10 => ?_) (fun h10=>absurd h10 (by decide))
 refine wj<|sj [.p,.p] Z<|mj Z<|uj Z (Pv.lss Z Z)<|nl<|cj Z (fun h12 => ?_) (fun h12=>absurd h12 (by (simp only [decide_eq_false_iff_not]; omega)))
 refine sj [.p,.p,.e,.p] Z<|mj Z<|uj Z (Pv.asI i (Pv.convI rfl) (i64_wrap (by omega)))<|Rg.callP Z Z Z (run_callF Z) (small_spec i hi) ?_
 rintro _ rfl
 refine aj Z<|nl<|Vc.ret (Vc.rets Z (.cons (.tmp Z) (.nil)) ?_)
 rfl
theorem formatUint_spec {F:Fm} (i:Nat) (hi:i<100):Spec Tryz.prog 202 #[.int .u64 (i:Int),.int .i64 10] F [] fun v _=>v=kS (dig i):=by
 refine Spec.of (n:=8) (vs:=[.int .u64 (i:Int),.int .i64 10]) Tryz.func202 rfl Tryz.ntmps202 rfl ?_
 refine sj [.p] Z<|aj Z<|nl<|sj [.p,.p,.e,.p] Z<|mj Z<|mj Z<|Rg.callP Z Z Z (run_callF Z) (iformatUint_spec i hi) ?_
 rintro _ rfl
 refine aj Z<|nl<|Vc.ret (Vc.rets Z (.cons (.tmp Z) (.nil)) ?_)
 rfl
theorem hasPrefix_spec {F:Fm} (s p:List UInt8) (hs:s.length<4611686018427387904):Spec Tryz.prog 117 #[kS s,kS p] F [] fun v _=>v=.bool (decide (p <+: s)):=by
 refine Spec.of (n:=18) (vs:=[kS s,kS p]) Tryz.func117 rfl Tryz.ntmps117 rfl ?_
 refine sj [.p] Z<|aj Z<|nl<|sj [.p,.p,.p,.p,.p,.p,.p,.p,.p,.p,.p,.p,.p,.p] Z<|mj Z<|uj Z (Pv.lenStr Z)<|mj Z<|uj Z (Pv.lenStr Z)<|uj Z (Pv.geq Z Z)<|mj Z<|Rg.split (t:=10) Z (fun h10 => ?_) (fun h10 => ?_)
 · simp only [decide_eq_true_eq,str_size] at h10
   refine mj Z<|mj Z<|uj Z (Pv.lenStr Z)<|uj Z (Pv.slK 0 p.length rfl rfl rfl (Nat.zero_le _) (by omega))<|mj Z<|uj Z (Pv.eqlS Z Z)<|qj Z Z<|aj Z<|nl<|Vc.ret (Vc.rets Z (.cons (.tmp Z) (.nil)) ?_)
   exact congrArg Value.bool (by
    rw [Bool.eq_iff_iff,decide_eq_true_eq,decide_eq_true_eq,kS_ne,List.drop_zero,Nat.sub_zero,List.prefix_iff_eq_take,eq_comm])
 · simp only [decide_eq_false_iff_not,str_size] at h10
   iterate 6 (first | refine Rg.skipP rfl rfl rfl ?_ | refine Rg.skipR rfl rfl rfl ?_ | refine Rg.skipE rfl rfl rfl ?_)
   refine pj Z Z<|aj Z<|nl<|Vc.ret (Vc.rets Z (.cons (.tmp Z) (.nil)) ?_)
   exact congrArg Value.bool (by
    rw [eq_comm,decide_eq_false_iff_not]
    intro h
    have:=h.length_le
    omega)
theorem icutPrefix_spec {F:Fm} (s p:List UInt8) (hs:s.length<4611686018427387904):Spec Tryz.prog 102 #[kS s,kS p] F [] fun v _=>v=.tuple #[kS (if p <+: s then s.drop p.length else s),.bool (decide (p <+: s))]:=by
 refine Spec.of (n:=15) (vs:=[kS s,kS p]) Tryz.func102 rfl Tryz.ntmps102 rfl ?_
 refine sj [.p,.p] Z<|aj Z<|aj Z<|nl<|wj<|sj [.p,.p,.e,.p] Z<|mj Z<|mj Z<|Rg.callP Z Z Z (run_callF Z) (hasPrefix_spec s p hs) ?_
 rintro _ rfl
 refine uj Z (Pv.not Z)<|nl<|cj Z (fun h9 => ?_) (fun h9 => ?_)
 · simp only [Bool.not_eq_true',decide_eq_false_iff_not] at h9
   refine sj [.p,.p,.p] Z<|mj Z<|aj Z<|aj Z<|nl<|Vc.ret (Vc.rets Z (.cons (.tmp Z) (.cons (.tmp Z) (.nil))) ?_)
   rw [if_neg h9,decide_eq_false h9]
   rfl
 · simp only [Bool.not_eq_false',decide_eq_true_eq] at h9
   have hple:=h9.length_le
   refine kj<|sj [.p,.p,.p,.p,.p,.p] Z<|mj Z<|mj Z<|uj Z (Pv.lenStr Z)<|uj Z (Pv.slK p.length s.length Z Z Z hple (Nat.le_refl _))<|aj Z<|aj Z<|nl<|Vc.ret (Vc.rets Z (.cons (.tmp Z) (.cons (.tmp Z) (.nil))) ?_)
   rw [if_pos h9,decide_eq_true h9,List.take_of_length_le (by rw [List.length_drop]; omega)]
   rfl
theorem cutPrefix_spec {F:Fm} (s p:List UInt8) (hs:s.length<4611686018427387904):Spec Tryz.prog 80 #[kS s,kS p] F [] fun v _=>v=.tuple #[kS (if p <+: s then s.drop p.length else s),.bool (decide (p <+: s))]:=by
 refine Spec.of (n:=11) (vs:=[kS s,kS p]) Tryz.func80 rfl Tryz.ntmps80 rfl ?_
 refine sj [.p,.p] Z<|aj Z<|aj Z<|nl<|sj [.p,.p,.e,.p,.p,.p,.p] Z<|mj Z<|mj Z<|Rg.callP Z Z Z (run_callF Z) (icutPrefix_spec s p hs) ?_
 rintro _ rfl
 refine xj Z Z<|xj Z Z<|aj Z<|aj Z<|nl<|Vc.ret (Vc.rets Z (.cons (.tmp Z) (.cons (.tmp Z) (.nil))) ?_)
 rfl
end Go.Proofs.YtkpiakgmkpbikaaGreatDoor
namespace Go.Proofs.YtkpiakgmkpbikaaGreatDoor
def intE:Enc Int where
 k:=1
 tid:=3
 cells:=fun a=>[.int .i64 a]
 val:=fun a=>.int .i64 a
 pos:=by decide
 len:=fun _=>rfl
 one:=fun x v hv=>by simp at hv; subst hv; rfl
 vc:=fun _=>rfl
instance:RowTy Tryz.prog intE 3:=⟨Tryz.sizeOf3,.inr ⟨Tryz.isAgg3,rfl,fun _=>rfl⟩⟩
instance:TySl Tryz.prog 45 intE 8:=⟨Tryz.underlying45,Tryz.t3,.int .i64 0,by kernel_rfl,by kernel_rfl,rfl,rfl,rfl⟩
instance:TyZero Tryz.prog intE.tid (intE.val 0):=inferInstanceAs (TyZero Tryz.prog 3 (.int .i64 0))
def bnd (n sh i:Nat):Nat:=i*n / sh
def bndL (n sh:Nat):List Int:=(List.range (sh+1)).map fun i=>((bnd n sh i:Nat):Int)
theorem bnd_mono {n sh i j:Nat} (h:i≤j):bnd n sh i≤bnd n sh j:=Nat.div_le_div_right (Nat.mul_le_mul_right _ h)
theorem bnd_top {n sh:Nat} (h:0<sh):bnd n sh sh=n:=by unfold bnd; rw [Nat.mul_div_cancel_left _ h]
theorem bnd_zero (n sh:Nat):bnd n sh 0=0:=by unfold bnd; rw [Nat.zero_mul,Nat.zero_div]
theorem mul_small {i n:Nat} (hi:i≤4096) (hn:n≤1048576):i*n≤4294967296:=by
 have:=Nat.mul_le_mul hi hn
 omega
theorem pright_spec {F:Fm} (n sh:Nat) (hn:n≤1048576) (h1:1≤sh) (h2:sh≤4096):Spec Tryz.prog 149 #[.int .i64 (n:Int),.int .i64 (sh:Int)] F [] fun v _=>v=.bool true:=by
 refine Spec.of (n:=19) (vs:=[.int .i64 (n:Int),.int .i64 (sh:Int)]) Tryz.func149 rfl Tryz.ntmps149 rfl ?_
 refine sj [.p] Z<|aj Z<|nl<|sj [.p,.p,.p,.p,.p,.p,.p,.p,.p,.p,.p,.p,.p,.p,.p] Z<|mj Z<|uj Z (Pv.geq Z Z)<|mj Z<|Rg.split (t:=7) rfl (fun h7 => ?_) (fun h7=>absurd h7 (by (simp only [decide_eq_false_iff_not]; omega)))
 refine mj Z<|uj Z (Pv.leq Z Z)<|qj Z Z<|mj Z<|Rg.split (t:=11) rfl (fun h11 => ?_) (fun h11=>absurd h11 (by (simp only [decide_eq_false_iff_not]; omega)))
 refine mj Z<|uj Z (Pv.geq Z Z)<|qj Z Z<|mj Z<|Rg.split (t:=15) rfl (fun h15 => ?_) (fun h15=>absurd h15 (by (simp only [decide_eq_false_iff_not]; omega)))
 refine mj Z<|uj Z (Pv.leq Z Z)<|qj Z Z<|aj Z<|nl<|Vc.ret (Vc.rets Z (.cons (.tmp Z) (.nil)) ?_)
 exact congrArg Value.bool (by rw [decide_eq_true_eq]; omega)
theorem bound_spec {F:Fm} (n sh i:Nat) (hn:n≤1048576) (h1:1≤sh) (hi:i≤4096):Spec Tryz.prog 150 #[.int .i64 (n:Int),.int .i64 (sh:Int),.int .i64 (i:Int)] F [] fun v _=>v=.int .i64 ((bnd n sh i:Nat):Int):=by
 have hm:=mul_small hi hn
 obtain ⟨m,hmm⟩:∃m,m=i*n:=⟨_,rfl⟩
 have hmi:(i:Int)*(n:Int)=(m:Int):=by rw [hmm]; exact (Int.natCast_mul i n).symm
 rw [←hmm] at hm
 refine Spec.of (n:=12) (vs:=[.int .i64 (n:Int),.int .i64 (sh:Int),.int .i64 (i:Int)]) Tryz.func150 rfl Tryz.ntmps150 rfl ?_
 refine sj [.p] Z<|aj Z<|nl<|sj [.p,.p,.p,.p,.p,.p] Z<|mj Z<|mj Z<|uj Z (Pv.asI m (Pv.mul rfl rfl (by rw [hmi]; omega)) hmi)<|mj Z<|uj Z (Pv.asI (bnd n sh i) (Pv.quo rfl rfl (by omega)) (by unfold bnd; rw [←hmm]; exact (Int.natCast_ediv m sh).symm))<|aj Z<|nl<|Vc.ret (Vc.rets Z (.cons (.tmp Z) (.nil)) ?_)
 rfl
theorem bndL_len (n sh:Nat):(bndL n sh).length=sh+1:=by simp [bndL]
theorem bndL_get {n sh i:Nat} (h:i≤sh):(bndL n sh)[i]! = ((bnd n sh i:Nat):Int):=by
 rw [getElem!_pos (bndL n sh) i (by rw [bndL_len]; omega)]
 simp [bndL]
set_option maxHeartbeats 1000000 in
theorem bounds_spec {F:Fm} (n sh:Nat) (hn:n≤1048576) (h1:1≤sh) (h2:sh≤4095):Spec Tryz.prog 142 #[.int .i64 (n:Int),.int .i64 (sh:Int)] F [] fun v s=>∃u,v=.tuple #[u,.int .i64 0]∧Own intE u (bndL n sh) s:=by
 refine Spec.of (n:=29) (vs:=[.int .i64 (n:Int),.int .i64 (sh:Int)]) Tryz.func142 rfl Tryz.ntmps142 rfl ?_
 refine sj [.p,.p] Z<|aj Z<|aj Z<|nl<|wj<|sj [.p,.p,.e,.p] Z<|mj Z<|mj Z<|Rg.callP Z Z Z (run_callF rfl) (pright_spec n sh hn h1 (by omega)) ?_
 rintro _ rfl
 refine uj Z (Pv.not Z)<|nl<|cj Z (fun h11=>absurd h11 (by decide)) (fun h11 => ?_)
 refine kj<|sj [.p,.p,.e,.p] Z<|mj Z<|uj Z (Pv.asI (sh+1) (Pv.add rfl rfl (by omega)) (by omega))<|Rg.makeN intE 0 (m:=sh+1) rfl rfl rfl rfl rfl ⟨by omega,by (show sh+1≤9223372036854775807); omega⟩ (fun b14 own14 => ?_)
 refine aj Z<|nl<|wj<|sj [.p,.p,.p] Z<|mj Z<|uj Z (Pv.lenS Z)<|mj Z<|nl<|bj ?_
 refine Vc.loop2 (fun (k:Nat) (ys:List Int)=>k≤sh+1∧ys.length=sh+1∧(∀j,j<k→ys[j]! = ((bnd n sh j:Nat):Int))) (fun k ys=>[(0,.int .i64 (n:Int)),(1,.int .i64 (sh:Int)),(6,.slice (some ⟨b14,0,none⟩) (sh+1) (sh+1)),(16,.int .i64 ((sh+1:Nat):Int)),(17,.int .i64 (k:Int))]) (fun k ys=>[(b14,rowS intE ys [])]) (fun k ys=>sh+1-k) 0 (List.replicate (sh+1) 0) ⟨Nat.zero_le _,by simp,fun j hj=>by omega⟩ (.cons rfl (.cons rfl (.cons rfl (.cons rfl (.cons rfl .nil))))) pulled ?_
 rintro k ys ⟨hk,hyl,hys⟩
 refine sj [.p] Z<|uj Z (Pv.lss Z Z)<|nl<|wj<|cj Z (fun h18 => ?_) (fun h18 => ?_)
 · simp only [decide_eq_true_eq] at h18
   refine kj<|wj<|bj<|sj [.p,.p] Z<|mj Z<|aj Z<|nl<|tj [.p,.p,.p,.p,.p,.e,.p,.e] Z<|mj Z<|mj Z<|mj Z<|mj Z<|mj Z<|Rg.callP Z Z Z (run_callF rfl) (bound_spec n sh k hn h1 (by omega)) ?_
   rintro _ rfl
   refine uj Z (Pv.ixA (k) rfl rfl (by omega) (by omega))<|Rg.storeR (E:=intE) (z:=((bnd n sh k:Nat):Int)) k rfl rfl rfl rfl rfl rfl (Nat.zero_add _) (by omega) rfl<|nl<|dj<|tj [.p,.p] Z<|uj Z (Pv.asI (k+1) (Pv.add rfl rfl (by omega)) (by omega))<|mj Z<|nl ?_
   exact Vc.inv2 (k+1) (ys.set k ((bnd n sh k:Nat):Int)) ⟨⟨by omega,by rw [List.length_set,hyl],fun j hj=>by
    by_cases e:j=k
    · subst e; rw [getElem!_pos (ys.set j _) j (by rw [List.length_set]; omega),List.getElem_set_self]
    · rw [getElem!_pos (ys.set k _) j (by rw [List.length_set]; omega),List.getElem_set_ne (fun h=>e h.symm),←getElem!_pos ys j (by omega)]
      exact hys j (by omega)⟩,by omega⟩ (.cons rfl (.cons rfl (.cons rfl (.cons rfl (.cons rfl .nil))))) pulled
 · simp only [decide_eq_false_iff_not] at h18
   obtain rfl:ys=bndL n sh:=by
    refine List.ext_getElem (by rw [hyl,bndL_len]) fun i h1 h2 => ?_
    have:=hys i (by omega)
    rw [getElem!_pos ys i h1] at this
    have h3:=bndL_get (n:=n) (sh:=sh) (i:=i) (by omega)
    rw [getElem!_pos (bndL n sh) i h2] at h3
    rw [this,h3]
   refine Vc.exit Z<|sj [.p,.p,.p] Z<|mj Z<|aj Z<|aj Z<|nl ?_
   exact Vc.ret (Vc.retsH rfl (.cons (.tmp rfl) (.cons (.tmp rfl) (.nil))) (⟨_,rfl,Own.blk' b14 (sh+1) (sh+1) _ [] (by rw [bndL_len]) (by simp [intE]) (by (show sh+1≤9223372036854775807); omega)⟩) pulled)
def ofN (n sh v:Nat):Nat:=((List.range sh).find? fun i=>decide (v<bnd n sh (i+1))).getD sh
theorem ofN_spec {n sh v r:Nat} (h0:0<sh) (hv:v<n) (hr:r≤sh) (hlt:∀k,k<r→¬v<bnd n sh (k+1)) (hge:∀k,r≤k→k<sh→v<bnd n sh (k+1)):r=ofN n sh v∧r<sh∧bnd n sh r≤v∧v<bnd n sh (r+1):=by
 have hrs:r<sh:=by
  rcases Nat.lt_or_ge r sh with h | h
  · exact h
  · have:=hlt (sh-1) (by omega)
    rw [show sh-1+1=sh by omega,bnd_top h0] at this
    omega
 refine ⟨?_,hrs,?_,hge r (Nat.le_refl _) hrs⟩
 · unfold ofN
   have h1:(List.range sh).find? (fun i=>decide (v<bnd n sh (i+1)))=some r:=by
    rw [List.find?_range_eq_some]
    refine ⟨by simpa using hge r (Nat.le_refl _) hrs,by simpa using hrs,fun j hj=>by simpa using hlt j hj⟩
   rw [h1]; rfl
 · rcases Nat.eq_zero_or_pos r with h | h
   · rw [h,bnd_zero]; omega
   · have:=hlt (r-1) (by omega)
     rw [show r-1+1=r by omega] at this
     omega
theorem of1_spec {F:Fm} {b3 b4 b5:Nat} (n sh v i:Nat) (hn:n≤1048576) (h1:1≤sh) (h2:sh≤4095) (hi:i<sh) (f3:F.at_ b3 (cellsO [.int .i64 (n:Int)] 3)) (f4:F.at_ b4 (cellsO [.int .i64 (sh:Int)] 3)) (f5:F.at_ b5 (cellsO [.int .i64 (v:Int)] 3)) :
 Spec Tryz.prog 245 #[.int .i64 (i:Int),.pointer (some ⟨b3,0,none⟩),.pointer (some ⟨b4,0,none⟩),.pointer (some ⟨b5,0,none⟩)] F [] fun u _=>u=.bool (decide (v<bnd n sh (i+1))):=by
 have:Fat F b3 (cellsO [.int .i64 (n:Int)] 3):=⟨f3⟩
 have:Fat F b4 (cellsO [.int .i64 (sh:Int)] 3):=⟨f4⟩
 have:Fat F b5 (cellsO [.int .i64 (v:Int)] 3):=⟨f5⟩
 refine Spec.of (n:=13) (vs:=[.int .i64 (i:Int),.pointer (some ⟨b3,0,none⟩),.pointer (some ⟨b4,0,none⟩),.pointer (some ⟨b5,0,none⟩)]) Tryz.func245 rfl Tryz.ntmps245 rfl ?_
 refine sj [.p] Z<|aj Z<|nl<|wj ?_
 refine Vc.draw [] (sd [(0,.read),(1,.read),(2,.pure),(3,.pure),(5,.read),(4,.eff),(6,.pure),(7,.pure)]) mixed (by kernel_rfl)<|lj Z Z<|lj Z Z<|mj Z<|uj Z (Pv.asI (i+1) (Pv.add rfl rfl (by omega)) (by omega))<|lj Z Z<|Rg.callP Z Z Z (run_callF rfl) (bound_spec n sh (i+1) hn h1 (by omega)) ?_
 rintro _ rfl
 refine uj Z (Pv.gtr Z Z)<|aj Z<|nl<|Vc.ret (Vc.rets Z (.cons (.tmp Z) (.nil)) ?_)
 exact congrArg Value.bool (by rw [Bool.eq_iff_iff,decide_eq_true_eq,decide_eq_true_eq]; omega)
set_option maxHeartbeats 1000000 in
theorem search_spec {F:Fm} {b3 b4 b5:Nat} (n sh v:Nat) (hn:n≤1048576) (h1:1≤sh) (h2:sh≤4095) (f3:F.at_ b3 (cellsO [.int .i64 (n:Int)] 3)) (f4:F.at_ b4 (cellsO [.int .i64 (sh:Int)] 3)) (f5:F.at_ b5 (cellsO [.int .i64 (v:Int)] 3)) :
 Spec Tryz.prog 244 #[.int .i64 (sh:Int),.func (.func 245) #[] #[.pointer (some ⟨b3,0,none⟩),.pointer (some ⟨b4,0,none⟩),.pointer (some ⟨b5,0,none⟩)]] F [] fun u _=>∃r:Nat,u=.int .i64 (r:Int)∧r≤sh∧(∀k,k<r→¬v<bnd n sh (k+1))∧∀k,r≤k→k<sh→v<bnd n sh (k+1):=by
 refine Spec.of (n:=26) (vs:=[.int .i64 (sh:Int),.func (.func 245) #[] #[.pointer (some ⟨b3,0,none⟩),.pointer (some ⟨b4,0,none⟩),.pointer (some ⟨b5,0,none⟩)]]) Tryz.func244 rfl Tryz.ntmps244 rfl ?_
 refine sj [.p] Z<|aj Z<|nl<|sj [.p,.p,.p] Z<|mj Z<|aj Z<|aj Z<|nl<|wj<|bj ?_
 refine Vc.loop2 (fun (i j:Nat)=>i≤j∧j≤sh∧(∀k,k<i→¬v<bnd n sh (k+1))∧∀k,j≤k→k<sh→v<bnd n sh (k+1)) (fun i j=>[(1,.func (.func 245) #[] #[.pointer (some ⟨b3,0,none⟩),.pointer (some ⟨b4,0,none⟩),.pointer (some ⟨b5,0,none⟩)]),(5,.int .i64 (i:Int)),(6,.int .i64 (j:Int))]) (fun i j=>[]) (fun i j=>j-i) 0 sh ⟨Nat.zero_le _,Nat.le_refl _,fun k hk=>by omega,fun k hk hk2=>by omega⟩ (.cons rfl (.cons rfl (.cons rfl .nil))) pulled ?_
 rintro i j ⟨hij,hj,hlo,hhi⟩
 refine wj<|sj [.p,.p,.p] Z<|mj Z<|mj Z<|uj Z (Pv.lss Z Z)<|nl<|cj Z (fun h11 => ?_) (fun h11 => ?_)
 · simp only [decide_eq_true_eq] at h11
   obtain ⟨m,hm⟩:∃m,m=(i+j) / 2:=⟨_,rfl⟩
   refine kj<|bj<|sj [.p,.p,.p,.p,.p,.p,.p] Z<|mj Z<|mj Z<|uj Z (Pv.asI (i+j) (Pv.add rfl rfl (by omega)) (by omega))<|uj Z (Pv.asI (i+j) (Pv.convI rfl) (wrap_ult rfl (by show i+j<2 ^ 64; omega)))<|uj Z (Pv.asI m (Pv.shrN (i+j) 1 rfl rfl (by decide)) (by rw [hm,Nat.pow_one]))<|uj Z (Pv.asI m (Pv.convI rfl) (i64_wrap (by omega)))<|aj Z<|nl<|sj [.p,.p,.e,.p] Z<|mj Z<|mj Z<|Rg.callP Z Z Z (run_callV rfl rfl) (of1_spec n sh v m hn h1 h2 (by omega) (.inr f3) (.inr f4) (.inr f5)) ?_
   rintro _ rfl
   refine uj Z (Pv.not Z)<|nl<|cj Z (fun h21 => ?_) (fun h21 => ?_)
   · simp only [Bool.not_eq_true',decide_eq_false_iff_not] at h21
     refine tj [.p,.p,.p] Z<|mj Z<|uj Z (Pv.asI (m+1) (Pv.add rfl rfl (by omega)) (by omega))<|aj Z<|nl<|dj ?_
     exact Vc.inv2 (m+1) j ⟨⟨by omega,hj,fun k hk hv=>by
      have:=bnd_mono (n:=n) (sh:=sh) (show k+1≤m+1 by omega)
      omega,hhi⟩,by omega⟩ (.cons rfl (.cons rfl (.cons rfl .nil))) pulled
   · simp only [Bool.not_eq_false',decide_eq_true_eq] at h21
     refine tj [.p,.p] Z<|mj Z<|aj Z<|nl<|dj ?_
     exact Vc.inv2 i m ⟨⟨by omega,by omega,hlo,fun k hk hk2=>by
      have:=bnd_mono (n:=n) (sh:=sh) (show m+1≤k+1 by omega)
      omega⟩,by omega⟩ (.cons rfl (.cons rfl (.cons rfl .nil))) pulled
 · simp only [decide_eq_false_iff_not] at h11
   obtain rfl:i=j:=by omega
   refine Vc.exit Z<|sj [.p,.p] Z<|mj Z<|aj Z<|nl<|Vc.ret (Vc.rets Z (.cons (.tmp Z) (.nil)) ?_)
   exact ⟨i,rfl,hj,hlo,hhi⟩
theorem of_spec {F:Fm} (n sh v:Nat) (hn:n≤1048576) (h1:1≤sh) (h2:sh≤4095) (hv:v<n):Spec Tryz.prog 217 #[.int .i64 (n:Int),.int .i64 (sh:Int),.int .i64 (v:Int)] F [] fun u _=>u=.tuple #[.int .i64 ((ofN n sh v:Nat):Int),.int .i64 0]:=by
 refine Spec.of (n:=24) (vs:=[.int .i64 (n:Int),.int .i64 (sh:Int),.int .i64 (v:Int)]) Tryz.func217 rfl Tryz.ntmps217 rfl ?_
 refine sj [.e,.e,.e,.p,.p] Z<|Rg.box Z Z Z Z Z (fun b3 => ?_)
 refine Rg.box Z Z Z Z Z (fun b4 => ?_)
 refine Rg.box Z Z Z Z Z (fun b5 => ?_)
 refine aj Z<|aj Z<|nl<|wj<|sj [.r,.r,.e,.p,.p,.r,.p,.p,.p,.r,.r,.p,.p] Z<|lj Z Z<|lj Z Z<|Rg.callP Z Z Z (run_callF rfl) (pright_spec n sh hn h1 (by omega)) ?_
 rintro _ rfl
 refine uj Z (Pv.not Z)<|mj Z<|Rg.split (t:=12) rfl (fun h12=>absurd h12 (by decide)) (fun h12 => ?_)
 refine lj Z Z<|uj Z (Pv.lss Z Z)<|pj Z Z<|mj Z<|Rg.split (t:=16) rfl (fun h16=>absurd h16 (by (simp only [decide_eq_true_eq]; omega))) (fun h16 => ?_)
 refine lj Z Z<|lj Z Z<|uj Z (Pv.geq Z Z)<|pj Z Z<|nl<|cj Z (fun h20=>absurd h20 (by (simp only [decide_eq_true_eq]; omega))) (fun h20 => ?_)
 refine kj<|sj [.r,.p,.e,.p,.p] Z<|lj Z Z<|uj Z (Pv.mkF Z Z)<|Rg.callP Z Z Z (run_callF rfl) (search_spec n sh v hn h1 h2 (.inl (by simp)) (.inl (by simp)) (.inl (by simp))) ?_
 rintro _ ⟨r,rfl,hr,hlt,hge⟩
 obtain ⟨rfl,_⟩:=ofN_spec (by omega) hv hr hlt hge
 refine aj Z<|aj Z<|nl<|Vc.ret (Vc.rets Z (.cons (.tmp Z) (.cons (.tmp Z) (.nil))) ?_)
 rfl
end Go.Proofs.YtkpiakgmkpbikaaGreatDoor
