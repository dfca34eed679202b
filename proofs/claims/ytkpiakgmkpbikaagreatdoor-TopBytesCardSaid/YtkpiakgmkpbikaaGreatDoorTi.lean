/- Steps of the proof. -/
import Derived.Test.YtkpiakgmkpbikaaGreatDoorTg
import Derived.Test.YtkpiakgmkpbikaaGreatDoorTz
set_option linter.unusedVariables false
namespace Go.Proofs.YtkpiakgmkpbikaaGreatDoor
theorem namesF_append (a b:List (Nat×List Rc)):namesF (a++b)=namesF a++namesF b:=by simp [namesF]
theorem recsF_append (a b:List (Nat×List Rc)):recsF (a++b)=recsF a++recsF b:=by simp [recsF]
theorem namesF_mem {a:List (Nat×List Rc)} {x:Nm} (h:x∈namesF a):∃p∈a,x=runN p.1:=by
 obtain ⟨p,hp,rfl⟩:=List.mem_map.1 h
 exact ⟨p,hp,rfl⟩
theorem RunsAt.drop {D D':Dk} {a b:List (Nat×List Rc)} (h:RunsAt D (a++b)) (hG:Gd (fun k=>k∈namesF a) D D') (hno:∀x∈namesF a,findF D'.files x=none):RunsAt D' b where
 has:=fun p hp=>by
  have hp':p∈a++b:=List.mem_append_right _ hp
  rw [hG.same _ fun hx=>by
   obtain ⟨q,hq,e⟩:=namesF_mem hx
   have he:=runN_inj (h.lt p hp').2 (h.lt q (List.mem_append_left _ hq)).2 e
   have hn:=h.nodup
   rw [List.map_append,List.nodup_append] at hn
   exact hn.2.2 q.1 (List.mem_map.2 ⟨q,hq,rfl⟩) p.1 (List.mem_map.2 ⟨p,hp,rfl⟩) he.symm]
  exact h.has p hp'
 non:=fun k h1 h2 hk=>by
  by_cases hx:runN k∈namesF a
  · exact hno _ hx
  · rw [hG.same _ hx]
    refine h.non k h1 h2 ?_
    rw [List.map_append,List.mem_append,not_or]
    exact ⟨fun hm=>by obtain ⟨p,hp,e⟩:=List.mem_map.1 hm;exact hx (List.mem_map.2 ⟨p,hp,by rw [e]⟩),hk⟩
 nodup:=by
  have hn:=h.nodup
  rw [List.map_append,List.nodup_append] at hn
  exact hn.2.1
 lt:=fun p hp=>h.lt p (List.mem_append_right _ hp)
structure AllS where
 fs:List (Nat×List Rc)
 nx:Nat
 m:Nat
 D:Dk
 nv:Value
 s1:Hl
 s6:Hl
 sd:Hl
structure AllI (C:Cx) (db sb:Nat) (l:List Rc) (K:Nat) (D:Dk) (X:AllS):Prop where
 runs:RunsAt X.D X.fs
 all:(recsF X.fs).Perm l
 up:∀p∈X.fs,Rises p.2
 le:∀p∈X.fs,p.1≤X.nx
 cnt:X.nx+2*X.fs.length≤K+2
 sorter:SrAt sb db X.nx X.m X.s1
 m:X.m≤X.nx
 on:Own strE X.nv (namesF X.fs) X.s6
 dk:DiskAt db X.D X.sd
 wz:Wz C X.D
 gd:Gd RunT D X.D
structure AllR (C:Cx) (db sb:Nat) (l:List Rc) (D:Dk) (X:AllS) (i:Nat) (Y:AllS):Prop where
 runs:RunsAt Y.D (X.fs.drop (i*4)++Y.fs)
 all:(recsF (X.fs.drop (i*4)++Y.fs)).Perm l
 up:∀p∈Y.fs,Rises p.2
 le:∀p∈Y.fs,p.1≤Y.nx
 nx:Y.nx=X.nx+i
 len:Y.fs.length=i
 sorter:SrAt sb db Y.nx Y.m Y.s1
 m:Y.m≤Y.nx
 on:Own strE Y.nv (namesF Y.fs) Y.s6
 dk:DiskAt db Y.D Y.sd
 wz:Wz C Y.D
 gd:Gd RunT D Y.D
theorem drop_part {α:Type} (xs:List α) (i:Nat):xs.drop (i*4)=chunkLS 4 xs i++xs.drop ((i+1)*4):=by
 rw [chunkLS,show (i+1)*4=i*4+4 by omega,←List.drop_drop]
 by_cases h:4≤xs.length-i*4
 · rw [Nat.min_eq_left h,List.take_append_drop]
 · rw [Nat.min_eq_right (by omega),List.take_of_length_le (by rw [List.length_drop];exact Nat.le_refl _),List.drop_of_length_le (l:=xs.drop (i*4)) (by rw [List.length_drop];omega),List.append_nil]
theorem namesF_part (fs:List (Nat×List Rc)) (i:Nat):chunkLS 4 (namesF fs) i=namesF (chunkLS 4 fs i):=by
 simp only [chunkLS,namesF,List.length_map,List.map_take,List.map_drop]
section
variable {F : Fm} {sb db rb nx m : Nat} {C : Cx} {D : Dk} {s1 s2 sr : Hl} {nm : Nm}
set_option maxHeartbeats 8000000 in
theorem all_z (hC:C.Ok) (hS:SrAt sb db 0 0 s1) (hD:DiskAt db D s2) (hw:Wz C D) (hup:D.down=false) {l:List Rc} {fresh:Bool} (hR:RdT rb db nm l fresh sr) (hfr:∃f,findF D.files nm=some f∧f.now=fileB l) (hnm : ¬RunT nm) (hI:InRs l) (hl:l.length<50) (hcap:16*l.length+6≤C.cap)
 {B:Nat} (hB:1≤B) (hB2:B<1000) {K:Nat} (hK:3*nc B l.length≤K+2) (hK2:K<100) (hk:∀k,1≤k→k≤K→runN k∈C.S) (hno:∀k,1≤k→k<100→findF D.files (runN k)=none) {out:Nm} (ho:out∈C.S) (hor : ¬RunT out) (hon:findF D.files out=none) :
 Spec Tryz.prog 223 #[.pointer (some ⟨sb,0,none⟩),.pointer (some ⟨rb,0,none⟩),kS out,.int .i64 (B:Int)] F (s1++(sr++s2)) fun v s'=>∃pv e D' nx mm q1 q2,v=.tuple #[.int .i64 pv,.int .i64 e]∧s'=q1++q2∧SrAt sb db nx mm q1∧mm≤300∧DiskAt db D' q2 ∧
  Out C (fun x=>RunT x∨x=out) (fun D'=>findF D'.files out=some ⟨fileB (sortL l),fileB (sortL l)⟩∧∀k,1≤k→k<100→findF D'.files (runN k)=none) D 0 e D':=by
 have hncl:nc B l.length≤l.length:=nc_le hB
 refine Spec.of (n:=100) (vs:=[.pointer (some ⟨sb,0,none⟩),.pointer (some ⟨rb,0,none⟩),kS out,.int .i64 (B:Int)]) Tryz.func223 rfl Tryz.ntmps223 rfl ?_
 refine sj [.e,.e,.e] Z<|Rg.box Z Z Z Z Z (fun b4=>?_)
 refine Rg.alloc Z Z Z Z (fun b8=>?_)
 refine Rg.alloc Z Z Z Z (fun b9=>?_)
 refine nl<|sj [.r,.p,.p,.e,.p,.p,.p,.p,.p,.p,.e] Z<|lj Z Z<|mj Z<|mj Z<|Rg.callH Z Z Z (mz Z) (fun F' hF'=>cut_z (F:=F') hC hS hD hw hup hR hfr hnm hI hl hcap hB hB2 (K:=K) (by omega) hK2 hk hno) rfl ?_
 rintro _ _ ⟨nv0,n0,e0,D0,r0,m0,q1,q6,q2,rfl,rfl,hS0,hm0,hD0,hnv0,hO0⟩
 rw [lx,lx]
 refine mj Z<|xj Z Z<|xj Z Z<|xj Z Z<|aj Z<|aj Z<|Rg.store Z Z Z Z Z Z Z Z<|nl<|wj<|sj [.r,.p] Z<|lj Z Z<|uj Z (Pv.neq Z Z)<|nl<|cj Z (fun h27=>?_) (fun h27=>?_)
 · simp only [bne_iff_ne,ne_eq] at h27
   obtain ⟨he7,hB7⟩:=hO0.bad h27
   refine wj ?_
   refine Vc.drawS [2] (sd [(0,.read),(1,.eff),(2,.eff)]) [(b9,cellsO [.int .i64 e0] 35)] pulled mixed (by kernel_rfl)<|lj Z Z<|Rg.storeN Z Z Z Z Z Z Z<|Rg.store Z Z Z Z Z Z Z Z<|nl ?_
   exact vr (hl':=q1++q2) rfl (.cons (.cell1 rfl rfl) (.cons (.cell1 rfl rfl) .nil)) ⟨0,e0,D0,r0,m0,q1,q2,rfl,rfl,hS0,by omega,hD0,hO0.wz,.inr ⟨he7,hB7.mono fun x hx=>.inl hx⟩⟩ pulled
 · simp only [bne_eq_false_iff_eq] at h27
   subst h27
   obtain ⟨_,hG0,fs0,hall0,hup0,hids0,hr0,hmr0,hrun0,own0,hn0⟩:=hO0.good (by decide)
   subst hmr0
   subst hn0
   have hl0:fs0.length=m0:=by have:=congrArg List.length hids0;simpa using this
   have hX0:AllI C db sb l K D ⟨fs0,m0,m0,D0,nv0,q1,q6,q2⟩:=⟨hrun0,hall0,hup0,fun p hp=>by
    have:p.1∈List.range' 1 m0:=by rw [←hids0];exact List.mem_map.2 ⟨p,hp,rfl⟩
    rw [List.mem_range'_1] at this
    simp only;omega,by simp only;omega,hS0,Nat.le_refl _,own0,hD0,hO0.wz,hG0⟩
   refine kj<|wj<|bj ?_
   refine Vc.loopD (fun (X:AllS)=>AllI C db sb l K D X) (fun X=>[(10,X.nv),(2,kS out),(3,.int .i64 (B:Int)),(4,.pointer (some ⟨b4,0,none⟩)),(8,.pointer (some ⟨b8,0,none⟩)),(9,.pointer (some ⟨b9,0,none⟩)),(11,.int .i64 (l.length:Int))]) (fun X=>(b4,cellsO [.pointer (some ⟨sb,0,none⟩)] 311)::(b8,cellsO [.int .i64 0] 3)::(b9,cellsO [.int .i64 0] 35)::(X.s1++(X.s6++X.sd))) (fun X=>X.fs.length) ⟨fs0,m0,m0,D0,nv0,q1,q6,q2⟩ Z hX0 (.cons Z (.cons Z (.cons Z (.cons Z (.cons Z (.cons Z (.cons Z .nil))))))) pulled ?_
   clear hX0 hS0 hD0 hO0 hG0 hall0 hup0 hids0 hrun0 own0 hnv0
   rintro ds F1 hmk X hX
   have hon1:=hX.on.one
   have hnl:(namesF X.fs).length=X.fs.length:=by simp [namesF]
   have hcnt:=hX.cnt
   have hrl:=hX.all.length_eq
   obtain ⟨pn,cn,hnv⟩:=hX.on.shape
   rw [hnl] at hnv
   rw [hnv]
   obtain ⟨mv,xs,sg,ownm,hmm,hs1⟩:=hX.sorter
   rw [hs1]
   have hm1c:=ownm.one
   refine wj<|sj [.p,.p,.p] Z<|mj Z<|uj Z (Pv.lenS Z)<|uj Z (Pv.gtr Z Z)<|nl<|cj Z (fun h31=>?_) (fun h31=>?_)
   · simp only [dt] at h31
     have hc1:nc 4 X.fs.length+2≤2*X.fs.length∧3*nc 4 X.fs.length≤2*X.fs.length∧nc 4 X.fs.length<X.fs.length∧X.fs.length≤nc 4 X.fs.length*4:=by unfold nc;omega
     refine kj<|bj<|sj [.e] Z<|Rg.alloc Z Z Z Z (fun b12=>?_)
     refine nl<|wj<|sj [.p,.r,.p,.p,.r,.e] Z<|mj Z<|lj Z Z<|nj Z<|fj Z<|lj Z Z ?_
     refine Rg.callA Z Z Z (mz Z) (chunkS_spec 4 (by omega)) ?_
     rintro _ _ ⟨c1,c2,rfl,rfl⟩
     have hown:=hX.on
     rw [hnv] at hown
     refine nl<|bj ?_
     refine Vc.rangeFuncE (enc:=fun i=>[chunkVS pn 4 X.fs.length i]) (Sp:=fun pre=>∃m,m≤nc 4 X.fs.length∧pre=List.range m) (S:=fun ys=>ys=List.range (nc 4 X.fs.length)) (hi:=[(c2,cellsO [.int .i64 ((4:Nat):Int)] 3),(c1,cellsO [.slice pn X.fs.length cn] 100)]) (rest:=X.s6++[]) (fun pre hc=>∃Y,AllR C db sb l D X pre.length Y∧hc=(b4,cellsO [.pointer (some ⟨sb,0,none⟩)] 311)::(b8,cellsO [.int .i64 0] 3)::(b9,cellsO [.int .i64 0] 35)::(b12,cellsO [Y.nv] 100)::(Y.s1++(Y.s6++Y.sd))) (fun hc=>∃D' nx m q1 q2,hc=(b8,cellsO [.int .i64 0] 3)::(b9,cellsO [.int .i64 7] 35)::(q1++q2)∧SrAt sb db nx m q1∧m≤300∧DiskAt db D' q2∧Wz C D'∧Dn RunT D D') ((b4,cellsO [.pointer (some ⟨sb,0,none⟩)] 311)::(b8,cellsO [.int .i64 0] 3)::(b9,cellsO [.int .i64 0] 35)::(b12,cellsO [.slice none 0 0] 100)::(X.s1++X.sd)) rfl rfl (fun _=>rfl) rfl (by rw [hs1];exact pulled) (fun F2 hF2=>by have:=chunkS_iter (F:=F2) (Arg.own (ys:=namesF X.fs) (by rw [hnl];exact hown) fun b o hb=>hF2 b o (.inl (by rw [List.append_nil];exact hb))) (by rw [hnl];omega) 4 (by omega) (by omega) c1 c2;rw [hnl] at this;exact this) ⟨⟨[],X.nx,X.m,X.D,.slice none 0 0,X.s1,[],X.sd⟩,⟨by rw [List.length_nil,Nat.zero_mul,List.drop_zero,List.append_nil];exact hX.runs,by rw [List.length_nil,Nat.zero_mul,List.drop_zero,List.append_nil];exact hX.all,by simp,by simp,rfl,rfl,hX.sorter,hX.m,.nil,hX.dk,hX.wz,hX.gd⟩,rfl⟩ (fun DD hc hDD ⟨D',nx',m',q1',q2',e1,hS',hm',hD',hw',hB'⟩=>by subst e1;exact Vc.ret (Vc.retsM (hl':=q1'++q2') (hmk.cons hDD) rfl (.cons (.cell1 rfl rfl) (.cons (.cell1 rfl rfl) .nil)) ⟨0,7,D',nx',m',q1',q2',rfl,rfl,hS',hm',hD',hw',.inr ⟨rfl,hB'.mono fun x hx=>.inl hx⟩⟩ pulled)) ?_ ?_
     · rintro lr rc pre x hc F2 hF2 ⟨mm,hmm1,hpre⟩ ⟨Y,hY,rfl⟩
       obtain ⟨hx1,hpr⟩:=range_split hpre
       have hxn:x<nc 4 X.fs.length:=by omega
       have hpl:pre.length=x:=by rw [hpr,List.length_range]
       rw [hpl] at hY
       have hx4:=(nc_lt (n:=4) (len:=X.fs.length) (by omega)).1 hxn
       obtain ⟨part,hpart⟩:∃part,part=chunkLS 4 X.fs x:=⟨_,rfl⟩
       have hdrop:=drop_part X.fs x
       rw [←hpart] at hdrop
       have hrun:=hY.runs
       have hall:=hY.all
       rw [hdrop,lx] at hrun hall
       have hrl2:=hall.length_eq
       rw [recsF_append,ly] at hrl2
       have hpm:∀p∈part,p∈X.fs:=fun p hp=>by rw [hpart] at hp;exact List.mem_of_mem_drop (List.mem_of_mem_take hp)
       have hplen:part.length=min 4 (X.fs.length-x*4):=by rw [hpart,chunkLS,List.length_take,List.length_drop];omega
       have harg:∀F3:Fm,(∀b o,(b,o)∈X.s6++[]∨F1.at_ b o→F3.at_ b o)→Arg strE F3 (chunkVS pn 4 X.fs.length x) (namesF part):=fun F3 hF3=>by
        have:=chunkS_arg (F:=F3) (n:=4) (i:=x) (xs:=namesF X.fs) (p:=pn) (c:=cn) (Arg.own (by rw [hnl];exact hown) fun b o hb=>hF3 b o (.inl (by rw [List.append_nil];exact hb))) (by rw [hnl];exact hx4)
        rw [hnl,namesF_part,←hpart] at this
        exact this
       have hIp:InRs (recsF part):=fun r hr=>hI r (hall.mem_iff.1 (by rw [recsF_append];exact List.mem_append_left _ hr))
       have hynx:=hY.nx
       have hym:=hY.m
       have hylen:=hY.len
       obtain ⟨mv2,xs2,sg2,own2,hm2,hs2⟩:=hY.sorter
       rw [hs2]
       have hnx:Y.nx+1≤K:=by omega
       have hnot:Y.nx+1∉(part++(X.fs.drop ((x+1)*4)++Y.fs)).map (·.1):=fun hm=>by
        obtain ⟨p,hp,e⟩:=List.mem_map.1 hm
        rcases List.mem_append.1 hp with hp | hp
        · have:=hX.le p (hpm p hp);omega
        · rcases List.mem_append.1 hp with hp | hp
          · have:=hX.le p (List.mem_of_mem_drop hp);omega
          · have:=hY.le p hp;omega
       have hyn:=hY.on.one
       have hynl:(namesF Y.fs).length=Y.fs.length:=by simp [namesF]
       refine tj [.p] Z<|aj Z<|nl<|Vc.beginE Z<|bj<|sj [.r,.e,.p] Z<|lj Z Z<|Rg.callH Z Z Z (mz Z) (fun F' hF'=>name_spec (F:=F') (s1:=(sb,srO db Y.nx mv2)::sg2) ⟨mv2,xs2,sg2,own2,hm2,rfl⟩ (by omega)) rfl ?_
       rintro _ _ ⟨rfl,mv3,xs3,sg3,own3,hm3,rfl⟩
       have h3c:=own3.one
       refine aj Z<|nl<|wj ?_
       refine Vc.drawS [10] (sd [(0,.read),(1,.read),(2,.pure),(3,.pure),(4,.read),(5,.pure),(6,.eff),(7,.eff),(8,.pure),(9,.pure),(10,.eff)]) [(b4,cellsO [.pointer (some ⟨sb,0,none⟩)] 311),(sb,srO db (Y.nx+1) mv3)] pulled mixed (by kernel_rfl)<|lj Z Z<|lj Z Z<|nj Z<|fj Z<|lj Z Z<|mj Z ?_
       refine Rg.bslice1N Z Z Z Z Z Z Z (fun b47=>?_)
       refine Rg.appendN Z Z Z Z Z own3 (ys:=[runN (Y.nx+1)]) (Src.one rfl) (by simp<;>omega) (by simp [maxLen]<;>omega) (fun v48 s48 own48=>?_)
       have h48:=own48.one
       refine nj Z<|fj Z ?_
       refine Rg.store Z Z Z Z Z h48 Z Z<|nl<|wj<|sj [.r,.p,.p,.e,.p] Z<|lj Z Z<|mj Z<|mj Z<|Rg.callH Z Z Z (mz Z) (fun F' hF'=>merge_z (F:=F') (s1:=(sb,srO db (Y.nx+1) v48)::s48) (fs:=part) (nx:=Y.nx+1) (m:=Y.m+1) hC ⟨v48,_,s48,own48,by rw [ly,List.length_singleton];omega,rfl⟩ hY.dk hY.wz hY.gd.up (harg F' (fun b o h=>hF' b o (.inr (hF2 b o h)))) (by omega) (fun p hp=>hrun.has p (List.mem_append_left _ hp)) (fun p hp=>hX.up p (hpm p hp)) (by omega) hIp (by omega) (hk _ (by omega) hnx) (hrun.non _ (by omega) (by omega) hnot)) rfl ?_
       rintro _ _ ⟨e2,D2,g2,rfl,rfl,hD2,hO2⟩
       rw [List.cons_append]
       refine aj Z<|nl<|sj [.p,.p] Z<|mj Z<|uj Z (Pv.neq Z Z)<|nl<|cj Z (fun h56=>?_) (fun h56=>?_)
       · simp only [bne_iff_ne,ne_eq] at h56
         obtain ⟨he7,hB7⟩:=hO2.bad h56
         subst he7
         refine sj [.p,.e,.e] Z<|mj Z<|Rg.store Z Z Z Z Z Z Z Z<|Rg.store Z Z Z Z Z Z Z Z<|nl ?_
         exact Vc.retE (hc:=(b8,cellsO [.int .i64 0] 3)::(b9,cellsO [.int .i64 7] 35)::(((sb,srO db (Y.nx+1) v48)::s48)++g2)) ⟨D2,Y.nx+1,Y.m+1,(sb,srO db (Y.nx+1) v48)::s48,g2,rfl,⟨v48,_,s48,own48,by rw [ly,List.length_singleton];omega,rfl⟩,by omega,hD2,hO2.wz,hY.gd.dn (hB7.mono fun y hy=>⟨_,by omega,by omega,hy⟩)⟩ pulled
       · simp only [bne_eq_false_iff_eq] at h56
         subst h56
         obtain ⟨_,hG2,hf2⟩:=hO2.good (by decide)
         have hrun2:=hrun.snoc (row:=sortL (recsF part)) (by omega) (by omega) hnot hG2 hf2
         rw [lx] at hrun2
         have hG2':Gd RunT D D2:=hY.gd.trans (hG2.mono fun y hy=>⟨_,by omega,by omega,hy⟩)
         refine kj<|wj<|sj [.r,.p,.e,.p] Z<|lj Z Z<|mj Z<|Rg.callH Z Z Z (mz Z) (fun F' hF'=>gone_z (F:=F') (s1:=(sb,srO db (Y.nx+1) v48)::s48) (nx:=Y.nx+1) (m:=Y.m+1) hC ⟨v48,_,s48,own48,by rw [ly,List.length_singleton];omega,rfl⟩ (by omega) hD2 hO2.wz (harg F' (fun b o h=>hF' b o (.inr (hF2 b o h)))) (by simp [namesF];omega) (.inl hG2.up)) rfl ?_
         rintro _ _ ⟨e3,D3,g1,g3,rfl,rfl,hS3,hD3,hO3,_⟩
         rw [lx]
         have hsub:∀y,y∈namesF part→RunT y:=fun y hy=>by
          obtain ⟨p,hp,rfl⟩:=namesF_mem hy
          have:=hrun.lt p (List.mem_append_left _ hp)
          exact ⟨p.1,this.1,this.2,rfl⟩
         refine aj Z<|nl<|sj [.p,.p] Z<|mj Z<|uj Z (Pv.neq Z Z)<|nl<|cj Z (fun h62=>?_) (fun h62=>?_)
         · simp only [bne_iff_ne,ne_eq] at h62
           obtain ⟨he7,hB7⟩:=hO3.bad h62
           subst he7
           refine sj [.p,.e,.e] Z<|mj Z<|Rg.store Z Z Z Z Z Z Z Z<|Rg.store Z Z Z Z Z Z Z Z<|nl ?_
           exact Vc.retE (hc:=(b8,cellsO [.int .i64 0] 3)::(b9,cellsO [.int .i64 7] 35)::(g1++g3)) ⟨D3,Y.nx+1,Y.m+1,g1,g3,rfl,hS3,by omega,hD3,hO3.wz,hG2'.dn (hB7.mono hsub)⟩ pulled
         · simp only [bne_eq_false_iff_eq] at h62
           subst h62
           obtain ⟨_,hG3,hno3⟩:=hO3.good (by decide)
           have hrun3:=hrun2.drop hG3 hno3
           rw [lx] at hrun3
           refine kj<|tj [.r,.p,.e,.e,.e] Z<|lj Z Z<|mj Z<|Rg.bslice1 Z Z Z Z Z Z Z (fun b66=>?_)
           refine Rg.append Z Z Z Z Z hY.on (ys:=[runN (Y.nx+1)]) (Src.one rfl) (by simp<;>omega) (by simp [maxLen]<;>omega) rfl (fun v67 s67 own67=>?_)
           have h67:=own67.one
           refine Rg.store Z Z Z Z Z h67 Z Z<|nl<|dj ?_
           exact Vc.finE (hc:=(b4,cellsO [.pointer (some ⟨sb,0,none⟩)] 311)::(b8,cellsO [.int .i64 0] 3)::(b9,cellsO [.int .i64 0] 35)::(b12,cellsO [v67] 100)::(g1++(s67++g3))) ⟨⟨Y.fs++[(Y.nx+1,sortL (recsF part))],Y.nx+1,Y.m+1,D3,v67,g1,s67,g3⟩,⟨by rw [ly,List.length_singleton,hpl];exact hrun3,by
            rw [ly,List.length_singleton,hpl]
            simp only [recsF_append] at hall ⊢
            refine List.Perm.trans ?_ hall
            rw [←lx]
            refine List.Perm.trans List.perm_append_comm ?_
            rw [show recsF [(Y.nx+1,sortL (recsF part))]=sortL (recsF part) by simp [recsF]]
            exact (sortL_perm _).append_right _,fun p hp=>(List.mem_append.1 hp).elim (hY.up p) (fun h=>by rw [List.mem_singleton] at h;rw [h];exact sortL_rises _),fun p hp=>(List.mem_append.1 hp).elim (fun h=>Nat.le_succ_of_le (hY.le p h)) (fun h=>by rw [List.mem_singleton] at h;rw [h];exact Nat.le_refl _),by rw [ly,List.length_singleton,hpl];simp only;omega,by simp only [ly,List.length_singleton];omega,hS3,by simp only;omega,by rw [namesF_append];exact own67,hD3,hO3.wz,hG2'.trans (hG3.mono hsub)⟩,rfl⟩ pulled
     · rintro DD ys hc hDD rfl ⟨Y,hY,rfl⟩
       rw [List.length_range] at hY
       have hrun:=hY.runs
       have hall:=hY.all
       rw [List.drop_of_length_le (by omega),List.nil_append] at hrun hall
       have hynx:=hY.nx
       have hylen:=hY.len
       have hyn:=hY.on.one
       refine dj<|tj [.r,.p] Z<|lj Z Z<|aj Z<|nl<|dj ?_
       exact Vc.invD (hmk.cons hDD) Y ⟨⟨hrun,hall,hY.up,hY.le,by omega,hY.sorter,hY.m,hY.on,hY.dk,hY.wz,hY.gd⟩,by omega⟩ (.cons rfl (.cons rfl (.cons rfl (.cons rfl (.cons rfl (.cons rfl (.cons rfl .nil))))))) pulled
   · simp only [df] at h31
     refine Vc.exit Z<|wj<|sj [.p,.p,.p] Z<|mj Z<|uj Z (Pv.lenS Z)<|uj Z (Pv.eql Z Z)<|nl<|cj Z (fun h71=>?_) (fun h71=>?_)
     · simp only [beq_iff_eq] at h71
       have hf0:X.fs=[]:=List.length_eq_zero_iff.1 (by omega)
       have hl0:l=[]:=by
        have:=hX.all
        rw [hf0] at this
        exact (List.nil_perm.1 this)
       refine sj [.r,.p,.p,.r,.p,.e,.e,.e] Z<|lj Z Z<|nj Z<|fj Z<|lj Z Z<|mj Z ?_
       refine Rg.callH Z Z Z (mz Z) (fun F' hF'=>write_z (F:=F') hC hX.dk hX.wz ho (by rw [hX.gd.same _ hor];exact hon) (l:=[]) Arg.nil (fun r hr=>by cases hr) (by simp) (by simp;omega)) rfl ?_
       rintro _ g ⟨e2,D2,rfl,hD2,hO2⟩
       have hin:∀k,1≤k→k<100→findF X.D.files (runN k)=none:=fun k h1 h2=>hX.runs.non k h1 h2 (by rw [hf0];simp)
       have hfin2:Out C (fun x=>RunT x∨x=out) (fun D'=>findF D'.files out=some ⟨fileB (sortL l),fileB (sortL l)⟩∧∀k,1≤k→k<100→findF D'.files (runN k)=none) D 0 e2 D2:=⟨hO2.wz,hO2.2.imp (fun h=>⟨h.1,(hX.gd.mono fun x hx=>.inl hx).trans (h.2.1.mono fun x hx=>.inr hx),by rw [hl0];exact h.2.2,fun k h1 h2=>by
        rw [h.2.1.same _ fun e=>hor (by rw [←e];exact ⟨k,h1,h2,rfl⟩)]
        exact hin k h1 h2⟩) (fun h=>⟨h.1,(hX.gd.mono fun x hx=>.inl hx).dn (h.2.mono fun x hx=>.inr hx)⟩)⟩
       refine Rg.store Z Z Z Z Z Z Z Z<|Rg.store Z Z Z Z Z Z Z Z<|nl ?_
       exact Vc.ret (Vc.retsM (hl':=((sb,srO db X.nx mv)::sg)++g) hmk rfl (.cons (.cell1 rfl rfl) (.cons (.cell1 rfl rfl) .nil)) ⟨0,e2,D2,X.nx,X.m,_,g,rfl,rfl,⟨mv,xs,sg,ownm,hmm,rfl⟩,by have:=hX.m;omega,hD2,hfin2⟩ pulled)
     · simp only [beq_eq_false_iff_ne,ne_eq] at h71
       obtain ⟨pp,hpp⟩:∃pp,X.fs=[pp]:=List.length_eq_one_iff.1 (by omega)
       refine kj<|wj<|wj ?_
       obtain ⟨bn,cc,spn,e,hs6,hcapn,hcmn⟩:=hX.on.block (by rw [hnl];omega)
       rw [hnl,hnv] at e
       simp only [Value.slice.injEq] at e
       obtain ⟨rfl,_,rfl⟩:=e
       rw [hs6]
       have hn0:(namesF X.fs)[0]! = runN pp.1:=by rw [hpp];rfl
       have hp2:pp.2=sortL l:=by
        have:=hX.all
        rw [hpp] at this
        exact sortL_of (by simpa [recsF] using this) (hX.up pp (by rw [hpp];simp))
       have hph:=hX.runs.has pp (by rw [hpp];simp)
       have hplt:=hX.runs.lt pp (by rw [hpp];simp)
       refine Vc.draw [8] (sd [(0,.read),(1,.pure),(2,.pure),(3,.read),(4,.pure),(5,.pure),(6,.read),(7,.pure),(8,.eff),(9,.pure)]) mixed (by kernel_rfl)<|lj Z Z<|nj Z<|fj Z<|lj Z Z<|mj Z<|uj Z (Pv.ixA (0) rfl rfl (by omega) (by omega))<|rj Z (Ev.as (kS (runN pp.1)) (Ev.ldR (E:=strE) 0 rfl (Nat.zero_add _) (by rw [hnl];omega)) (congrArg kS hn0))<|mj Z ?_
       refine Rg.callH Z Z Z (mz Z) (fun F' hF'=>rename_z (F:=F') hC hX.dk hX.wz hph ho (fun e=>hor (by rw [←e];exact ⟨pp.1,hplt.1,hplt.2,rfl⟩))) rfl ?_
       rintro _ g ⟨e2,D2,rfl,hD2,hO2⟩
       have hT:∀x,(x=runN pp.1∨x=out)→(RunT x∨x=out):=fun x hx=>hx.imp (fun e=>⟨pp.1,hplt.1,hplt.2,e⟩) id
       refine aj Z<|nl<|sj [.p,.p] Z<|mj Z<|uj Z (Pv.neq Z Z)<|nl<|cj Z (fun h88=>?_) (fun h88=>?_)
       · simp only [bne_iff_ne,ne_eq] at h88
         obtain ⟨he7,hB7⟩:=hO2.bad h88
         refine sj [.p,.e,.e] Z<|mj Z<|Rg.store Z Z Z Z Z Z Z Z<|Rg.store Z Z Z Z Z Z Z Z<|nl ?_
         exact Vc.ret (Vc.retsM (hl':=((sb,srO db X.nx mv)::sg)++g) hmk rfl (.cons (.cell1 rfl rfl) (.cons (.cell1 rfl rfl) .nil)) ⟨0,e2,D2,X.nx,X.m,_,g,rfl,rfl,⟨mv,xs,sg,ownm,hmm,rfl⟩,by have:=hX.m;omega,hD2,hO2.wz,.inr ⟨he7,(hX.gd.mono fun x hx=>.inl hx).dn (hB7.mono hT)⟩⟩ pulled)
       · simp only [bne_eq_false_iff_eq] at h88
         subst h88
         obtain ⟨_,hG2,hgn,hgo⟩:=hO2.good (by decide)
         refine kj<|sj [.r,.p,.p,.e] Z<|lj Z Z<|nj Z<|fj Z ?_
         refine Rg.store Z Z Z Z Z Z Z Z<|nl<|sj [.p,.p,.r,.p,.p,.r,.e,.e,.e] Z<|mj Z<|mj Z<|lj Z Z<|nj Z<|fj Z<|lj Z Z ?_
         refine Rg.callP Z Z Z (mz Z) (passes_spec l.length B 4 (by omega) (by omega) (by omega) (by omega)) ?_
         rintro _ ⟨pv,rfl⟩
         refine Rg.store Z Z Z Z Z Z Z Z<|Rg.store Z Z Z Z Z Z Z Z<|nl ?_
         exact Vc.ret (Vc.retsM (hl':=[(sb,srO db X.nx (.slice none 0 0))]++g) hmk rfl (.cons (.cell1 rfl rfl) (.cons (.cell1 rfl rfl) .nil)) ⟨pv,0,D2,X.nx,0,[(sb,srO db X.nx (.slice none 0 0))],g,rfl,rfl,⟨.slice none 0 0,[],[],.nil,Nat.le_refl _,rfl⟩,by omega,hD2,hO2.wz,.inl ⟨rfl,(hX.gd.mono fun x hx=>.inl hx).trans (hG2.mono hT),by rw [←hp2];exact hgo,fun k h1 h2=>by
          by_cases e:runN k=runN pp.1
          · rw [e];exact hgn
          · rw [hG2.same _ fun h=>h.elim e fun h=>hor (by rw [←h];exact ⟨k,h1,h2,rfl⟩)]
            exact hX.runs.non k h1 h2 (by rw [hpp];simp;exact fun h=>e (by rw [h]))⟩⟩ pulled)
set_option maxHeartbeats 4000000 in
theorem sort_z (hC:C.Ok) (hD:DiskAt db D s2) (hw:Wz C D) (hup:D.down=false) {l:List Rc} {f:Fl} (hf:findF D.files nm=some f) (hfl:f.now=fileB l) (hnm : ¬RunT nm) (hI:InRs l) (hl:l.length<50) (hcap:16*l.length+6≤C.cap)
 {B:Nat} (hB:1≤B) (hB2:B<1000) {K:Nat} (hK:3*nc B l.length≤K+2) (hK2:K<100) (hk:∀k,1≤k→k≤K→runN k∈C.S) (hno:∀k,1≤k→k<100→findF D.files (runN k)=none) {out:Nm} (ho:out∈C.S) (hor : ¬RunT out) (hon:findF D.files out=none) :
 Spec Tryz.prog 200 #[.pointer (some ⟨db,0,none⟩),kS nm,kS out,kS runB,.int .i64 (B:Int),.int .i64 4,.int .i64 0] F s2 fun v s'=>∃pv e D',v=.tuple #[.int .i64 pv,.int .i64 e]∧DiskAt db D' s' ∧
  Out C (fun x=>RunT x∨x=out) (fun D'=>findF D'.files out=some ⟨fileB (sortL l),fileB (sortL l)⟩∧∀k,1≤k→k<100→findF D'.files (runN k)=none) D 0 e D':=by
 have hne:nm≠out:=fun e=>by rw [e] at hf;rw [hf] at hon;cases hon
 refine Spec.of (n:=85) (vs:=[.pointer (some ⟨db,0,none⟩),kS nm,kS out,kS runB,.int .i64 (B:Int),.int .i64 4,.int .i64 0]) Tryz.func200 rfl Tryz.ntmps200 rfl ?_
 refine sj [.p,.p] Z<|aj Z<|aj Z<|nl<|wj<|sj [.p,.p,.p,.p,.p,.p,.p,.p,.p,.p,.p,.p,.p,.p] Z<|mj Z<|uj Z (Pv.lss Z Z)<|mj Z<|Rg.split (t:=24) rfl (fun h24=>absurd h24 (by simp;omega)) (fun h24=>?_)
 refine mj Z<|uj Z (Pv.lss Z Z)<|pj Z Z<|mj Z<|Rg.split (t:=28) rfl (fun h28=>absurd h28 (by decide)) (fun h28=>?_)
 refine mj Z<|uj Z (Pv.lss Z Z)<|pj Z Z<|mj Z<|Rg.split (t:=32) rfl (fun h32=>absurd h32 (by decide)) (fun h32=>?_)
 refine mj Z<|uj Z (Pv.gtr Z Z)<|pj Z Z<|nl<|cj Z (fun h35=>absurd h35 (by decide)) (fun h35=>?_)
 refine kj<|sj [.p,.p,.e,.p,.p,.p,.p,.p] Z<|mj Z<|mj Z<|Rg.callH Z Z Z (mz Z) (fun F' hF'=>newReader_z (F:=F') hC hD hw hf hfl) Z ?_
 rintro _ _ ⟨pr,e,D1,g1,g2,rfl,rfl,hD1,hO1,hR1⟩
 rw [List.append_nil]
 refine mj Z<|xj Z Z<|xj Z Z<|aj Z<|aj Z<|nl<|wj<|sj [.p,.p] Z<|mj Z<|uj Z (Pv.neq Z Z)<|nl<|cj Z (fun h43=>?_) (fun h43=>?_)
 · simp only [bne_iff_ne,ne_eq] at h43
   obtain ⟨he7,hB7⟩:=hO1.bad h43
   refine sj [.p,.p,.p] Z<|mj Z<|aj Z<|aj Z<|nl ?_
   exact vr (hl':=g2) rfl (.cons (.tmp rfl) (tz Z)) ⟨0,e,D1,rfl,hD1,hO1.wz,.inr ⟨he7,hB7.any⟩⟩ pulled
 · simp only [bne_eq_false_iff_eq] at h43
   subst h43
   obtain ⟨_,hG1,_⟩:=hO1.good (by decide)
   obtain ⟨rb,rfl,hR⟩:=hR1 rfl
   refine kj<|wj<|sj [.p,.p,.e,.p] Z<|mj Z<|mj Z<|Rg.callH Z Z Z (mz Z) (fun F' hF'=>create_z (F:=F') hC hD1 hO1.wz ho (by rw [hG1.same _ (fun h=>h.elim)];exact hon)) rfl ?_
   rintro _ g3 ⟨e2,D2,rfl,hD2,hO2⟩
   refine aj Z<|nl<|sj [.p,.p] Z<|mj Z<|uj Z (Pv.neq Z Z)<|nl<|cj Z (fun h49=>?_) (fun h49=>?_)
   · simp only [bne_iff_ne,ne_eq] at h49
     obtain ⟨he7,hB7⟩:=hO2.bad h49
     refine sj [.p,.p,.p] Z<|mj Z<|aj Z<|aj Z<|nl ?_
     exact vr (hl':=g3) rfl (.cons (.tmp rfl) (tz Z)) ⟨0,e2,D2,rfl,hD2,hO2.wz,.inr ⟨he7,(hG1.any).dn (hB7.mono fun x hx=>.inr hx)⟩⟩ pulled
   · simp only [bne_eq_false_iff_eq] at h49
     subst h49
     obtain ⟨_,hG2,hf2⟩:=hO2.good (by decide)
     refine kj<|wj<|sj [.p,.p,.e,.p] Z<|mj Z<|mj Z<|Rg.callH Z Z Z (mz Z) (fun F' hF'=>remove_z (F:=F') hC hD2 hO2.wz hf2) Z ?_
     rintro _ g4 ⟨e3,D3,rfl,hD3,hO3⟩
     have hG12:Gd (· = out) D D2:=(hG1.any).trans hG2
     refine aj Z<|nl<|sj [.p,.p] Z<|mj Z<|uj Z (Pv.neq Z Z)<|nl<|cj Z (fun h55=>?_) (fun h55=>?_)
     · simp only [bne_iff_ne,ne_eq] at h55
       obtain ⟨he7,hB7⟩:=hO3.bad h55
       refine sj [.p,.p,.p] Z<|mj Z<|aj Z<|aj Z<|nl ?_
       exact vr (hl':=g4) rfl (.cons (.tmp rfl) (tz Z)) ⟨0,e3,D3,rfl,hD3,hO3.wz,.inr ⟨he7,(hG12.dn hB7).mono fun x hx=>.inr hx⟩⟩ pulled
     · simp only [bne_eq_false_iff_eq] at h55
       subst h55
       obtain ⟨_,hG3,hf3⟩:=hO3.good (by decide)
       have hG13:Gd (· = out) D D3:=hG12.trans hG3
       have hG13':Gd (fun x=>RunT x∨x=out) D D3:=hG13.mono fun x hx=>.inr hx
       refine kj<|sj [.p,.p,.p,.p,.p,.e,.p] Z<|mj Z<|mj Z<|mj Z<|mj Z<|uj Z (Pv.build (c:=#[.pointer (some ⟨db,0,none⟩),kS runB,.int .i64 4,.int .i64 0,.int .i64 0,.slice none 0 0]) Z Z)<|Rg.box Z Z Z Z Z (fun b62=>?_)
       refine aj Z<|nl<|sj [.p,.p,.p,.p,.e,.p,.p,.p,.p,.p] Z<|mj Z<|mj Z<|mj Z<|mj Z<|Rg.callH Z Z Z (mz Z) (fun F' hF'=>all_z (F:=F') (s1:=[(b62,srO db 0 (.slice none 0 0))]) (sr:=g1) (fresh:=decide (l≠[])) hC ⟨.slice none 0 0,[],[],.nil,Nat.le_refl _,rfl⟩ hD3 hO3.wz hG3.up hR ⟨f,by rw [hG13.same _ hne];exact hf,hfl⟩ hnm hI hl hcap hB hB2 hK hK2 hk (fun k h1 h2=>by rw [hG13.same _ fun e=>hor (by rw [←e];exact ⟨k,h1,h2,rfl⟩)];exact hno k h1 h2) ho hor hf3) rfl ?_
       rintro _ _ ⟨pv,e4,D4,nx4,m4,g5,g6,rfl,rfl,hS4,hm4,hD4,hO4⟩
       rw [lx]
       refine mj Z<|xj Z Z<|xj Z Z<|aj Z<|aj Z<|nl<|wj<|sj [.p,.p] Z<|mj Z<|uj Z (Pv.neq Z Z)<|nl<|cj Z (fun h72=>?_) (fun h72=>?_)
       · simp only [bne_iff_ne,ne_eq] at h72
         obtain ⟨he7,hB7⟩:=hO4.bad h72
         obtain ⟨mv,xs,sg,own,hmx,rfl⟩:=hS4
         rw [List.cons_append]
         have hm1c:=own.one
         refine sj [.p,.p,.p,.p,.r,.e,.p,.e,.e,.e] Z<|mj Z<|mj Z<|nj Z<|fj Z<|lj Z Z ?_
         refine Rg.callA Z Z Z (mz Z) (cloneS_spec (Arg.own own frz_sb) (by omega)) ?_
         rintro v78 s78 own78
         refine mj Z<|Rg.bslice1 Z Z Z Z Z Z Z (fun b80=>?_)
         refine Rg.append Z Z Z Z Z own78 (ys:=[out]) (Src.one rfl) (by simp<;>omega) (by simp [maxLen]<;>omega) rfl (fun v81 s81 own81=>?_)
         refine Rg.callH Z Z Z (mz Z) (fun F' hF'=>gone_z (F:=F') (s1:=(b62,srO db nx4 mv)::sg) (l:=xs++[out]) hC ⟨mv,xs,sg,own,hmx,rfl⟩ (by omega) hD4 hO4.wz (Arg.own own81 fun b o hb=>hF' b o (.inl (by simp [hb]))) (by simp;omega) (.inr (by simp))) rfl ?_
         rintro _ _ ⟨e5,D5,g7,g8,rfl,rfl,hS5,hD5,hO5,hdn5⟩
         obtain ⟨_,hB5⟩:=hdn5 hB7.dn
         rw [lx]
         refine nl<|sj [.p,.p,.p] Z<|mj Z<|aj Z<|aj Z<|nl ?_
         exact vr (hl':=g8) rfl (.cons (.tmp rfl) (tz Z)) ⟨0,e4,D5,rfl,hD5,hO5.wz,.inr ⟨he7,hG13'.dn (hB7.after hB5.any)⟩⟩ pulled
       · simp only [bne_eq_false_iff_eq] at h72
         subst h72
         obtain ⟨_,hG4,hf4⟩:=hO4.good (by decide)
         refine kj<|sj [.p,.p,.p] Z<|mj Z<|aj Z<|aj Z<|nl ?_
         exact vr (hl':=g6) rfl (.cons (.tmp rfl) (tz Z)) ⟨pv,0,D4,rfl,hD4,hO4.wz,.inl ⟨rfl,hG13'.trans hG4,hf4⟩⟩ pulled
end
open ED (Eg egV egC edgeE InE grV)
def shN (i:Nat):Nm:=[115,104,97,114,100,46]++dig i
def ptN (i:Nat):Nm:=[112,97,114,116,46]++dig i
def pkR (e:Eg):Rc:=⟨((e.f*4294967296+e.t:Nat):Int),(e.w:Int)⟩
def upE (r:Rc):Eg:=⟨r.key.toNat / 4294967296,r.key.toNat % 4294967296,r.val.toNat % 4294967296⟩
theorem upE_pkR {e:Eg} (h:InE e):upE (pkR e)=e:=by
 obtain ⟨h1,h2,h3⟩:=h
 obtain ⟨f,t,w⟩:=e
 simp only [upE,pkR,Int.toNat_natCast] at *
 congr 1
 · omega
 · omega
 · omega
theorem pkR_in {e:Eg} (h:InE e):InR (pkR e):=by
 obtain ⟨h1,h2,h3⟩:=h
 simp only [InR,pkR]
 omega
theorem upE_in (r:Rc) (h:InR r):InE (upE r):=by
 obtain ⟨⟨h1,h2⟩,h3,h4⟩:=h
 simp only [InE,upE]
 omega
theorem or_add {a b:Nat} (h:b<4294967296):a*4294967296 ||| b=a*4294967296+b:=by
 have:=Nat.two_pow_add_eq_or_of_lt (b:=b) (i:=32) (by simpa using h) a
 rw [Nat.mul_comm] at this
 exact this.symm
section
variable {F : Fm}
theorem shName_spec (i:Nat) (hi:i<100):Spec Tryz.prog 82 #[.int .i64 (i:Int)] F [] fun v _=>v=kS (shN i):=by
 refine Spec.of (n:=6) (vs:=[.int .i64 (i:Int)]) Tryz.func82 rfl Tryz.ntmps82 rfl ?_
 refine sj [.p] Z<|aj Z<|nl<|sj [.p,.e,.p,.p] Z<|mj Z<|Rg.callP Z Z Z (mz Z) (itoa_spec i hi) ?_
 rintro _ rfl
 refine uj Z (Pv.addK rfl rfl (by have:=dig_len i;simp;omega))<|aj Z<|nl<|vz Z (tz Z) ?_
 exact rfl
theorem pack_spec (e:Eg) (he:InE e):Spec Tryz.prog 219 #[egV e] F [] fun v _=>v=recV (pkR e):=by
 obtain ⟨h1,h2,h3⟩:=he
 refine Spec.of (n:=15) (vs:=[egV e]) Tryz.func219 rfl Tryz.ntmps219 rfl ?_
 refine sj [.e,.e] Z<|Rg.box Z Z Z Z Z (fun b1=>?_)
 refine Rg.alloc Z Z Z Z (fun b2=>?_)
 refine nl<|sj [.p,.r,.p,.p,.p,.r,.p,.p,.p,.r,.p,.p,.e] Z<|fj Z<|lj Z Z<|uj Z (Pv.asI e.f (Pv.convI rfl) (wrap_ult rfl (by show _<18446744073709551616;omega)))<|uj Z (Pv.asI (e.f*4294967296) (Pv.shlN e.f 32 rfl rfl rfl (by decide)) (by rw [show (2:Nat) ^ IntKind.u64.bits=18446744073709551616 from rfl,show (2:Nat) ^ 32=4294967296 from rfl,Nat.mod_eq_of_lt (by omega)]))<|fj Z<|lj Z Z<|uj Z (Pv.asI e.t (Pv.convI rfl) (wrap_ult rfl (by show _<18446744073709551616;omega)))<|uj Z (Pv.asI (e.f*4294967296+e.t) (Pv.orN (e.f*4294967296) e.t rfl rfl rfl (by show _<18446744073709551616;omega) (by show _<18446744073709551616;omega)) (by rw [or_add h2]))<|fj Z<|lj Z Z<|uj Z (Pv.asI e.w (Pv.convI rfl) (wrap_ult rfl (by show _<18446744073709551616;omega)))<|uj Z (Pv.build (c:=#[.int .u64 (pkR e).key,.int .u64 (pkR e).val]) Z Z) ?_
 refine Rg.storeA (us:=[.int .u64 (pkR e).key,.int .u64 (pkR e).val]) Z Z Z Z Z Z Z Z<|nl<|Vc.ret (Vc.rets Z (.cons (.cellA Z Z) (.nil)) ?_)
 exact rfl
theorem unpack_spec (r:Rc) (hr:InR r):Spec Tryz.prog 290 #[recV r] F [] fun v _=>v=egV (upE r):=by
 obtain ⟨⟨h1,h2⟩,h3,h4⟩:=hr
 obtain ⟨k,hk⟩:=Int.eq_ofNat_of_zero_le h1
 obtain ⟨w,hw⟩:=Int.eq_ofNat_of_zero_le h3
 obtain ⟨rk,rv⟩:=r
 simp only at hk hw h2 h4
 subst hk;subst hw
 refine Spec.of (n:=14) (vs:=[recV ⟨(k:Int),(w:Int)⟩]) Tryz.func290 rfl Tryz.ntmps290 rfl ?_
 refine sj [.e,.e] Z<|Rg.box Z Z Z Z Z (fun b1=>?_)
 refine Rg.alloc Z Z Z Z (fun b2=>?_)
 refine nl<|sj [.p,.r,.p,.p,.p,.r,.p,.p,.r,.p,.p,.e] Z<|fj Z<|lj Z Z<|uj Z (Pv.shrN k 32 rfl rfl (by decide))<|uj Z (Pv.asI (k / 4294967296) (Pv.convI rfl) (by rw [show (2:Nat) ^ 32=4294967296 from rfl];exact wrap_ult rfl (by show _<4294967296;omega)))<|fj Z<|lj Z Z<|uj Z (Pv.asI (k % 4294967296) (Pv.convI Z) (wrap_u Z k))<|fj Z<|lj Z Z<|uj Z (Pv.asI (w % 4294967296) (Pv.convI Z) (wrap_u Z w))<|uj Z (Pv.build (c:=#[.int .u32 ((k / 4294967296:Nat):Int),.int .u32 ((k % 4294967296:Nat):Int),.int .u32 ((w % 4294967296:Nat):Int)]) Z Z) ?_
 refine Rg.storeA (us:=[.int .u32 ((k / 4294967296:Nat):Int),.int .u32 ((k % 4294967296:Nat):Int),.int .u32 ((w % 4294967296:Nat):Int)]) Z Z Z Z Z Z Z Z<|nl<|Vc.ret (Vc.rets Z (.cons (.cellA Z Z) (.nil)) ?_)
 exact rfl
def inSL (n sh i:Nat) (es:List Eg):List Rc:=(es.filter fun e=>decide (ofN n sh e.t=i)).map pkR
theorem inSL_snoc (n sh i:Nat) (es:List Eg) (e:Eg):inSL n sh i (es++[e])=inSL n sh i es++if ofN n sh e.t=i then [pkR e] else []:=by
 unfold inSL
 rw [List.filter_append,List.map_append]
 congr 1
 by_cases h:ofN n sh e.t=i<;>simp [h]
theorem inSL_len (n sh i:Nat) (es:List Eg):(inSL n sh i es).length≤es.length:=by
 unfold inSL
 rw [List.length_map]
 exact List.length_filter_le _ _
def OkG (n:Nat) (es:List Eg):Prop:=∀e∈es,e.t<n∧InE e
theorem inSL_in {n sh i:Nat} {es:List Eg} (h:OkG n es):InRs (inSL n sh i es):=fun r hr=>by
 obtain ⟨e,he,rfl⟩:=List.mem_map.1 hr
 exact pkR_in (h e (List.mem_filter.1 he).1).2
theorem remove_zx {db:Nat} {C:Cx} {D:Dk} {s:Hl} (hC:C.Ok) (hD:DiskAt db D s) (hw:Wz C D) (k:Nm) :
 Spec Tryz.prog 72 #[.pointer (some ⟨db,0,none⟩),kS k] F s fun v s'=>∃e D',v=.int .i64 e∧DiskAt db D' s'∧Wz C D'∧(((e=0∨(e=4∧findF D.files k=none))∧Gd (· = k) D D'∧findF D'.files k=none)∨(e=7∧Dn none1 D D')):=by
 have hz:=hw.dz hC
 refine (remove_spec hD hz.sz hz.fewB hz.arm hz.fewB2 (by have:=hz.usedB;omega) k).mono fun v s ⟨h1,h2⟩=>⟨_,_,h1,h2,?_⟩
 cases hf:findF D.files k with
 | none =>
  obtain ⟨h3,h4⟩:=removeD_zn hw hf
  exact ⟨h3,h4.imp (fun x=>⟨.inr ⟨x.1,rfl⟩,x.2.1.any,by rw [x.2.1.same k (fun h=>h.elim)];exact hf⟩) (fun x=>⟨x.1,removeD_c hw k x.1⟩)⟩
 | some f =>
  obtain ⟨h3,h4⟩:=removeD_z hw hf
  exact ⟨h3,h4.imp (fun x=>⟨.inl x.1,x.2⟩) (fun x=>⟨x.1,removeD_c hw k x.1⟩)⟩
section
variable {db : Nat} {C : Cx} {D : Dk} {s : Hl}
set_option maxHeartbeats 2000000 in
theorem split_z (hC:C.Ok) (hD:DiskAt db D s) (hw:Wz C D) {ve:Value} {es:List Eg} (ha:Arg edgeE F ve es) {n sh i:Nat} (hn:n≤1048576) (h1:1≤sh) (h2:sh≤4095) (hi:i<100) (hG:OkG n es) (hl:es.length<49) (hcap:16*es.length+6≤C.cap) (hk:ptN i∈C.S) (hf:findF D.files (ptN i)=none) :
 Spec Tryz.prog 199 #[.pointer (some ⟨db,0,none⟩),grV (n:Int) ve,.int .i64 (sh:Int),.int .i64 (i:Int)] F s fun v s'=>∃e D',v=.tuple #[kS (ptN i),.int .i64 e]∧DiskAt db D' s'∧Out C (· = ptN i) (fun D'=>findF D'.files (ptN i)=some ⟨fileB (inSL n sh i es),fileB (inSL n sh i es)⟩) D 0 e D':=by
 obtain ⟨p,c,rfl⟩:=ha.shape
 have hsl:=inSL_len n sh i es
 refine Spec.of (n:=63) (vs:=[.pointer (some ⟨db,0,none⟩),grV (n:Int) (.slice p es.length c),.int .i64 (sh:Int),.int .i64 (i:Int)]) Tryz.func199 rfl Tryz.ntmps199 rfl ?_
 refine sj [.e,.p,.p] Z<|Rg.box Z Z Z Z Z (fun b5=>?_)
 refine aj Z<|aj Z<|nl<|sj [.p,.e,.p,.p] Z<|mj Z<|Rg.callP Z Z Z (mz Z) (itoa_spec i hi) ?_
 rintro _ rfl
 refine uj Z (Pv.addK rfl rfl (by have:=dig_len i;simp;omega))<|aj Z<|nl<|sj [.p,.p,.e,.p,.p,.p,.p,.p] Z<|mj Z<|mj Z<|Rg.callH Z Z Z (mz Z) (fun F' hF'=>newWriter_z (F:=F') (nm:=ptN i) hC hD hw hk hf) Z ?_
 rintro _ _ ⟨pw,e,D1,g1,g2,rfl,rfl,hD1,hO1,hW1⟩
 rw [lx]
 refine mj Z<|xj Z Z<|xj Z Z<|aj Z<|aj Z<|nl<|wj<|sj [.p,.p] Z<|mj Z<|uj Z (Pv.neq Z Z)<|nl<|cj Z (fun h28=>?_) (fun h28=>?_)
 · simp only [bne_iff_ne,ne_eq] at h28
   obtain ⟨he7,hB7⟩:=hO1.bad h28
   refine sj [.p,.p,.p,.p] Z<|mj Z<|mj Z<|aj Z<|aj Z<|nl ?_
   exact vr (hl':=g2) rfl (.cons (.tmp rfl) (tz Z)) ⟨e,D1,rfl,hD1,hO1.wz,.inr ⟨he7,hB7⟩⟩ pulled
 · simp only [bne_eq_false_iff_eq] at h28
   subst h28
   obtain ⟨_,hG1,hf1⟩:=hO1.good (by decide)
   obtain ⟨wb,rfl,hW⟩:=hW1 rfl
   refine kj<|wj<|sj [.p,.r,.p,.p] Z<|fj Z<|lj Z Z<|uj Z (Pv.lenS Z)<|mj Z<|nl<|bj ?_
   refine Vc.loop2 (fun (k:Nat) (sW:Hl)=>k≤es.length∧WtAt wb db (ptN i) (inSL n sh i (es.take k)) sW) (fun k sW=>[(32,.slice p es.length c),(34,.int .i64 (k:Int)),(2,.int .i64 (sh:Int)),(3,.int .i64 (i:Int)),(5,.pointer (some ⟨b5,0,none⟩)),(10,kS (ptN i)),(11,.pointer (some ⟨wb,0,none⟩)),(33,.int .i64 (es.length:Int))]) (fun k sW=>(b5,cellsO [.int .i64 (n:Int),.slice p es.length c] 27)::(sW++g2)) (fun k sW=>es.length-k) 0 g1 ⟨Nat.zero_le _,hW⟩ (.cons Z (.cons Z (.cons Z (.cons Z (.cons Z (.cons Z (.cons Z (.cons Z .nil)))))))) pulled ?_
   rintro k sW ⟨hk1,hWk⟩
   have hsk:=inSL_len n sh i (es.take k)
   rw [List.length_take] at hsk
   refine sj [.p] Z<|uj Z (Pv.lss Z Z)<|nl<|wj<|cj Z (fun h35=>?_) (fun h35=>?_)
   · simp only [dt] at h35
     have hk2:k<es.length:=by omega
     obtain ⟨be,oe,ce',e,_⟩:=ha.block (by omega)
     cases e
     have hem:=hG es[k]! (by rw [getElem!_pos es k hk2];exact List.getElem_mem _)
     have htk:es.take (k+1)=es.take k++[es[k]!]:=by rw [List.take_succ_eq_append_getElem hk2,getElem!_pos es k hk2]
     have hsn:=inSL_snoc n sh i (es.take k) es[k]!
     rw [←htk] at hsn
     refine kj<|wj<|bj<|sj [.p,.r,.e,.e] Z<|uj Z (Pv.ixA (k) rfl rfl (by omega) (by omega))<|rj Z (Ev.as (egV es[k]!) (Ev.ldS (E:=edgeE) k ha.src Z Z Z hk2) Z)<|Rg.alloc Z Z Z Z (fun b14=>?_)
     refine Rg.storeA Z Z Z Z Z Z Z Z<|nl<|wj<|sj [.p,.r,.p,.p,.r,.p,.e,.p,.p,.p,.p,.p] Z<|fj Z<|lj Z Z<|mj Z<|fj Z<|lj Z Z<|uj Z (Pv.asI es[k]!.t (Pv.convI rfl) (i64_wrap (by have:=hem.2.2.1;omega))) ?_
     refine Rg.callP Z Z Z (mz Z) (of_spec n sh es[k]!.t hn h1 h2 hem.1) ?_
     rintro _ rfl
     refine mj Z<|xj Z Z<|xj Z Z<|aj Z<|aj Z<|nl<|sj [.p,.p,.p] Z<|mj Z<|mj Z<|uj Z (Pv.neq Z Z)<|nl<|cj Z (fun h50=>?_) (fun h50=>?_)
     · have hne : ¬ofN n sh es[k]!.t=i:=by simp only [bne_iff_ne,ne_eq] at h50;omega
       rw [if_neg hne,List.append_nil] at hsn
       refine Vc.exit Z<|tj [.p,.p] Z<|uj Z (Pv.asI (k+1) (Pv.add rfl rfl (by omega)) (by omega))<|mj Z<|nl ?_
       exact Vc.inv2 (k+1) sW ⟨⟨by omega,by rw [hsn];exact hWk⟩,by omega⟩ (.cons rfl (.cons rfl (.cons rfl (.cons rfl (.cons rfl (.cons rfl (.cons rfl (.cons rfl .nil)))))))) pulled
     · have heq:ofN n sh es[k]!.t=i:=by simp only [bne_eq_false_iff_eq] at h50;omega
       rw [if_pos heq] at hsn
       refine kj<|sj [.p,.r,.e,.e,.p] Z<|mj Z<|rj Z (Ev.as (egV es[k]!) (Ev.ldA Z Z) Z)<|Rg.callP Z Z Z (mz Z) (pack_spec es[k]! hem.2) ?_
       rintro _ rfl
       refine Rg.callH Z Z Z (mz Z) (fun F' hF'=>putR_z (F:=F') hWk (by omega) (pkR es[k]!) (pkR_in hem.2)) rfl ?_
       rintro _ sW2 ⟨rfl,hW2⟩
       refine aj Z<|nl<|sj [.p,.p] Z<|mj Z<|uj Z (Pv.neq Z Z)<|nl<|cj Z (fun h56=>absurd h56 (by decide)) (fun h56=>?_)
       refine kj<|dj<|tj [.p,.p] Z<|uj Z (Pv.asI (k+1) (Pv.add rfl rfl (by omega)) (by omega))<|mj Z<|nl ?_
       exact Vc.inv2 (k+1) sW2 ⟨⟨by omega,by rw [hsn];exact hW2⟩,by omega⟩ (.cons rfl (.cons rfl (.cons rfl (.cons rfl (.cons rfl (.cons rfl (.cons rfl (.cons rfl .nil)))))))) pulled
   · simp only [df] at h35
     rw [show k=es.length by omega,List.take_length] at hWk
     refine Vc.exit Z<|sj [.p,.p,.e,.p,.p] Z<|mj Z<|mj Z<|Rg.callH Z Z Z (mz Z) (fun F' hF'=>closeR_z (F:=F') hC hWk (by omega) hD1 hO1.wz hG1.up hf1 (by omega)) rfl ?_
     rintro _ g ⟨e2,D2,rfl,hD2,hO2⟩
     refine aj Z<|aj Z<|nl ?_
     exact vr (hl':=g) rfl (.cons (.tmp rfl) (tz Z)) ⟨e2,D2,rfl,hD2,hO2.wz,hO2.2.imp (fun h=>⟨h.1,hG1.trans h.2.1,h.2.2⟩) (fun h=>⟨h.1,hG1.dn h.2⟩)⟩ pulled
theorem shN_run {i:Nat} : ¬RunT (shN i):=fun ⟨k,_,_,e⟩=>by simp [shN,runN,runB] at e
theorem ptN_run {i:Nat} : ¬RunT (ptN i):=fun ⟨k,_,_,e⟩=>by simp [ptN,runN,runB] at e
theorem shN_pt {i j:Nat}:shN i≠ptN j:=fun e=>by simp [shN,ptN] at e
theorem shN_inj {i j:Nat} (hi:i<100) (hj:j<100) (h:shN i=shN j):i=j:=dig_inj hi hj (by simpa [shN] using h)
theorem ptN_inj {i j:Nat} (hi:i<100) (hj:j<100) (h:ptN i=ptN j):i=j:=dig_inj hi hj (by simpa [ptN] using h)
def OneT (i:Nat):Nm→Prop:=fun x=>RunT x∨x=shN i∨x=ptN i
def ShOk (n sh:Nat) (es:List Eg) (D:Dk) (i:Nat):Prop:=findF D.files (shN i)=some ⟨fileB (sortL (inSL n sh i es)),fileB (sortL (inSL n sh i es))⟩
def NoRun (D:Dk):Prop:=∀k,1≤k→k<100→findF D.files (runN k)=none
theorem NoRun.same {D D':Dk} (h:NoRun D) {T:Nm→Prop} (hG:Gd T D D') (hT:∀k,T (runN k)→¬RunT (runN k)):NoRun D':=fun k h1 h2=>by
 rw [hG.same _ fun e=>hT k e ⟨k,h1,h2,rfl⟩];exact h k h1 h2
set_option maxHeartbeats 2000000 in
theorem one_z (hC:C.Ok) (hD:DiskAt db D s) (hw:Wz C D) {ve:Value} {es:List Eg} (ha:Arg edgeE F ve es) {n sh i B K:Nat} (hn:n≤1048576) (h1:1≤sh) (h2:sh≤4095) (hi:i<100) (hG:OkG n es) (hl:es.length<49) (hcap:16*es.length+6≤C.cap) (hk:ptN i∈C.S) (hk2:shN i∈C.S) (hf:findF D.files (ptN i)=none) (hf2:findF D.files (shN i)=none)
 (hB:1≤B) (hB2:B<1000) (hK:3*nc B (inSL n sh i es).length≤K+2) (hK2:K<100) (hkr:∀k,1≤k→k≤K→runN k∈C.S) (hno:NoRun D) :
 Spec Tryz.prog 190 #[.pointer (some ⟨db,0,none⟩),grV (n:Int) ve,.int .i64 (sh:Int),.int .i64 (B:Int),.int .i64 (i:Int)] F s fun v s'=>∃e D',v=.int .i64 e∧DiskAt db D' s'∧Out C (OneT i) (fun D'=>ShOk n sh es D' i∧findF D'.files (ptN i)=none∧NoRun D') D 0 e D':=by
 obtain ⟨p,c,rfl⟩:=ha.shape
 have hsl:=inSL_len n sh i es
 refine Spec.of (n:=40) (vs:=[.pointer (some ⟨db,0,none⟩),grV (n:Int) (.slice p es.length c),.int .i64 (sh:Int),.int .i64 (B:Int),.int .i64 (i:Int)]) Tryz.func190 rfl Tryz.ntmps190 rfl ?_
 refine sj [.e,.p] Z<|Rg.box Z Z Z Z Z (fun b6=>?_)
 refine aj Z<|nl<|sj [.p,.r,.p,.p,.e,.p,.p,.p,.p,.p] Z<|mj Z<|rj Z (Ev.as (grV (n:Int) (.slice p es.length c)) (Ev.ldA Z Z) Z)<|mj Z<|mj Z<|Rg.callH Z Z Z (mz Z) (fun F' hF'=>split_z (F:=F') hC hD hw (ha.mono fun b o h=>hF' b o (.inr h)) hn h1 h2 hi hG hl hcap hk hf) Z ?_
 rintro _ g1 ⟨e,D1,rfl,hD1,hO1⟩
 refine mj Z<|xj Z Z<|xj Z Z<|aj Z<|aj Z<|nl<|wj<|sj [.p,.p] Z<|mj Z<|uj Z (Pv.eql Z Z)<|nl<|Vc.cut3 (fun (e2:Int) (D2:Dk) (g2:Hl)=>DiskAt db D2 g2∧Wz C D2∧((e2=0∧Gd (OneT i) D D2∧ShOk n sh es D2 i∧(∃f,findF D2.files (ptN i)=some f)∧NoRun D2)∨(e2=7∧Dn (OneT i) D D2))) (fun e2 D2 g2=>[(0,.pointer (some ⟨db,0,none⟩)),(11,kS (ptN i)),(12,.int .i64 e2)]) (fun e2 D2 g2=>g2) ?_ ?_
 · refine cj Z (fun h23=>?_) (fun h23=>?_)
   · simp only [beq_iff_eq] at h23
     subst h23
     obtain ⟨_,hG1,hf1⟩:=hO1.good (by decide)
     have hG1':Gd (OneT i) D D1:=hG1.mono fun x hx=>.inr (.inr hx)
     have hno1:NoRun D1:=hno.same hG1 (fun k e=>by rw [e];exact ptN_run)
     refine tj [.p,.p,.p,.e,.p,.e,.p,.p,.p,.p] Z<|mj Z<|mj Z<|mj Z<|Rg.callP Z Z Z (mz Z) (shName_spec i hi) ?_
     rintro _ rfl
     refine mj Z<|Rg.callH Z Z Z (mz Z) (fun F' hF'=>sort_z (F:=F') (nm:=ptN i) (out:=shN i) (l:=inSL n sh i es) hC hD1 hO1.wz hG1.up hf1 rfl ptN_run (inSL_in hG) (by omega) (by omega) hB hB2 hK hK2 hkr hno1 hk2 shN_run (by rw [hG1.same _ shN_pt];exact hf2)) rfl ?_
     rintro _ g2 ⟨pv,e2,D2,rfl,hD2,hO2⟩
     refine mj Z<|xj Z Z<|xj Z Z<|aj Z<|nl ?_
     exact Vc.inv3 e2 D2 g2 ⟨hD2,hO2.wz,hO2.2.imp (fun h=>⟨h.1,hG1'.trans (h.2.1.mono fun x hx=>hx.elim .inl (fun e=>.inr (.inl e))),h.2.2.1,⟨_,by rw [h.2.1.same _ (fun hx=>hx.elim ptN_run (fun e=>shN_pt e.symm))];exact hf1⟩,h.2.2.2⟩) (fun h=>⟨h.1,hG1'.dn (h.2.mono fun x hx=>hx.elim .inl (fun e=>.inr (.inl e)))⟩)⟩ (.cons rfl (.cons rfl (.cons rfl .nil))) pulled
   · simp only [beq_eq_false_iff_ne,ne_eq] at h23
     obtain ⟨he7,hB7⟩:=hO1.bad h23
     refine kj ?_
     exact Vc.inv3 e D1 g1 ⟨hD1,hO1.wz,.inr ⟨he7,hB7.mono fun x hx=>.inr (.inr hx)⟩⟩ (.cons rfl (.cons rfl (.cons rfl .nil))) pulled
 · rintro e2 D2 g2 ⟨hD2,hw2,hst⟩
   refine wj<|sj [.p,.p,.e,.p] Z<|mj Z<|mj Z<|Rg.callH Z Z Z (mz Z) (fun F' hF'=>remove_zx (F:=F') hC hD2 hw2 (ptN i)) Z ?_
   rintro _ g3 ⟨e3,D3,rfl,hD3,hw3,hO3⟩
   refine aj Z<|nl<|sj [.p,.p] Z<|mj Z<|uj Z (Pv.eql Z Z)<|nl<|Vc.cut1 (fun (e4:Int)=>e4=if e2=0 then e3 else e2) (fun e4=>[(12,.int .i64 e4)]) (fun e4=>g3) ?_ ?_
   · refine cj Z (fun h37=>?_) (fun h37=>?_)
     · refine tj [.p,.p] Z<|mj Z<|aj Z<|nl ?_
       exact Vc.inv1 e3 (by simp only [beq_iff_eq] at h37;rw [if_pos h37]) (.cons rfl .nil) pulled
     · refine kj ?_
       exact Vc.inv1 e2 (by simp only [beq_eq_false_iff_ne,ne_eq] at h37;rw [if_neg h37]) (.cons rfl .nil) pulled
   · rintro e4 rfl
     refine sj [.p,.p] Z<|mj Z<|aj Z<|nl ?_
     exact Vc.ret (Vc.retsH rfl (tz Z) (⟨_,D3,rfl,hD3,hw3,by
      rcases hst with ⟨rfl,hG2,hsh,⟨f,hpf⟩,hnr⟩ | ⟨rfl,hB2'⟩
      · rw [if_pos rfl]
        rcases hO3 with ⟨h3,hG3,hn3⟩ | ⟨h3,hB3⟩
        · refine .inl ⟨h3.resolve_right (fun h=>by rw [hpf] at h;cases h.2),hG2.trans (hG3.mono fun x hx=>.inr (.inr hx)),?_,hn3,hnr.same hG3 (fun k e=>by rw [e];exact ptN_run)⟩
          unfold ShOk
          rw [hG3.same _ shN_pt];exact hsh
        · exact .inr ⟨h3,hG2.dn hB3.any⟩
      · rw [if_neg (by decide)]
        refine .inr ⟨rfl,?_⟩
        rcases hO3 with ⟨h3,hG3,hn3⟩ | ⟨h3,hB3⟩
        · have:=hG3.up0;rw [hB2'.dn] at this;cases this
        · exact hB2'.after hB3.any⟩) pulled)
def ShT (sh:Nat):Nm→Prop:=fun x=>∃i,i<sh∧OneT i x
set_option maxHeartbeats 4000000 in
theorem build_z (hC:C.Ok) (hD:DiskAt db D s) (hw:Wz C D) (hup:D.down=false) {ve:Value} {es:List Eg} (ha:Arg edgeE F ve es) {n sh B K:Nat} (hn:n≤1048576) (h1:1≤sh) (h2:sh<100) (hG:OkG n es) (hrg:ED.rightG (n:Int) es=true) (hl:es.length<49) (hcap:16*es.length+6≤C.cap) (hk:∀i,i<sh→ptN i∈C.S∧shN i∈C.S) (hf:∀i,i<sh→findF D.files (ptN i)=none∧findF D.files (shN i)=none)
 (hB:1≤B) (hB2:B<1000) (hK:∀i,i<sh→3*nc B (inSL n sh i es).length≤K+2) (hK2:K<100) (hkr:∀k,1≤k→k≤K→runN k∈C.S) (hno:NoRun D) :
 Spec Tryz.prog 183 #[.pointer (some ⟨db,0,none⟩),grV (n:Int) ve,.int .i64 (sh:Int),.int .i64 (B:Int)] F s fun v s'=>∃e D',v=.int .i64 e∧DiskAt db D' s'∧Out C (ShT sh) (fun D'=>∀i,i<sh→ShOk n sh es D' i) D 0 e D':=by
 obtain ⟨p,c,rfl⟩:=ha.shape
 refine Spec.of (n:=55) (vs:=[.pointer (some ⟨db,0,none⟩),grV (n:Int) (.slice p es.length c),.int .i64 (sh:Int),.int .i64 (B:Int)]) Tryz.func183 rfl Tryz.ntmps183 rfl ?_
 refine sj [.e,.p] Z<|Rg.box Z Z Z Z Z (fun b5=>?_)
 refine aj Z<|nl<|wj<|sj [.p,.r,.p,.e,.p,.p,.p,.p,.p] Z<|fj Z<|lj Z Z<|mj Z ?_
 refine Rg.callA Z Z Z (mz Z) (bounds_spec n sh hn h1 (by omega)) ?_
 rintro _ s18 ⟨u18,rfl,own18⟩
 refine mj Z<|xj Z Z<|xj Z Z<|aj Z<|aj Z<|nl<|sj [.p,.p,.p,.r,.e,.p,.p,.p,.p,.p,.p] Z<|mj Z<|uj Z (Pv.neq Z Z)<|mj Z<|Rg.split (t:=23) rfl (fun h23=>absurd h23 (by decide)) (fun h23=>?_)
 refine rj Z (Ev.as (grV (n:Int) (.slice p es.length c)) (Ev.ldA Z Z) Z)<|Rg.callP Z Z Z (mz Z) (ED.right_spec (ha.mono fun b o h=>Or.inr h) (by omega) (fun e he=>(hG e he).2) (n:Int)) ?_
 rintro _ rfl
 refine uj Z (Pv.not Z)<|pj Z Z<|mj Z<|Rg.split (t:=28) rfl (fun h28=>absurd h28 (by rw [hrg];decide)) (fun h28=>?_)
 refine mj Z<|uj Z (Pv.lss Z Z)<|pj Z Z<|nl<|cj Z (fun h31=>absurd h31 (by simp;omega)) (fun h31=>?_)
 refine kj<|wj<|sj [.p,.p] Z<|mj Z<|mj Z<|nl<|bj ?_
 refine Vc.loop3 (fun (i:Nat) (D':Dk) (q:Hl)=>i≤sh∧DiskAt db D' q∧Wz C D'∧Gd (ShT sh) D D'∧NoRun D'∧(∀j,j<i→ShOk n sh es D' j)∧(∀j,i≤j→j<sh→findF D'.files (ptN j)=none∧findF D'.files (shN j)=none)) (fun i D' q=>[(32,.int .i64 (sh:Int)),(33,.int .i64 (i:Int)),(0,.pointer (some ⟨db,0,none⟩)),(2,.int .i64 (sh:Int)),(3,.int .i64 (B:Int)),(5,.pointer (some ⟨b5,0,none⟩))]) (fun i D' q=>(b5,cellsO [.int .i64 (n:Int),.slice p es.length c] 27)::q) (fun i D' q=>sh-i) 0 D s ⟨Nat.zero_le _,hD,hw,.refl hup,hno,fun j hj=>by omega,fun j _ hj=>hf j hj⟩ (.cons rfl (.cons rfl (.cons rfl (.cons rfl (.cons rfl (.cons rfl .nil)))))) pulled ?_
 rintro i D' q ⟨hi,hD',hw',hGd,hnr,hok,hab⟩
 refine sj [.p] Z<|uj Z (Pv.lss Z Z)<|nl<|wj<|cj Z (fun h34=>?_) (fun h34=>?_)
 · simp only [dt] at h34
   have hi1:i<sh:=by omega
   refine kj<|wj<|bj<|sj [.p,.p] Z<|mj Z<|aj Z<|nl<|sj [.p,.r,.p,.p,.p,.e,.p] Z<|mj Z<|rj Z (Ev.as (grV (n:Int) (.slice p es.length c)) (Ev.ldA Z Z) Z)<|mj Z<|mj Z<|mj Z<|Rg.callH Z Z Z (mz Z) (fun F' hF'=>one_z (F:=F') hC hD' hw' (ha.mono fun b o h=>hF' b o (.inr h)) hn h1 (by omega) (by omega) hG hl hcap (hk i hi1).1 (hk i hi1).2 (hab i (Nat.le_refl _) hi1).1 (hab i (Nat.le_refl _) hi1).2 hB hB2 (hK i hi1) hK2 hkr hnr) rfl ?_
   rintro _ q1 ⟨e,D1,rfl,hD1,hO1⟩
   refine aj Z<|nl<|sj [.p,.p] Z<|mj Z<|uj Z (Pv.neq Z Z)<|nl<|cj Z (fun h43=>?_) (fun h43=>?_)
   · simp only [bne_iff_ne,ne_eq] at h43
     obtain ⟨he7,hB7⟩:=hO1.bad h43
     have hB8:Dn (ShT sh) D D1:=hGd.dn (hB7.mono fun x hx=>⟨i,hi1,hx⟩)
     refine wj<|sj [.p,.p] Z<|mj Z<|mj Z<|nl<|bj ?_
     refine Vc.loop3 (fun (k:Nat) (D2:Dk) (q2:Hl)=>k≤i∧DiskAt db D2 q2∧Wz C D2∧Dn (ShT sh) D D2) (fun k D2 q2=>[(0,.pointer (some ⟨db,0,none⟩)),(12,.int .i64 e),(44,.int .i64 (i:Int)),(45,.int .i64 (k:Int))]) (fun k D2 q2=>q2) (fun k D2 q2=>i-k) 0 D1 q1 ⟨Nat.zero_le _,hD1,hO1.wz,hB8⟩ (.cons Z (.cons Z (.cons Z (.cons Z .nil)))) pulled ?_
     rintro k D2 q2 ⟨hk2,hD2,hw2,hB2'⟩
     refine sj [.p] Z<|uj Z (Pv.lss Z Z)<|nl<|wj<|cj Z (fun h46=>?_) (fun h46=>?_)
     · simp only [dt] at h46
       refine kj<|wj<|bj<|sj [.p,.p] Z<|mj Z<|aj Z<|nl<|tj [.p,.p,.e,.e] Z<|mj Z<|mj Z<|Rg.callP Z Z Z (mz Z) (shName_spec k (by omega)) ?_
       rintro _ rfl
       refine Rg.callH Z Z Z (mz Z) (fun F' hF'=>remove_zx (F:=F') hC hD2 hw2 (shN k)) Z ?_
       rintro _ q3 ⟨e3,D3,rfl,hD3,hw3,hO3⟩
       have hB3:Dn none1 D2 D3:=(hO3.resolve_left (fun h=>by have:=h.2.1.up0;rw [hB2'.dn] at this;cases this)).2
       refine nl<|dj<|tj [.p,.p] Z<|uj Z (Pv.asI (k+1) (Pv.add rfl rfl (by omega)) (by omega))<|mj Z<|nl ?_
       exact Vc.inv3 (k+1) D3 q3 ⟨⟨by omega,hD3,hw3,hB2'.after hB3.any⟩,by omega⟩ (.cons rfl (.cons rfl (.cons rfl (.cons rfl .nil)))) pulled
     · refine Vc.exit Z<|sj [.p,.p] Z<|mj Z<|aj Z<|nl ?_
       exact vr rfl (tz Z) (⟨e,D2,rfl,hD2,hw2,.inr ⟨he7,hB2'⟩⟩) pulled
   · simp only [bne_eq_false_iff_eq] at h43
     subst h43
     obtain ⟨_,hG1,hs1,hp1,hn1⟩:=hO1.good (by decide)
     refine kj<|dj<|tj [.p,.p] Z<|uj Z (Pv.asI (i+1) (Pv.add rfl rfl (by omega)) (by omega))<|mj Z<|nl ?_
     exact Vc.inv3 (i+1) D1 q1 ⟨⟨by omega,hD1,hO1.wz,hGd.trans (hG1.mono fun x hx=>⟨i,hi1,hx⟩),hn1,fun j hj=>by
      by_cases e:j=i
      · rw [e];exact hs1
      · unfold ShOk
        rw [hG1.same _ (fun hx=>hx.elim shN_run (fun hx=>hx.elim (fun h=>e (shN_inj (by omega) (by omega) h)) shN_pt))]
        exact hok j (by omega),fun j hj hj2=>by
      rw [hG1.same _ (fun hx=>hx.elim ptN_run (fun hx=>hx.elim (fun h=>shN_pt h.symm) (fun h=>absurd (ptN_inj (by omega) (by omega) h) (by omega)))),hG1.same _ (fun hx=>hx.elim shN_run (fun hx=>hx.elim (fun h=>absurd (shN_inj (by omega) (by omega) h) (by omega)) shN_pt))]
      exact hab j (by omega) hj2⟩,by omega⟩ (.cons rfl (.cons rfl (.cons rfl (.cons rfl (.cons rfl (.cons rfl .nil)))))) pulled
 · simp only [df] at h34
   refine Vc.exit Z<|sj [.p] Z<|aj Z<|nl ?_
   exact vr rfl (tz Z) (⟨0,D',rfl,hD',hw',.inl ⟨rfl,hGd,fun j hj=>hok j (by omega)⟩⟩) pulled
end
end
end Go.Proofs.YtkpiakgmkpbikaaGreatDoor
