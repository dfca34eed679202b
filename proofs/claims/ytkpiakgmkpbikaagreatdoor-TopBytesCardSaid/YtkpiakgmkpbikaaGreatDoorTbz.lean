/- Proved here: steps of the proof (Tbo Tbp Tbq Tbr Tbs Tbt Tbu Tbv Tbw Tbx Tby Tbz). -/
import Derived.Test.YtkpiakgmkpbikaaGreatDoorTbn
set_option linter.unusedVariables false
namespace Go.Proofs.YtkpiakgmkpbikaaGreatDoor
abbrev stP:Nm:=[115,116,97,116,101,46]
theorem stP_sh {k:Nm} (h:stP <+: k) (i:Nat):k≠shN i:=by rintro rfl; simp [shN] at h
theorem stP_st (j:Nat):stP <+: stN j:=List.prefix_append _ _
theorem stN_inj {i j:Nat} (hi:i<100) (hj:j<100) (h:stN i=stN j):i=j:=dig_inj hi hj (List.append_cancel_left (show stP++dig i=stP++dig j from h))
theorem stT_stN {j:Nat} (hj:j<100):stT≠stN j:=stT_ne j hj
theorem kSd_ne {xs ys:List UInt8} (h:decide ((⟨xs.toArray⟩:ByteArray)=⟨ys.toArray⟩)=false):xs≠ys:=fun e=>of_decide_eq_false h (by rw [e])
theorem kSd_eq {xs ys:List UInt8} (h:decide ((⟨xs.toArray⟩:ByteArray)=⟨ys.toArray⟩)=true):xs=ys:=by
 have:=of_decide_eq_true h
 injection this with this
 exact List.toArray_inj this
theorem no_stays {k:Nm} {m:Ma} {is:Bool} (h0:k≠slN 0) (h1:k≠slN 1) (hs:is=true→(∀j:Nat,j<10→(j:Int)≤m.step→k≠stN j)∧∀i:Nat,i<m.sh→k≠shN i):∃b,Value.bool false=.bool b∧(b=true↔Stays k m is) :=
 ⟨false,rfl,(fun h=>by cases h),fun h=>by
  rcases h with h | h | ⟨hi,⟨j,a,b,c⟩ | ⟨i,a,b⟩⟩
  · exact absurd h h0
  · exact absurd h h1
  · exact absurd c ((hs hi).1 j a b)
  · exact absurd b ((hs hi).2 i a)⟩
section
variable {F : Fm}
set_option maxHeartbeats 4000000 in
theorem stays_spec (hA:AtoiN F) {k:Nm} {m:Ma} {is:Bool} (hk:k.length<1000) (hsh:m.sh<100) (hn:stP <+: k→k=stT∨∃j,j<10∧k=stN j) :
 Spec Tryz.prog 71 #[kS k,maV m,.bool is] F [] fun v _=>∃b,v=.bool b∧(b=true↔Stays k m is):=by
 obtain ⟨text,htext⟩:∃text,text=if stP <+: k then k.drop stP.length else k:=⟨_,rfl⟩
 have hT:k=stT→text=[110,101,119]:=by rintro rfl; rw [htext]; decide
 have hJ:∀j,k=stN j→text=dig j:=by
  rintro j rfl
  rw [htext,if_pos (stP_st j)]
  exact List.drop_left' rfl
 have hat:stP <+: k→∀F',(∀b o,F.at_ b o→F'.at_ b o)→Spec Tryz.prog 81 #[kS text] F' [] fun v _=>∃z e be,v=.tuple #[.int .i64 z,e]∧((e=.nilIface∧be=true)∨((∃T p,e=.iface T p)∧be=false))∧(be=true→∃j:Nat,j<10∧k=stN j∧z=(j:Int))∧(be=false→k=stT):=by
  intro hp F' hF'
  rcases hn hp with h | ⟨j,hj,h⟩
  · rw [hT h]
    exact (hA F' hF').mono fun v s ⟨T,p,hv⟩=>⟨0,_,false,hv,.inr ⟨⟨T,p,rfl⟩,rfl⟩,(fun h=>by cases h),fun _=>h⟩
  · rw [hJ j h]
    exact (atoi_dig j hj).mono fun v s hv=>⟨_,_,true,hv,.inl ⟨rfl,rfl⟩,fun _=>⟨j,hj,h,rfl⟩,(fun h=>by cases h)⟩
 have h01:slN 0=[115,108,111,116,46,48]∧slN 1=[115,108,111,116,46,49]:=by decide
 refine Spec.of (n:=63) (vs:=[kS k,maV m,.bool is]) Tryz.func71 rfl Tryz.ntmps71 rfl ?_
 refine sj [.e,.p] Z<|Rg.box Z Z Z Z Z (fun b4 => ?_)
 refine aj Z<|nl<|wj<|sj [.p,.p,.p,.p,.p,.p] Z<|mj Z<|uj Z (Pv.eqlS Z Z)<|mj Z<|Rg.split (t:=14) Z (fun h14 => ?_) (fun h14 => ?_)
 · iterate 2 (first | refine Rg.skipP rfl rfl rfl ?_ | refine Rg.skipR rfl rfl rfl ?_ | refine Rg.skipE rfl rfl rfl ?_)
   refine qj Z Z<|nl<|Vc.condT Z<|sj [.p] Z<|aj Z<|nl<|Vc.ret (Vc.rets Z (.cons (.tmp Z) (.nil)) ?_)
   exact ⟨true,rfl,fun _=>.inl (kSd_eq (ys:=[115,108,111,116,46,48]) h14),fun _=>rfl⟩
 · have hk0:k≠slN 0:=kSd_ne (ys:=[115,108,111,116,46,48]) h14
   refine mj Z<|uj Z (Pv.eqlS Z Z)<|pj Z Z<|nl<|cj Z (fun h17 => ?_) (fun h17 => ?_)
   · refine sj [.p] Z<|aj Z<|nl<|Vc.ret (Vc.rets Z (.cons (.tmp Z) (.nil)) ?_)
     exact ⟨true,rfl,fun _=>.inr (.inl (kSd_eq (ys:=[115,108,111,116,46,49]) h17)),fun _=>rfl⟩
   · have hk1:k≠slN 1:=kSd_ne (ys:=[115,108,111,116,46,49]) h17
     refine kj<|wj<|sj [.p,.e,.p,.p,.p,.p,.p] Z<|mj Z<|Rg.callP Z Z Z (run_callF rfl) (cutPrefix_spec k stP (by omega)) ?_
     rintro _ rfl
     rw [←htext]
     refine mj Z<|xj Z Z<|xj Z Z<|aj Z<|aj Z<|nl<|sj [.p,.p,.p,.p] Z<|mj Z<|mj Z<|Rg.split (t:=24) Z (fun h24 => ?_) (fun h24 => ?_)
     · refine mj Z<|qj Z Z<|nl<|cj Z (fun h26 => ?_) (fun h26 => ?_)
       · refine sj [.p,.e,.p,.p,.p,.p,.p] Z<|mj Z<|Rg.callA Z Z Z (run_callF rfl) (hat (by simpa using h24) _ (fun b o h=>Or.inr h)) ?_
         rintro _ s29 ⟨z,e29,be,rfl,hbe,hz1,hz2⟩
         refine mj Z<|xj Z Z<|xj Z Z<|aj Z<|aj Z<|nl<|sj [.p,.p,.p,.p,.p,.p,.p,.p,.p,.r,.p,.p,.p,.p,.e,.p,.p,.p,.p] Z<|mj Z<|uj Z (show Pv _ _ _ _ (.bool be) from hbe.elim (fun h=>by obtain ⟨rfl,rfl⟩:=h; exact Pv.eqNilT rfl) (fun h=>by obtain ⟨⟨T,p,rfl⟩,rfl⟩:=h; exact Pv.eqNilF rfl))<|mj Z<|Rg.split (t:=34) Z (fun h34 => ?_) (fun h34 => ?_)
         · obtain ⟨j,hj,hkj,rfl⟩:=hz1 h34
           have hne0:∀i,k≠shN i:=stP_sh (by simpa using h24)
           have htj:=hJ j hkj
           refine mj Z<|uj Z (Pv.geq Z Z)<|qj Z Z<|mj Z<|Rg.split (t:=38) rfl (fun h38 => ?_) (fun h38=>absurd h38 (by simp))
           refine mj Z<|fj Z<|lj Z Z<|uj Z (Pv.leq Z Z)<|qj Z Z<|mj Z ?_
           refine Rg.split (t:=44) Z (fun h44 => ?_) (fun h44 => ?_)
           · simp only [decide_eq_true_eq] at h44
             refine mj Z<|Rg.callP Z Z Z (run_callF rfl) (itoa_spec j (by omega)) ?_
             rintro _ rfl
             refine mj Z<|uj Z (Pv.eqlS Z Z)<|qj Z Z<|aj Z<|nl<|Vc.ret (Vc.rets Z (.cons (.tmp Z) (.nil)) ?_)
             exact ⟨true,congrArg Value.bool (decide_eq_true (by rw [htj])),fun _=>.inr (.inr ⟨h26,.inl ⟨j,hj,h44,hkj⟩⟩),fun _=>rfl⟩
           · simp only [decide_eq_false_iff_not] at h44
             iterate 4 (first | refine Rg.skipP rfl rfl rfl ?_ | refine Rg.skipR rfl rfl rfl ?_ | refine Rg.skipE rfl rfl rfl ?_)
             refine pj Z Z<|aj Z<|nl<|Vc.ret (Vc.rets Z (.cons (.tmp Z) (.nil)) ?_)
             exact no_stays hk0 hk1 fun _=>⟨fun j' h1 h2 e=>h44 (by have:=stN_inj (by omega) (by omega) (hkj.symm.trans e); omega),fun i _=>hne0 i⟩
         · have hkT:=hz2 h34
           have hne0:∀i,k≠shN i:=stP_sh (by simpa using h24)
           iterate 2 (first | refine Rg.skipP rfl rfl rfl ?_ | refine Rg.skipR rfl rfl rfl ?_ | refine Rg.skipE rfl rfl rfl ?_)
           refine pj Z Z<|mj Z ?_
           iterate 4 (first | refine Rg.skipP rfl rfl rfl ?_ | refine Rg.skipR rfl rfl rfl ?_ | refine Rg.skipE rfl rfl rfl ?_)
           refine pj Z Z<|mj Z ?_
           iterate 4 (first | refine Rg.skipP rfl rfl rfl ?_ | refine Rg.skipR rfl rfl rfl ?_ | refine Rg.skipE rfl rfl rfl ?_)
           refine pj Z Z<|aj Z<|nl<|Vc.ret (Vc.rets Z (.cons (.tmp Z) (.nil)) ?_)
           exact no_stays hk0 hk1 fun _=>⟨fun j' h1 h2 e=>stT_stN (by omega) (hkT.symm.trans e),fun i _=>hne0 i⟩
       · refine kj<|wj<|sj [.p,.r,.p] Z<|fj Z<|lj Z Z<|mj Z<|nl<|bj ?_
         refine Vc.loop1 (fun (i:Nat)=>i≤m.sh∧(is=true→∀i'<i,k≠shN i')) (fun i=>[(0,kS k),(2,.bool is),(51,.int .i64 (m.sh:Int)),(52,.int .i64 (i:Int))]) (fun i=>[(b4,cellsO (maC m) 126)]) (fun i=>m.sh-i) 0 ⟨Nat.zero_le _,fun _ i' h=>by omega⟩ (.cons rfl (.cons rfl (.cons rfl (.cons rfl .nil)))) pulled ?_
         rintro i ⟨hi,hno⟩
         refine sj [.p] Z<|uj Z (Pv.lss Z Z)<|nl<|wj<|cj Z (fun h53 => ?_) (fun h53 => ?_)
         · simp only [decide_eq_true_eq] at h53
           refine kj<|wj<|bj<|sj [.p,.p] Z<|mj Z<|aj Z<|nl<|sj [.p,.p,.p,.p,.e,.p,.p] Z<|mj Z<|mj Z<|Rg.split (t:=56) Z (fun h56 => ?_) (fun h56 => ?_)
           · refine mj Z<|mj Z<|Rg.callP Z Z Z (run_callF rfl) (shName_spec i (by omega)) ?_
             rintro _ rfl
             refine uj Z (Pv.eqlS Z Z)<|qj Z Z<|nl<|cj Z (fun h61 => ?_) (fun h61 => ?_)
             · refine sj [.p] Z<|aj Z<|nl<|Vc.ret (Vc.rets Z (.cons (.tmp Z) (.nil)) ?_)
               cases h26.symm.trans h56
             · refine kj<|dj<|tj [.p,.p] Z<|uj Z (Pv.asI (i+1) (Pv.add rfl rfl (by omega)) (by omega))<|mj Z<|nl ?_
               exact Vc.inv1 (i+1) ⟨⟨by omega,fun h=>by cases h26.symm.trans h⟩,by omega⟩ (.cons rfl (.cons rfl (.cons rfl (.cons rfl .nil)))) pulled
           · iterate 4 (first | refine Rg.skipP rfl rfl rfl ?_ | refine Rg.skipR rfl rfl rfl ?_ | refine Rg.skipE rfl rfl rfl ?_)
             refine pj Z Z<|nl<|Vc.condF Z<|kj<|dj<|tj [.p,.p] Z<|uj Z (Pv.asI (i+1) (Pv.add rfl rfl (by omega)) (by omega))<|mj Z<|nl ?_
             exact Vc.inv1 (i+1) ⟨⟨by omega,fun h=>by cases h26.symm.trans h⟩,by omega⟩ (.cons rfl (.cons rfl (.cons rfl (.cons rfl .nil)))) pulled
         · simp only [decide_eq_false_iff_not] at h53
           obtain rfl:i=m.sh:=by omega
           refine Vc.exit Z<|sj [.p] Z<|aj Z<|nl<|Vc.ret (Vc.rets Z (.cons (.tmp Z) (.nil)) ?_)
           exact no_stays hk0 hk1 fun h=>by cases h26.symm.trans h
     · (first | refine Rg.skipP rfl rfl rfl ?_ | refine Rg.skipR rfl rfl rfl ?_ | refine Rg.skipE rfl rfl rfl ?_)
       refine pj Z Z<|nl<|Vc.condF Z<|kj<|wj<|sj [.p,.r,.p] Z<|fj Z<|lj Z Z<|mj Z<|nl<|bj ?_
       refine Vc.loop1 (fun (i:Nat)=>i≤m.sh∧(is=true→∀i'<i,k≠shN i')) (fun i=>[(0,kS k),(2,.bool is),(51,.int .i64 (m.sh:Int)),(52,.int .i64 (i:Int))]) (fun i=>[(b4,cellsO (maC m) 126)]) (fun i=>m.sh-i) 0 ⟨Nat.zero_le _,fun _ i' h=>by omega⟩ (.cons rfl (.cons rfl (.cons rfl (.cons rfl .nil)))) pulled ?_
       rintro i ⟨hi,hno⟩
       refine sj [.p] Z<|uj Z (Pv.lss Z Z)<|nl<|wj<|cj Z (fun h53 => ?_) (fun h53 => ?_)
       · simp only [decide_eq_true_eq] at h53
         refine kj<|wj<|bj<|sj [.p,.p] Z<|mj Z<|aj Z<|nl<|sj [.p,.p,.p,.p,.e,.p,.p] Z<|mj Z<|mj Z<|Rg.split (t:=56) Z (fun h56 => ?_) (fun h56 => ?_)
         · refine mj Z<|mj Z<|Rg.callP Z Z Z (run_callF rfl) (shName_spec i (by omega)) ?_
           rintro _ rfl
           refine uj Z (Pv.eqlS Z Z)<|qj Z Z<|nl<|cj Z (fun h61 => ?_) (fun h61 => ?_)
           · refine sj [.p] Z<|aj Z<|nl<|Vc.ret (Vc.rets Z (.cons (.tmp Z) (.nil)) ?_)
             exact ⟨true,rfl,fun _=>.inr (.inr ⟨h56,.inr ⟨i,by omega,kSd_eq h61⟩⟩),fun _=>rfl⟩
           · refine kj<|dj<|tj [.p,.p] Z<|uj Z (Pv.asI (i+1) (Pv.add rfl rfl (by omega)) (by omega))<|mj Z<|nl ?_
             exact Vc.inv1 (i+1) ⟨⟨by omega,fun h i' hi'=>by
              rcases Nat.lt_or_ge i' i with h' | h'
              · exact hno h i' h'
              · obtain rfl:i'=i:=by omega
                exact kSd_ne h61⟩,by omega⟩ (.cons rfl (.cons rfl (.cons rfl (.cons rfl .nil)))) pulled
         · iterate 4 (first | refine Rg.skipP rfl rfl rfl ?_ | refine Rg.skipR rfl rfl rfl ?_ | refine Rg.skipE rfl rfl rfl ?_)
           refine pj Z Z<|nl<|Vc.condF Z<|kj<|dj<|tj [.p,.p] Z<|uj Z (Pv.asI (i+1) (Pv.add rfl rfl (by omega)) (by omega))<|mj Z<|nl ?_
           exact Vc.inv1 (i+1) ⟨⟨by omega,fun h=>by cases h56.symm.trans h⟩,by omega⟩ (.cons rfl (.cons rfl (.cons rfl (.cons rfl .nil)))) pulled
       · simp only [decide_eq_false_iff_not] at h53
         obtain rfl:i=m.sh:=by omega
         refine Vc.exit Z<|sj [.p] Z<|aj Z<|nl<|Vc.ret (Vc.rets Z (.cons (.tmp Z) (.nil)) ?_)
         exact no_stays hk0 hk1 fun h=>⟨fun j _ _ e=>of_decide_eq_false h24 (by rw [e]; exact stP_st j),hno h⟩
end
end Go.Proofs.YtkpiakgmkpbikaaGreatDoor
namespace Go.Proofs.YtkpiakgmkpbikaaGreatDoor
def NmsOk (C:Cx):Prop:=∀k∈C.S,k.length<1000∧(stP <+: k→k=stT∨∃j,j<10∧k=stN j)
def Swept (C:Cx) (m:Ma) (is:Bool) (D:Dk) (e:Int) (D':Dk):Prop:=Wz C D'∧((e=0∧Gd (fun k=>¬Stays k m is) D D'∧∀k,¬Stays k m is→findF D'.files k=none)∨(e=7∧Dn (fun k=>¬Stays k m is) D D'))
theorem names_mem {D:Dk} {k:Nm}:k∈D.files.map (·.1)↔findF D.files k≠none:=by
 constructor
 · intro h e
   obtain ⟨p,hp,rfl⟩:=List.mem_map.1 h
   exact findF_none e p hp rfl
 · intro h
   obtain ⟨f,hf⟩:=Option.ne_none_iff_exists'.1 h
   exact List.mem_map.2 ⟨_,findF_some hf,rfl⟩
section
variable {F : Fm} {db : Nat} {C : Cx} {D : Dk} {s : Hl}
set_option maxHeartbeats 4000000 in
theorem sweep_z (hA:AtoiN F) (hN:NmsOk C) {o0 o1:Option Ma} (h0:SlotI D 0 o0) (h1:SlotI D 1 o1) (hsh:((pickM o0 o1).getD ma0).sh<100) (hC:C.Ok) (hD:DiskAt db D s) (hw:Wz C D) (hup:D.down=false) :
 Spec Tryz.prog 53 #[.pointer (some ⟨db,0,none⟩)] F s fun v s'=>∃e D',v=.int .i64 e∧DiskAt db D' s'∧Swept C ((pickM o0 o1).getD ma0) (pickM o0 o1).isSome D e D':=by
 refine Spec.of (n:=44) (vs:=[.pointer (some ⟨db,0,none⟩)]) Tryz.func53 rfl Tryz.ntmps53 rfl ?_
 refine sj [.p] Z<|aj Z<|nl<|sj [.p,.e,.p,.p,.p,.p,.e,.e,.p,.p] Z<|mj Z<|Rg.callH Z Z Z (run_callF Z) (fun F' hF'=>load_z (F:=F') h0 h1 hC hD hw hup) Z ?_
 rintro _ s12 ⟨m,bb,e1,D1,rfl,hD1,hO1⟩
 refine mj Z<|xj Z Z<|xj Z Z<|xj Z Z<|Rg.alloc Z Z Z Z (fun b3 => ?_)
 refine Rg.storeA (us:=maC m) Z Z Z Z Z Z Z Z<|aj Z<|aj Z<|nl<|wj<|sj [.p,.p] Z<|mj Z<|uj Z (Pv.neq Z Z)<|nl<|cj Z (fun h17 => ?_) (fun h17 => ?_)
 · simp only [bne_iff_ne,ne_eq] at h17
   obtain ⟨he7,hB⟩:=hO1.bad h17
   subst he7
   refine sj [.p,.p] Z<|mj Z<|aj Z<|nl ?_
   exact Vc.ret (Vc.retsH rfl (.cons (.tmp rfl) (.nil)) (⟨7,D1,rfl,hD1,hO1.1,.inr ⟨rfl,hB.any⟩⟩) pulled)
 · simp only [bne_eq_false_iff_eq] at h17
   subst h17
   obtain ⟨_,hG1,hm,hbb⟩:=hO1.good (by decide)
   rw [←hm,←hbb]
   rw [←hm] at hsh
   refine kj<|sj [.p,.e,.p,.p,.p,.p,.p] Z<|mj Z<|Rg.callH Z Z Z (run_callF Z) (fun F' hF'=>list_z (F:=F') hC hD1 hO1.1) Z ?_
   rintro _ _ ⟨u,s1,s2,ns,e2,D2,rfl,own,hD2,hO2,rfl⟩
   rw [List.append_assoc]
   refine mj Z<|xj Z Z<|xj Z Z<|aj Z<|aj Z<|nl<|wj<|sj [.p,.p] Z<|mj Z<|uj Z (Pv.neq Z Z)<|nl<|cj Z (fun h25 => ?_) (fun h25 => ?_)
   · simp only [bne_iff_ne,ne_eq] at h25
     obtain ⟨he7,hB⟩:=hO2.bad h25
     subst he7
     refine sj [.p,.p] Z<|mj Z<|aj Z<|nl ?_
     exact Vc.ret (Vc.retsH rfl (.cons (.tmp rfl) (.nil)) (⟨7,D2,rfl,hD2,hO2.1,.inr ⟨rfl,(hG1.dn hB).any⟩⟩) pulled)
   · simp only [bne_eq_false_iff_eq] at h25
     subst h25
     obtain ⟨_,hG2,hns,hfe⟩:=hO2.good (by decide)
     have hp:ns.Perm (D1.files.map (·.1)):=by rw [hns]; exact List.mergeSort_perm _ _
     have hnd:ns.Nodup:=hp.nodup_iff.2 hO1.1.nodup
     have hmem:∀k,k∈ns↔findF D.files k≠none:=fun k=>by rw [hp.mem_iff,names_mem,hG1.same k id]
     have hfew:ns.length≤1000:=by
      have h1:=nodup_sub_length hnd (b:=C.S) (fun x hx=>by
       obtain ⟨p,hpm,rfl⟩:=List.mem_map.1 (hp.mem_iff.1 hx)
       exact hO1.1.names p hpm)
      have:=hC.sz; omega
     obtain ⟨pn,cn,rfl⟩:=own.shape
     refine kj<|wj<|sj [.p,.p,.p] Z<|mj Z<|uj Z (Pv.lenS Z)<|mj Z<|nl<|bj ?_
     refine Vc.loop3 (fun (i:Nat) (D':Dk) (g:Hl)=>i≤ns.length∧DiskAt db D' g∧Wz C D'∧Gd (fun x=>¬Stays x m bb∧x∈ns.take i) D D'∧(∀x∈ns.take i,¬Stays x m bb→findF D'.files x=none)) (fun i D' g=>[(0,.pointer (some ⟨db,0,none⟩)),(3,.pointer (some ⟨b3,0,none⟩)),(4,.bool bb),(27,.slice pn ns.length cn),(28,.int .i64 (ns.length:Int)),(29,.int .i64 (i:Int))]) (fun i D' g=>(b3,cellsO (maC m) 126)::(s1++g)) (fun i D' g=>ns.length-i) 0 D2 s2 ⟨Nat.zero_le _,hD2,hO2.1,(hG1.trans hG2).any,fun x hx=>by simp at hx⟩ (.cons rfl (.cons rfl (.cons rfl (.cons rfl (.cons rfl (.cons rfl .nil)))))) pulled ?_
     rintro i D3 g ⟨hi,hD3,hW3,hG3,hno3⟩
     refine sj [.p] Z<|uj Z (Pv.lss Z Z)<|nl<|wj<|cj Z (fun h30 => ?_) (fun h30 => ?_)
     · simp only [decide_eq_true_eq] at h30
       have hil:i<ns.length:=by omega
       obtain ⟨bn,cn2,spn,e,_⟩:=own.block (by omega)
       injection e with e1 e2 e3
       subst e1
       have htk:ns.take (i+1)=ns.take i++[ns[i]!]:=by rw [List.take_succ_eq_append_getElem hil,getElem!_pos ns i hil]
       have hxm:ns[i]! ∈ ns:=by rw [getElem!_pos ns i hil]; exact List.getElem_mem _
       generalize hx:ns[i]! = x at htk hxm
       have hxS:x∈C.S:=by
        obtain ⟨p,hpm,rfl⟩:=List.mem_map.1 (hp.mem_iff.1 hxm)
        exact hO1.1.names p hpm
       have hxt:x∉ns.take i:=fun h=>by
        have h2:=hnd
        rw [←List.take_append_drop (i+1) ns,htk] at h2
        have:=(List.nodup_append.1 (List.nodup_append.1 h2).1).2.2 x h x (by simp)
        exact this rfl
       have hxD3:findF D3.files x≠none:=by rw [hG3.same x (fun h=>hxt h.2)]; exact (hmem x).1 hxm
       refine kj<|wj<|bj<|sj [.p,.r,.p] Z<|uj Z (Pv.ixA (i) rfl rfl (by omega) (by omega))<|rj Z (Ev.as (kS x) (Ev.ldS (E:=strE) i (Src.own (rest:=[]) own (fun x hx=>by simp [hx])) rfl rfl rfl hil) (congrArg kS hx))<|aj Z<|nl<|wj<|sj [.p,.r,.p,.e] Z<|mj Z<|rj Z (Ev.as (maV m) (Ev.ldA Z Z) Z)<|mj Z<|Rg.callA Z Z Z (run_callF rfl) (stays_spec (k:=x) (m:=m) (is:=bb) (fun F' hF'=>hA F' fun b o h=>hF' b o (by exact Or.inr h)) (hN x hxS).1 hsh (hN x hxS).2) ?_
       rintro v36 s36 ⟨bs,rfl,hbs⟩
       refine nl<|cj Z (fun h36 => ?_) (fun h36 => ?_)
       · have hst:=hbs.1 h36
         refine Vc.exit Z<|tj [.p,.p] Z<|uj Z (Pv.asI (i+1) (Pv.add rfl rfl (by omega)) (by omega))<|mj Z<|nl ?_
         exact Vc.inv3 (i+1) D3 g ⟨⟨by omega,hD3,hW3,hG3.mono fun y hy=>⟨hy.1,by rw [htk]; exact List.mem_append_left _ hy.2⟩,fun y hy hny=>by
          rw [htk] at hy
          rcases List.mem_append.1 hy with hy | hy
          · exact hno3 y hy hny
          · rw [List.mem_singleton] at hy; subst hy; exact absurd hst hny⟩,by omega⟩ (.cons rfl (.cons rfl (.cons rfl (.cons rfl (.cons rfl (.cons rfl .nil)))))) pulled
       · have hnst : ¬Stays x m bb:=fun h=>by rw [hbs.2 h] at h36; cases h36
         refine kj<|sj [.p,.p,.e,.p] Z<|mj Z<|mj Z<|Rg.callH Z Z Z (run_callF Z) (fun F' hF'=>remove_zx (F:=F') hC hD3 hW3 x) Z ?_
         rintro _ g4 ⟨e4,D4,rfl,hD4,hW4,hO4⟩
         refine aj Z<|nl<|sj [.p,.p] Z<|mj Z<|uj Z (Pv.neq Z Z)<|nl<|cj Z (fun h41 => ?_) (fun h41 => ?_)
         · simp only [bne_iff_ne,ne_eq] at h41
           obtain ⟨he7,hB⟩:=hO4.resolve_left (fun h=>h.1.elim h41 (fun h=>hxD3 h.2))
           subst he7
           refine sj [.p,.p] Z<|mj Z<|aj Z<|nl ?_
           exact Vc.ret (Vc.retsH rfl (.cons (.tmp rfl) (.nil)) (⟨7,D4,rfl,hD4,hW4,.inr ⟨rfl,(hG3.mono fun y hy=>hy.1).dn hB.any⟩⟩) pulled)
         · simp only [bne_eq_false_iff_eq] at h41
           subst h41
           obtain ⟨_,hG4,hn4⟩:=hO4.resolve_right (fun h=>by cases h.1)
           refine kj<|dj<|tj [.p,.p] Z<|uj Z (Pv.asI (i+1) (Pv.add rfl rfl (by omega)) (by omega))<|mj Z<|nl ?_
           exact Vc.inv3 (i+1) D4 g4 ⟨⟨by omega,hD4,hW4,(hG3.mono fun y hy=>⟨hy.1,by rw [htk]; exact List.mem_append_left _ hy.2⟩).trans (hG4.mono fun y hy=>by rw [hy]; exact ⟨hnst,by rw [htk]; simp⟩),fun y hy hny=>by
            rw [htk] at hy
            by_cases e:y=x
            · rw [e]; exact hn4
            · rw [hG4.same y e]
              exact hno3 y ((List.mem_append.1 hy).resolve_right fun h=>e (List.mem_singleton.1 h)) hny⟩,by omega⟩ (.cons rfl (.cons rfl (.cons rfl (.cons rfl (.cons rfl (.cons rfl .nil)))))) pulled
     · simp only [decide_eq_false_iff_not] at h30
       obtain rfl:i=ns.length:=by omega
       rw [List.take_length] at hG3 hno3
       refine Vc.exit Z<|sj [.p] Z<|aj Z<|nl ?_
       exact Vc.ret (Vc.retsH rfl (.cons (.tmp rfl) (.nil)) (⟨0,D3,rfl,hD3,hW3,.inl ⟨rfl,hG3.mono fun y hy=>hy.1,fun y hny=>by
        by_cases hy:y∈ns
        · exact hno3 y hy hny
        · rw [hG3.same y fun h=>hy h.2]
          exact Classical.byContradiction fun h=>hy ((hmem y).2 h)⟩⟩) pulled)
end
end Go.Proofs.YtkpiakgmkpbikaaGreatDoor
namespace Go.Proofs.YtkpiakgmkpbikaaGreatDoor
abbrev enC (db:Nat) (B:Int) (m:Ma) (is dd:Bool):List Value:=[.pointer (some ⟨db,0,none⟩),.int .i64 B,.int .u64 (m.seq:Int),.int .i64 (m.n:Int),.int .i64 (m.sh:Int),.int .i64 m.step,.int .i64 m.p.kind,.int .u32 (m.p.start:Int),.bool is,.bool dd]
abbrev enO (db:Nat) (B:Int) (m:Ma) (is dd:Bool):Obj:=cellsO (enC db B m is dd) 130
def Ma.next (m:Ma):Ma:=⟨m.seq+1,m.n,m.sh,m.step,m.p⟩
section
variable {F : Fm} {db eb : Nat} {B : Int} {C : Cx} {D : Dk} {s : Hl} {m : Ma} {is dd : Bool}
theorem told_spec (e:Nat) (he:e≠6):Spec Tryz.prog 185 #[.pointer (some ⟨eb,0,none⟩),.int .i64 (e:Int)] F [(eb,enO db B m is dd)] fun v s'=>v=.int .i64 (e:Int)∧s'=[(eb,enO db B m is (dd||decide (e=7)))]:=by
 refine Spec.of (n:=23) (vs:=[.pointer (some ⟨eb,0,none⟩),.int .i64 (e:Int)]) Tryz.func185 rfl Tryz.ntmps185 rfl ?_
 refine sj [.p] Z<|aj Z<|nl<|wj<|sj [.p] Z<|mj Z<|nl<|bj<|sj [.p,.p] Z<|uj Z (Pv.eql Z Z)<|aj Z<|nl<|cj Z (fun h6 => ?_) (fun h6 => ?_)
 · simp only [beq_iff_eq] at h6
   have h7:e=7:=by omega
   subst h7
   refine tj [.p,.p,.p,.e] Z<|mj Z<|nj Z<|fj Z ?_
   refine Rg.store Z Z Z Z Z Z Z Z<|nl<|dj<|sj [.p,.p] Z<|mj Z<|aj Z<|nl ?_
   exact Vc.ret (Vc.retsH (hl':=[(eb,enO db B m is true)]) rfl (.cons (.tmp rfl) .nil) ⟨rfl,by simp⟩ pulled)
 · simp only [beq_eq_false_iff_ne,ne_eq] at h6
   have h7:decide (e=7)=false:=by simp; omega
   refine sj [.p,.p] Z<|uj Z (Pv.eql Z Z)<|aj Z<|nl<|cj Z (fun h11=>absurd h11 (by simp; omega)) (fun h11 => ?_)
   refine kj<|dj<|sj [.p,.p] Z<|mj Z<|aj Z<|nl ?_
   exact Vc.ret (Vc.retsH (hl':=[(eb,enO db B m is dd)]) rfl (.cons (.tmp rfl) .nil) ⟨rfl,by rw [h7,Bool.or_false]⟩ pulled)
set_option maxHeartbeats 4000000 in
theorem saves_z {m':Ma} (hm:OkM m'.next) (hC:C.Ok) (hk:slT∈C.S) (hk2:slN ((m'.seq+1) % 2)∈C.S) (hcap:54≤C.cap) (hD:DiskAt db D s) (hw:Wz C D) :
 Spec Tryz.prog 184 #[.pointer (some ⟨eb,0,none⟩),maV m'] F ((eb,enO db B m is dd)::s) fun v s'=>∃e D' m2 is2 g,v=.int .i64 e∧s'=(eb,enO db B m2 is2 dd)::g∧DiskAt db D' g∧((e=0∧m2=m'.next∧is2=true)∨(e=7∧m2=m∧is2=is))∧Puts C slT (slN ((m'.seq+1) % 2)) (maB m'.next) D e D':=by
 have hsq:=hm.seq.2
 simp only [Ma.next] at hsq
 refine Spec.of (n:=26) (vs:=[.pointer (some ⟨eb,0,none⟩),maV m']) Tryz.func184 rfl Tryz.ntmps184 rfl ?_
 refine sj [.e,.p] Z<|Rg.box Z Z Z Z Z (fun b3 => ?_)
 refine aj Z<|nl<|sj [.p,.r,.p,.p,.e] Z<|fj Z<|lj Z Z<|uj Z (Pv.asI (m'.seq+1) (Pv.addW rfl rfl) (by rw [show (((m'.seq:Nat):Int)+1)=((m'.seq+1:Nat):Int) by omega]; exact wrap_ult rfl (by show _<2 ^ 64; omega)))<|fj Z ?_
 refine Rg.store Z Z Z Z Z Z Z Z<|nl<|wj<|wj ?_
 refine Vc.draw [5] (sd [(0,.pure),(1,.pure),(2,.pure),(3,.read),(4,.read),(5,.eff),(6,.pure)]) mixed (by kernel_rfl)<|mj Z<|nj Z<|fj Z<|lj Z Z<|rj Z (Ev.as (maV m'.next) (Ev.ldA Z Z) Z) ?_
 refine Rg.callH Z Z Z (run_callF Z) (fun F' hF'=>save_z (F:=F') hm hC hk hk2 hcap hD hw) Z ?_
 rintro _ g ⟨e,D1,rfl,hD1,hP⟩
 refine aj Z<|nl<|sj [.p,.p] Z<|mj Z<|uj Z (Pv.neq Z Z)<|nl<|cj Z (fun h17 => ?_) (fun h17 => ?_)
 · simp only [bne_iff_ne,ne_eq] at h17
   have he7:e=7:=(hP.2.resolve_left fun h=>h17 h.1).1
   refine sj [.p,.p] Z<|mj Z<|aj Z<|nl ?_
   exact Vc.ret (Vc.retsH rfl (.cons (.tmp rfl) (.nil)) (⟨e,D1,m,is,g,rfl,rfl,hD1,.inr ⟨he7,rfl,rfl⟩,hP⟩) pulled)
 · simp only [bne_eq_false_iff_eq] at h17
   subst h17
   refine kj<|sj [.p,.p,.r,.p,.p,.e,.p,.p,.e] Z<|mj Z<|mj Z<|rj Z (Ev.as (maV m'.next) (Ev.ldA Z Z) Z)<|nj Z<|fj Z ?_
   refine Rg.storeA (us:=maC m'.next) Z Z Z Z Z Z Z Z<|nj Z<|fj Z ?_
   refine Rg.store Z Z Z Z Z Z Z Z<|nl<|sj [.p] Z<|aj Z<|nl ?_
   exact Vc.ret (Vc.retsH rfl (.cons (.tmp rfl) (.nil)) (⟨0,D1,m'.next,true,g,rfl,rfl,hD1,.inl ⟨rfl,rfl,rfl⟩,hP⟩) pulled)
end
end Go.Proofs.YtkpiakgmkpbikaaGreatDoor
namespace Go.Proofs.YtkpiakgmkpbikaaGreatDoor
theorem stN_slT (j:Nat):stN j≠slT:=by simp [stN,slT]
theorem stN_slN (j i:Nat):stN j≠slN i:=by simp [stN,slN]
theorem stT_slT:stT≠slT:=by decide
theorem stT_slN (i:Nat):stT≠slN i:=by simp [stT,slN]
def DoesT (at_:Nat) (x:Nm):Prop:=x=stT∨x=stN at_∨x=slT
section
variable {F : Fm} {db eb : Nat} {B : Int} {C : Cx} {D : Dk} {s : Hl} {m : Ma} {dd : Bool} {p : Prg}
set_option maxHeartbeats 4000000 in
theorem does_z {a b:Value} {c:Cf} {n:Nat} (h:CfA F a b c) (hi:InC c n) (hn:n≤100) (at_:Nat) (hat:at_<100) (hm:OkM (Ma.next ⟨m.seq,m.n,m.sh,at_,p⟩)) (hC:C.Ok) (hk:slT∈C.S) (hk2:slN ((m.seq+1) % 2)∈C.S) (hk3:stT∈C.S) (hk4:stN at_∈C.S) (hcap:1000≤C.cap) (hD:DiskAt db D s) (hw:Wz C D) :
 Spec Tryz.prog 195 #[.pointer (some ⟨eb,0,none⟩),prV p,.int .i64 (at_:Int),cfV a b] F ((eb,enO db B m true dd)::s) fun v s'=>∃e D' m2 g,v=.int .i64 e∧s'=(eb,enO db B m2 true dd)::g∧DiskAt db D' g∧Wz C D' ∧
  ((e=0∧m2=Ma.next ⟨m.seq,m.n,m.sh,at_,p⟩∧Gd (fun x=>DoesT at_ x∨x=slN ((m.seq+1) % 2)) D D'∧findF D'.files stT=none∧findF D'.files slT=none∧findF D'.files (stN at_)=some ⟨stB at_ c,stB at_ c⟩∧findF D'.files (slN ((m.seq+1) % 2))=some ⟨maB m2,maB m2⟩)∨(e=7∧m2=m∧Dn (DoesT at_) D D')):=by
 obtain ⟨pv,cv,e1⟩:=h.va.shape
 obtain ⟨pl,cl,e2⟩:=h.la.shape
 subst e1; subst e2
 refine Spec.of (n:=32) (vs:=[.pointer (some ⟨eb,0,none⟩),prV p,.int .i64 (at_:Int),cfV (.slice pv c.vals.length cv) (.slice pl c.live.length cl)]) Tryz.func195 rfl Tryz.ntmps195 rfl ?_
 refine sj [.e,.e,.p] Z<|Rg.box Z Z Z Z Z (fun b5 => ?_)
 refine Rg.box Z Z Z Z Z (fun b7 => ?_)
 refine aj Z<|nl<|wj ?_
 refine Vc.draw [6] (sd [(0,.pure),(1,.pure),(2,.pure),(3,.read),(4,.pure),(5,.read),(6,.eff),(7,.pure)]) mixed (by kernel_rfl)<|mj Z<|nj Z<|fj Z<|lj Z Z<|mj Z<|rj Z (Ev.as (cfV (.slice pv c.vals.length cv) (.slice pl c.live.length cl)) (Ev.ldA Z Z) Z) ?_
 refine Rg.callH Z Z Z (run_callF Z) (fun F' hF'=>keep_z (F:=F') (h.mono fun b o h=>hF' b o (.inr h)) hi hn at_ hat hC hk3 hk4 hcap hD hw) Z ?_
 rintro _ g ⟨e,D1,rfl,hD1,hw1,hO1⟩
 refine aj Z<|nl<|wj<|sj [.p,.p] Z<|mj Z<|uj Z (Pv.neq Z Z)<|nl<|cj Z (fun h19 => ?_) (fun h19 => ?_)
 · simp only [bne_iff_ne,ne_eq] at h19
   obtain ⟨he7,hB⟩:=hO1.resolve_left fun h=>h19 h.1
   refine sj [.p,.p] Z<|mj Z<|aj Z<|nl ?_
   exact Vc.ret (Vc.retsH rfl (.cons (.tmp rfl) (.nil)) (⟨e,D1,m,g,rfl,rfl,hD1,hw1,.inr ⟨he7,rfl,hB.mono fun x hx=>.inl hx⟩⟩) pulled)
 · simp only [bne_eq_false_iff_eq] at h19
   subst h19
   obtain ⟨_,hG1,hT1,hS1⟩:=hO1.resolve_right fun h=>by cases h.1
   refine kj<|sj [.p,.p,.p,.r,.e,.e] Z<|mj Z<|nj Z<|fj Z<|rj Z (Ev.as (maV m) (Ev.ldA Z Z) Z) ?_
   refine Rg.alloc Z Z Z Z (fun b10 => ?_)
   refine Rg.storeA (us:=maC m) Z Z Z Z Z Z Z Z<|nl<|wj ?_
   refine Vc.drawS [5] (sd [(0,.pure),(1,.read),(2,.pure),(3,.eff),(4,.pure),(5,.eff)]) [(b5,cellsO (prC p) 24)] pulled mixed (by kernel_rfl)<|mj Z<|rj Z (Ev.as (prV p) (Ev.ldA Z Z) Z)<|fj Z ?_
   refine Rg.storeN Z Z Z Z Z Z Z<|fj Z ?_
   refine Rg.storeA (us:=prC p) Z Z Z Z Z Z Z Z<|nl<|sj [.p,.r,.e,.p] Z<|mj Z<|rj Z (Ev.as (maV ⟨m.seq,m.n,m.sh,at_,p⟩) (Ev.ldA Z Z) Z)<|Rg.callH Z Z Z (run_callF rfl) (fun F' hF'=>saves_z (F:=F') (B:=B) (m:=m) (is:=true) (dd:=dd) (m':=⟨m.seq,m.n,m.sh,at_,p⟩) hm hC hk hk2 (by omega) hD1 hw1) rfl ?_
   rintro _ _ ⟨e2,D2,m2,is2,g2,rfl,rfl,hD2,hor,hw2,hP⟩
   have his:is2=true:=hor.elim (fun h=>h.2.2) (fun h=>h.2.2)
   subst his
   refine aj Z<|nl ?_
   exact Vc.ret (Vc.retsH rfl (.cons (.tmp rfl) (.nil)) (⟨e2,D2,m2,g2,rfl,rfl,hD2,hw2,by
    rcases hP with ⟨h0,hG2,hT2,hS2⟩ | ⟨h7,hB⟩
    · obtain ⟨_,hm2,_⟩:=hor.resolve_right fun h=>by have:=h.1; omega
      refine .inl ⟨h0,hm2,(hG1.mono fun x hx=>.inl (hx.imp id .inl)).trans (hG2.mono fun x hx=>hx.imp (fun h=>.inr (.inr h)) id),?_,hT2,?_,by rw [hm2]; exact hS2⟩
      · rw [hG2.same _ (fun h=>h.elim stT_slT (stT_slN _))]; exact hT1
      · rw [hG2.same _ (fun h=>h.elim (stN_slT _) (stN_slN _ _))]; exact hS1
    · obtain ⟨_,hm2,_⟩:=hor.resolve_left fun h=>by have:=h.1; omega
      exact .inr ⟨h7,hm2,(hG1.mono fun x hx=>hx.imp id .inl).dn (hB.mono fun x hx=>.inr (.inr hx))⟩⟩) pulled)
end
end Go.Proofs.YtkpiakgmkpbikaaGreatDoor
namespace Go.Proofs.YtkpiakgmkpbikaaGreatDoor
section
variable {F : Fm} {db eb : Nat} {B : Int} {C : Cx} {D : Dk} {s : Hl} {m : Ma} {dd : Bool} {p : Prg}
set_option maxHeartbeats 4000000 in
theorem beginsA_z {c:Cf} {n:Nat} (hi:InC c n) (hn:n≤100) (j:Nat) (hj:j<100) (hst:m.step=(j:Int)) {f:Fl} (hf:findF D.files (stN j)=some f) (hfn:f.now=stB j c) (hC:C.Ok) (hD:DiskAt db D s) (hw:Wz C D) :
 Spec Tryz.prog 192 #[.pointer (some ⟨eb,0,none⟩),prV p] F ((eb,enO db B m true dd)::s) fun v s'=>∃x y e D' s1 g,v=.tuple #[cfV x y,.int .i64 e]∧x.oneCell'=true∧y.oneCell'=true∧s'=(eb,enO db B m true dd)::(s1++g)∧DiskAt db D' g∧Out C none1 (fun _=>CfO (cfV x y) c s1) D 0 e D':=by
 refine Spec.of (n:=45) (vs:=[.pointer (some ⟨eb,0,none⟩),prV p]) Tryz.func192 rfl Tryz.ntmps192 rfl ?_
 refine sj [.e,.e,.p] Z<|Rg.box Z Z Z Z Z (fun b3 => ?_)
 refine Rg.alloc Z Z Z Z (fun b4 => ?_)
 refine aj Z<|nl<|wj<|sj [.p,.p,.p,.p,.r,.p] Z<|mj Z<|nj Z<|fj Z<|fj Z<|rj Z (Ev.as (.int .i64 (j:Int)) (Ev.ld rfl rfl) (by rw [hst]))<|uj Z (Pv.geq Z Z)<|nl<|cj Z (fun h13 => ?_) (fun h13=>absurd h13 (by simp))
 refine wj ?_
 refine Vc.draw [9,12] (sd [(0,.pure),(1,.pure),(2,.pure),(3,.read),(4,.pure),(5,.pure),(6,.pure),(7,.pure),(8,.read),(9,.eff),(10,.pure),(11,.pure),(12,.eff),(13,.pure)]) mixed (by kernel_rfl)<|mj Z<|nj Z<|fj Z<|lj Z Z<|mj Z<|nj Z<|fj Z<|fj Z<|rj Z (Ev.as (.int .i64 (j:Int)) (Ev.ld rfl rfl) (by rw [hst])) ?_
 refine Rg.callH Z Z Z (run_callF Z) (fun F' hF'=>state_z (F:=F') hi hn j hj hf hfn hC hD hw) Z ?_
 rintro _ _ ⟨x,y,e,D1,s1,s2,rfl,hx1,hy1,rfl,hD1,hO1⟩
 rw [List.append_assoc]
 refine xj Z Z<|xj Z Z<|Rg.storeA (us:=[x,y]) rfl rfl rfl rfl rfl (by simp [hx1,hy1]) rfl rfl<|aj Z<|nl ?_
 exact Vc.ret (Vc.retsH rfl (.cons (.cellA rfl rfl) (.cons (.tmp rfl) (.nil))) (⟨x,y,e,D1,s1,s2,rfl,hx1,hy1,rfl,hD1,hO1⟩) pulled)
def DoesP (C:Cx) (m:Ma) (p:Prg) (at_:Nat) (c:Cf) (D:Dk) (e:Int) (D':Dk) (m2:Ma):Prop:=Wz C D' ∧
 ((e=0∧m2=Ma.next ⟨m.seq,m.n,m.sh,at_,p⟩∧Gd (fun x=>DoesT at_ x∨x=slN ((m.seq+1) % 2)) D D'∧findF D'.files stT=none∧findF D'.files slT=none∧findF D'.files (stN at_)=some ⟨stB at_ c,stB at_ c⟩∧findF D'.files (slN ((m.seq+1) % 2))=some ⟨maB m2,maB m2⟩)∨(e=7∧m2=m∧Dn (DoesT at_) D D'))
set_option maxHeartbeats 4000000 in
theorem beginsB_z {n:Nat} (hmn:m.n=n) (hn:n≤100) (hp:p.start<4294967296) (hr:rightP p (n:Int)=true) (hi:InC (startC p n) n) (hst:m.step = -1) (hm:OkM (Ma.next ⟨m.seq,m.n,m.sh,((0:Nat):Int),p⟩)) (hC:C.Ok) (hk:slT∈C.S) (hk2:slN ((m.seq+1) % 2)∈C.S) (hk3:stT∈C.S) (hk4:stN 0∈C.S) (hcap:1000≤C.cap) (hD:DiskAt db D s) (hw:Wz C D) :
 Spec Tryz.prog 192 #[.pointer (some ⟨eb,0,none⟩),prV p] F ((eb,enO db B m true dd)::s) fun v s'=>∃x y e D' m2 s1 g,v=.tuple #[cfV x y,.int .i64 e]∧x.oneCell'=true∧y.oneCell'=true∧s'=(eb,enO db B m2 true dd)::(s1++g)∧DiskAt db D' g∧CfO (cfV x y) (startC p n) s1∧DoesP C m p 0 (startC p n) D e D' m2:=by
 refine Spec.of (n:=45) (vs:=[.pointer (some ⟨eb,0,none⟩),prV p]) Tryz.func192 rfl Tryz.ntmps192 rfl ?_
 refine sj [.e,.e,.p] Z<|Rg.box Z Z Z Z Z (fun b3 => ?_)
 refine Rg.alloc Z Z Z Z (fun b4 => ?_)
 refine aj Z<|nl<|wj<|sj [.p,.p,.p,.p,.r,.p] Z<|mj Z<|nj Z<|fj Z<|fj Z<|rj Z (Ev.as (.int .i64 (-1)) (Ev.ld rfl rfl) (by rw [hst]))<|uj Z (Pv.geq Z Z)<|nl<|cj Z (fun h13=>absurd h13 (by decide)) (fun h13 => ?_)
 refine kj<|wj ?_
 refine Vc.draw [12] (.st 0 .read (.st 1 .pure (.st 2 .pure (.st 3 .pure (.st 4 .pure (.st 5 .read (.st 6 .pure (.two 7 (sd [(8,.pure),(9,.pure),(10,.pure),(11,.eff),(12,.eff),(13,.pure)]) 11 (sd [(7,.eff),(8,.pure),(9,.pure),(10,.pure),(12,.eff),(13,.pure)]))))))))) mixed (by kernel_rfl)<|rj Z (Ev.as (prV p) (Ev.ldA Z Z) Z)<|mj Z<|nj Z<|fj Z<|fj Z<|rj Z (Ev.as (.int .i64 (n:Int)) (Ev.ld rfl rfl) (by rw [hmn]))<|uj Z (Pv.build (c:=#[.int .i64 (n:Int),.slice none 0 0]) Z Z) ?_
 refine Rg.two ?_ ?_
 · refine Rg.callA Z Z Z (run_callF rfl) (tstart_spec hp n (by omega) hr) ?_
   rintro v34 s34 ⟨u34,rfl,x,y,q1,q2,rfl,o1,o2,rfl⟩
   have hx1:=o1.one
   have hy1:=o2.one
   rw [List.append_assoc]
   refine mj Z<|xj Z Z<|xj Z Z<|Rg.alloc Z Z Z Z (fun b6 => ?_)
   refine Rg.storeA (us:=[x,y]) rfl rfl rfl rfl rfl (by simp [hx1,hy1]) rfl rfl<|aj Z<|nl<|wj<|sj [.p,.p] Z<|mj Z<|uj Z (Pv.eql Z Z)<|nl<|cj Z (fun h38 => ?_) (fun h38=>absurd h38 (by decide))
   refine tj [.p,.r,.r,.e,.p] Z<|mj Z<|rj Z (Ev.as (prV p) (Ev.ldA Z Z) Z)<|rj Z (Ev.as (cfV x y) (Ev.ldA Z Z) Z)<|Rg.callH Z Z Z (run_callF rfl) (fun F' hF'=>does_z (F:=F') (B:=B) (m:=m) (dd:=dd) (p:=p) (s:=s) ⟨Arg.own o1 fun b o h=>hF' b o (.inl (by simp [h])),Arg.own o2 fun b o h=>hF' b o (.inl (by simp [h])),by rw [hi.vl,hi.ll],by rw [hi.vl]; omega⟩ hi hn 0 (by omega) hm hC hk hk2 hk3 hk4 hcap hD hw) rfl ?_
   rintro _ _ ⟨e,D1,m2,g,rfl,rfl,hD1,hP⟩
   refine aj Z<|nl<|sj [.r,.p,.e,.p] Z<|rj Z (Ev.as (cfV x y) (Ev.ldA Z Z) Z)<|mj Z<|Rg.storeA (us:=[x,y]) rfl rfl rfl rfl rfl (by simp [hx1,hy1]) rfl rfl<|aj Z<|nl ?_
   exact Vc.ret (Vc.retsH (hl':=(eb,enO db B m2 true dd)::(q1++(q2++g))) rfl (.cons (.cellA rfl rfl) (.cons (.tmp rfl) .nil)) ⟨x,y,e,D1,m2,q1++q2,g,rfl,hx1,hy1,by rw [List.append_assoc],hD1,⟨x,y,q1,q2,rfl,o1,o2,rfl⟩,hP⟩ pulled)
 · refine Rg.alloc Z Z Z Z (fun b6 => ?_)
   refine Rg.callA Z Z Z (run_callF rfl) (tstart_spec hp n (by omega) hr) ?_
   rintro v34 s34 ⟨u34,rfl,x,y,q1,q2,rfl,o1,o2,rfl⟩
   have hx1:=o1.one
   have hy1:=o2.one
   rw [List.append_assoc]
   refine mj Z<|xj Z Z<|xj Z Z<|Rg.storeA (us:=[x,y]) rfl rfl rfl rfl rfl (by simp [hx1,hy1]) rfl rfl<|aj Z<|nl<|wj<|sj [.p,.p] Z<|mj Z<|uj Z (Pv.eql Z Z)<|nl<|cj Z (fun h38 => ?_) (fun h38=>absurd h38 (by decide))
   refine tj [.p,.r,.r,.e,.p] Z<|mj Z<|rj Z (Ev.as (prV p) (Ev.ldA Z Z) Z)<|rj Z (Ev.as (cfV x y) (Ev.ldA Z Z) Z)<|Rg.callH Z Z Z (run_callF rfl) (fun F' hF'=>does_z (F:=F') (B:=B) (m:=m) (dd:=dd) (p:=p) (s:=s) ⟨Arg.own o1 fun b o h=>hF' b o (.inl (by simp [h])),Arg.own o2 fun b o h=>hF' b o (.inl (by simp [h])),by rw [hi.vl,hi.ll],by rw [hi.vl]; omega⟩ hi hn 0 (by omega) hm hC hk hk2 hk3 hk4 hcap hD hw) rfl ?_
   rintro _ _ ⟨e,D1,m2,g,rfl,rfl,hD1,hP⟩
   refine aj Z<|nl<|sj [.r,.p,.e,.p] Z<|rj Z (Ev.as (cfV x y) (Ev.ldA Z Z) Z)<|mj Z<|Rg.storeA (us:=[x,y]) rfl rfl rfl rfl rfl (by simp [hx1,hy1]) rfl rfl<|aj Z<|nl ?_
   exact Vc.ret (Vc.retsH (hl':=(eb,enO db B m2 true dd)::(q1++(q2++g))) rfl (.cons (.cellA rfl rfl) (.cons (.tmp rfl) .nil)) ⟨x,y,e,D1,m2,q1++q2,g,rfl,hx1,hy1,by rw [List.append_assoc],hD1,⟨x,y,q1,q2,rfl,o1,o2,rfl⟩,hP⟩ pulled)
end
end Go.Proofs.YtkpiakgmkpbikaaGreatDoor
namespace Go.Proofs.YtkpiakgmkpbikaaGreatDoor
open ED (Eg)
structure SlotsM (D:Dk) (m:Ma):Prop where
 ok:OkM m
 here:findF D.files (slN (m.seq % 2))=some ⟨maB m,maB m⟩
 other:∃o,SlotI D ((m.seq+1) % 2) o∧∀x,o=some x→x.seq<m.seq
def SlotsN (D:Dk):Prop:=findF D.files (slN 0)=none∧findF D.files (slN 1)=none
def SlotsO (D:Dk):Option Ma→Prop
 | none=>SlotsN D
 | some m=>SlotsM D m
theorem SlotsO.slots {D:Dk} {mo:Option Ma} (h:SlotsO D mo):∃o0 o1,SlotI D 0 o0∧SlotI D 1 o1∧pickM o0 o1=mo:=by
 cases mo with
 | none=>exact ⟨none,none,⟨(fun _ h=>by cases h),h.1⟩,⟨(fun _ h=>by cases h),h.2⟩,rfl⟩
 | some m =>
  obtain ⟨hok,hh,o,ho,hlt⟩:=h
  have hm:OkO (some m):=fun x hx=>by cases hx; exact hok
  rcases Nat.mod_two_eq_zero_or_one m.seq with e | e
  · rw [e] at hh
    rw [show (m.seq+1) % 2=1 by omega] at ho
    refine ⟨some m,o,⟨hm,hh⟩,ho,?_⟩
    cases o with
    | none=>rfl
    | some x =>
     have:=hlt x rfl
     show (if m.seq<x.seq then some x else some m)=some m
     rw [if_neg (by omega)]
  · rw [e] at hh
    rw [show (m.seq+1) % 2=0 by omega] at ho
    refine ⟨o,some m,ho,⟨hm,hh⟩,?_⟩
    cases o with
    | none=>rfl
    | some x =>
     have:=hlt x rfl
     show (if x.seq<m.seq then some m else some x)=some m
     rw [if_pos (by omega)]
theorem SlotsM.next {D D':Dk} {m m2:Ma} (h:SlotsM D m) (hok:OkM m2) (hs:m2.seq=m.seq+1) (hn:findF D'.files (slN ((m.seq+1) % 2))=some ⟨maB m2,maB m2⟩) (ho:findF D'.files (slN (m.seq % 2))=findF D.files (slN (m.seq % 2))):SlotsM D' m2:=by
 refine ⟨hok,by rw [hs]; exact hn,some m,⟨(fun x hx=>by cases hx; exact h.ok),?_⟩,(fun x hx=>by cases hx; omega)⟩
 rw [hs,show (m.seq+1+1) % 2=m.seq % 2 by omega,ho]
 exact h.here
theorem SlotsM.first {D D':Dk} {m2:Ma} (h:SlotsN D) (hok:OkM m2) (hs:m2.seq=1) (hn:findF D'.files (slN 1)=some ⟨maB m2,maB m2⟩) (ho:findF D'.files (slN 0)=findF D.files (slN 0)):SlotsM D' m2:=by
 refine ⟨hok,by rw [hs]; exact hn,none,⟨(fun x hx=>by cases hx),?_⟩,(fun x hx=>by cases hx)⟩
 rw [hs]
 exact ho.trans h.1
theorem kept_set {a b:Option Fl} {f:List UInt8} (h:Kept a b) (ha:a=some ⟨f,f⟩):b=some ⟨f,f⟩:=by
 subst ha
 obtain ⟨f',rfl,hf⟩:=h
 rw [hf rfl]
theorem kept_none {a b:Option Fl} (h:Kept a b) (ha:a=none):b=none:=by subst ha; exact h
theorem SlotI.kept {D D':Dk} {i:Nat} {o:Option Ma} (h:SlotI D i o) (hk:Kept (findF D.files (slN i)) (findF D'.files (slN i))):SlotI D' i o:=by
 refine ⟨h.1,?_⟩
 cases o with
 | none=>exact kept_none hk h.2
 | some m=>exact kept_set hk h.2
theorem SlotsO.kept {D D':Dk} {mo:Option Ma} (h:SlotsO D mo) (hk:∀i,i<2→Kept (findF D.files (slN i)) (findF D'.files (slN i))):SlotsO D' mo:=by
 cases mo with
 | none=>exact ⟨kept_none (hk 0 (by omega)) h.1,kept_none (hk 1 (by omega)) h.2⟩
 | some m =>
  obtain ⟨hok,hh,o,ho,hlt⟩:=h
  exact ⟨hok,kept_set (hk _ (by omega)) hh,o,ho.kept (hk _ (by omega)),hlt⟩
theorem SlotsO.same {D D':Dk} {mo:Option Ma} (h:SlotsO D mo) (hk:∀i,i<2→findF D'.files (slN i)=findF D.files (slN i)):SlotsO D' mo :=
 h.kept fun i hi=>by rw [hk i hi]; exact Kept.refl _
def conf (p:Prg) (n:Nat) (es:List Eg):Nat→Cf
 | 0=>startC p n
 | j+1=>stepT p es (conf p n es j)
structure Lasts (n sh:Nat) (es:List Eg) (D:Dk) (m:Ma):Prop where
 hn:m.n=n
 hsh:m.sh=sh
 shards:∀i,i<sh→ShOk n sh es D i
 steps:∀j:Nat,(j:Int)≤m.step→findF D.files (stN j)=some ⟨stB j (conf m.p n es j),stB j (conf m.p n es j)⟩
theorem Lasts.kept {n sh:Nat} {es:List Eg} {D D':Dk} {m:Ma} (h:Lasts n sh es D m) (h1:∀i,i<sh→Kept (findF D.files (shN i)) (findF D'.files (shN i))) (h2:∀j:Nat,(j:Int)≤m.step→Kept (findF D.files (stN j)) (findF D'.files (stN j))):Lasts n sh es D' m :=
 ⟨h.hn,h.hsh,fun i hi=>kept_set (h1 i hi) (h.shards i hi),fun j hj=>kept_set (h2 j hj) (h.steps j hj)⟩
end Go.Proofs.YtkpiakgmkpbikaaGreatDoor
namespace Go.Proofs.YtkpiakgmkpbikaaGreatDoor
section
variable {F : Fm} {db eb : Nat} {B : Int} {m : Ma} {is dd : Bool}
theorem status_spec (f1:Fat F eb (enO db B m is dd)):Spec Tryz.prog 169 #[.pointer (some ⟨eb,0,none⟩)] F [] fun v _=>v=.tuple #[.bool is,.int .i64 (if is=true then m.step else -1),prV (if is=true then m.p else ⟨0,0⟩)]:=by
 refine Spec.of (n:=21) (vs:=[.pointer (some ⟨eb,0,none⟩)]) Tryz.func169 rfl Tryz.ntmps169 rfl ?_
 refine sj [.p,.p,.e] Z<|aj Z<|aj Z<|Rg.alloc Z Z Z Z (fun b4 => ?_)
 refine nl<|wj<|sj [.p,.p,.p,.r,.p] Z<|mj Z<|nj Z<|fj Z<|lj Z Z<|uj Z (Pv.not Z)<|nl<|cj Z (fun h9 => ?_) (fun h9 => ?_)
 · simp only [Bool.not_eq_true'] at h9
   subst h9
   refine sj [.p,.p,.p,.e] Z<|uj Z (Pv.build (c:=#[.int .i64 0,.int .u32 0]) Z Z)<|aj Z<|aj Z<|Rg.storeA (us:=[.int .i64 0,.int .u32 0]) Z Z Z Z Z Z Z Z<|nl<|Vc.ret (Vc.rets Z (.cons (.tmp Z) (.cons (.tmp Z) (.cons (.cellA Z Z) (.nil)))) ?_)
   rfl
 · simp only [Bool.not_eq_false'] at h9
   subst h9
   refine kj<|wj ?_
   refine Vc.draw [12] (sd [(0,.pure),(1,.pure),(2,.pure),(3,.pure),(4,.read),(5,.pure),(6,.pure),(7,.pure),(8,.pure),(9,.read),(10,.pure),(11,.pure),(12,.eff)]) mixed (by kernel_rfl)<|mj Z<|nj Z<|fj Z<|fj Z<|lj Z Z<|mj Z<|nj Z<|fj Z<|fj Z<|rj Z (Ev.as (prV m.p) (Ev.ldA Z Z) Z)<|aj Z<|aj Z ?_
   refine Rg.storeA (us:=prC m.p) Z Z Z Z Z Z Z Z<|nl<|Vc.ret (Vc.rets Z (.cons (.tmp Z) (.cons (.tmp Z) (.cons (.cellA Z Z) (.nil)))) ?_)
   rfl
end
end Go.Proofs.YtkpiakgmkpbikaaGreatDoor
namespace Go.Proofs.YtkpiakgmkpbikaaGreatDoor
section
variable {F : Fm} {db eb : Nat} {B : Int} {C : Cx} {D : Dk} {s : Hl} {m : Ma}
set_option maxHeartbeats 4000000 in
theorem query_z {c:Cf} {n:Nat} (hi:InC c n) (hn:n≤100) (hmn:m.n=n) (j at_ v:Nat) (hst:m.step=(j:Int)) (hat:at_≤j) (hj:j<100) (hv:v<n) {f:Fl} (hf:findF D.files (stN at_)=some f) (hfn:f.now=stB at_ c) (hC:C.Ok) (hD:DiskAt db D s) (hw:Wz C D) :
 Spec Tryz.prog 180 #[.pointer (some ⟨eb,0,none⟩),.int .i64 (at_:Int),.int .i64 (v:Int)] F ((eb,enO db B m true false)::s) fun w s'=>∃(val:Int) (b:Bool) (e:Int) (D':Dk) (dd:Bool) (g:Hl),w=.tuple #[.int .u64 val,.bool b,.int .i64 e]∧s'=(eb,enO db B m true dd)::g∧DiskAt db D' g∧(e=0→dd=false)∧Out C none1 (fun _=>val=c.vals[v]! ∧ b=c.live[v]!) D 0 e D':=by
 have hvl:=hi.vl
 have hll:=hi.ll
 refine Spec.of (n:=80) (vs:=[.pointer (some ⟨eb,0,none⟩),.int .i64 (at_:Int),.int .i64 (v:Int)]) Tryz.func180 rfl Tryz.ntmps180 rfl ?_
 refine sj [.p,.p,.p] Z<|aj Z<|aj Z<|aj Z<|nl<|wj<|bj<|sj [.p,.p,.p,.r,.p,.p,.p,.p,.r,.p,.p,.p,.p,.p,.p,.p,.r,.p,.p,.p] Z<|mj Z<|nj Z<|fj Z<|lj Z Z<|mj Z ?_
 refine Rg.split (t:=16) rfl (fun h16=>absurd h16 (by decide)) (fun h16 => ?_)
 refine mj Z<|nj Z<|fj Z<|lj Z Z<|uj Z (Pv.not Z)<|pj Z Z<|mj Z ?_
 refine Rg.split (t:=23) rfl (fun h23=>absurd h23 (by decide)) (fun h23 => ?_)
 refine mj Z<|nj Z<|fj Z<|fj Z<|rj Z (Ev.as (.int .i64 (j:Int)) (Ev.ld rfl rfl) (by rw [hst]))<|uj Z (Pv.lss Z Z)<|pj Z Z<|aj Z<|nl<|cj Z (fun h11=>absurd h11 (by simp only [decide_eq_true_eq]; omega)) (fun h11 => ?_)
 refine sj [.p,.p,.p,.p,.p,.p,.p,.p,.r,.p,.p,.p,.p,.p,.p,.p,.p,.p,.p,.p,.p,.r,.p,.p,.p] Z<|mj Z<|uj Z (Pv.lss Z Z)<|mj Z<|Rg.split (t:=34) rfl (fun h34=>absurd h34 (by simp only [decide_eq_true_eq]; omega)) (fun h34 => ?_)
 refine mj Z<|mj Z<|nj Z<|fj Z<|fj Z<|rj Z (Ev.as (.int .i64 (j:Int)) (Ev.ld rfl rfl) (by rw [hst]))<|uj Z (Pv.gtr Z Z)<|pj Z Z<|mj Z ?_
 refine Rg.split (t:=43) rfl (fun h43=>absurd h43 (by simp only [decide_eq_true_eq]; omega)) (fun h43 => ?_)
 refine mj Z<|uj Z (Pv.lss Z Z)<|pj Z Z<|mj Z<|Rg.split (t:=47) rfl (fun h47=>absurd h47 (by simp only [decide_eq_true_eq]; omega)) (fun h47 => ?_)
 refine mj Z<|mj Z<|nj Z<|fj Z<|fj Z<|rj Z (Ev.as (.int .i64 (n:Int)) (Ev.ld rfl rfl) (by rw [hmn]))<|uj Z (Pv.geq Z Z)<|pj Z Z<|aj Z<|nl<|cj Z (fun h31=>absurd h31 (by simp only [decide_eq_true_eq]; omega)) (fun h31 => ?_)
 refine kj<|dj<|sj [.p,.p,.p,.r,.p,.e,.p,.p,.p,.e,.e,.p] Z<|mj Z<|nj Z<|fj Z<|lj Z Z<|mj Z ?_
 refine Rg.callH Z Z Z (run_callF rfl) (fun F' hF'=>state_z (F:=F') hi hn at_ (by omega) hf hfn hC hD hw) rfl ?_
 rintro _ _ ⟨x,y,e,D1,s1,s2,rfl,hx1,hy1,rfl,hD1,hO1⟩
 rw [List.append_assoc]
 refine mj Z<|xj Z Z<|xj Z Z<|Rg.alloc Z Z Z Z (fun b9 => ?_)
 refine Rg.storeA (us:=[x,y]) rfl rfl rfl rfl rfl (by simp [hx1,hy1]) rfl rfl<|aj Z<|nl<|wj<|sj [.p,.p] Z<|mj Z<|uj Z (Pv.neq Z Z)<|nl<|cj Z (fun h66 => ?_) (fun h66 => ?_)
 · simp only [bne_iff_ne,ne_eq] at h66
   obtain ⟨he7,hB⟩:=hO1.bad h66
   subst he7
   refine sj [.p,.p,.e,.p,.p,.p] Z<|mj Z<|mj Z<|Rg.callH Z Z Z (run_callF rfl) (fun F' hF'=>told_spec (F:=F') (db:=db) (B:=B) (m:=m) (is:=true) (dd:=false) 7 (by decide)) rfl ?_
   rintro _ _ ⟨rfl,rfl⟩
   refine aj Z<|aj Z<|aj Z<|nl ?_
   exact Vc.ret (Vc.retsH rfl (.cons (.tmp rfl) (.cons (.tmp rfl) (.cons (.tmp rfl) (.nil)))) (⟨0,false,7,D1,(false||decide (7=7)),s2,rfl,rfl,hD1,(fun h=>by cases h),hO1.1,.inr ⟨rfl,hB⟩⟩) pulled)
 · simp only [bne_eq_false_iff_eq] at h66
   subst h66
   obtain ⟨_,hG1,a,b,q1,q2,hab,o1,o2,rfl⟩:=hO1.good (by decide)
   injection hab with hab
   injection hab with hab
   injection hab with ha hab
   injection hab with hb _
   subst ha; subst hb
   obtain ⟨b1,c1,sp1,e1,_⟩:=o1.block (by omega)
   obtain ⟨b2,c2,sp2,e2,_⟩:=o2.block (by omega)
   subst e1; subst e2
   refine kj<|wj ?_
   refine Vc.draw [] (sd [(0,.pure),(1,.read),(2,.pure),(3,.pure),(4,.read),(5,.pure),(6,.read),(7,.pure),(8,.pure),(9,.read),(10,.pure),(11,.pure),(12,.pure)]) mixed (by kernel_rfl)<|fj Z<|lj Z Z<|mj Z<|uj Z (Pv.ixA (v) rfl rfl (by omega) (by omega))<|rj Z (Ev.as (.int .u64 c.vals[v]!) (Ev.ldS (E:=u64E) v (Src.own (rest:=[]) o1 (fun x hx=>by simp [hx])) rfl rfl rfl (by omega)) rfl)<|fj Z<|lj Z Z<|mj Z<|uj Z (Pv.ixA (v) rfl rfl (by omega) (by omega))<|rj Z (Ev.as (.bool c.live[v]!) (Ev.ldS (E:=boolE) v (Src.own (rest:=[]) o2 (fun x hx=>by simp [hx])) rfl rfl rfl (by omega)) rfl)<|aj Z<|aj Z<|aj Z<|nl ?_
   exact Vc.ret (Vc.retsH rfl (.cons (.tmp rfl) (.cons (.tmp rfl) (.cons (.tmp rfl) (.nil)))) (⟨c.vals[v]!,c.live[v]!,0,D1,false,s2,rfl,rfl,hD1,(fun _=>rfl),hO1.1,.inl ⟨rfl,hG1,rfl,rfl⟩⟩) pulled)
end
end Go.Proofs.YtkpiakgmkpbikaaGreatDoor
namespace Go.Proofs.YtkpiakgmkpbikaaGreatDoor
section
variable {F : Fm} {db : Nat} {C : Cx} {D : Dk} {s : Hl}
set_option maxHeartbeats 600000 in
theorem open_z (hA:AtoiN F) (hN:NmsOk C) {mo:Option Ma} (hS:SlotsO D mo) (hsh:(mo.getD ma0).sh<100) {B:Int} (hB:1≤B) (hC:C.Ok) (hD:DiskAt db D s) (hw:Wz C D) (hup:D.down=false) :
 Spec Tryz.prog 31 #[.pointer (some ⟨db,0,none⟩),.int .i64 B] F s fun v s'=>∃u e D' s1 g,v=.tuple #[u,.int .i64 e]∧s'=s1++g∧DiskAt db D' g∧Wz C D'∧((e=0∧(∃eb,u=.pointer (some ⟨eb,0,none⟩)∧s1=[(eb,enO db B (mo.getD ma0) mo.isSome false)])∧Gd (fun k=>¬Stays k (mo.getD ma0) mo.isSome) D D'∧∀k,¬Stays k (mo.getD ma0) mo.isSome→findF D'.files k=none)∨(e=7∧u=.pointer none∧s1=[]∧Dn (fun k=>¬Stays k (mo.getD ma0) mo.isSome) D D')):=by
 obtain ⟨o0,o1,h0,h1,hp⟩:=hS.slots
 subst hp
 refine Spec.of (n:=32) (vs:=[.pointer (some ⟨db,0,none⟩),.int .i64 B]) Tryz.func31 rfl Tryz.ntmps31 rfl ?_
 refine sj [.p,.p] Z<|aj Z<|aj Z<|nl<|wj<|sj [.p,.p] Z<|mj Z<|uj Z (Pv.lss Z Z)<|nl<|cj Z (fun h11=>absurd h11 (by simp only [decide_eq_true_eq]; omega)) (fun h11 => ?_)
 refine kj<|wj<|sj [.p,.e,.p] Z<|mj Z<|Rg.callH Z Z Z (run_callF Z) (fun F' hF'=>sweep_z (F:=F') (fun F2 hF2=>hA F2 fun b o h=>hF2 b o (hF' b o (.inr h))) hN h0 h1 hsh hC hD hw hup) Z ?_
 rintro _ g ⟨e,D1,rfl,hD1,hw1,hO1⟩
 refine aj Z<|nl<|sj [.p,.p] Z<|mj Z<|uj Z (Pv.neq Z Z)<|nl<|cj Z (fun h15 => ?_) (fun h15 => ?_)
 · simp only [bne_iff_ne,ne_eq] at h15
   obtain ⟨he7,hB1⟩:=hO1.resolve_left fun h=>h15 h.1
   subst he7
   refine sj [.p,.p,.p] Z<|mj Z<|aj Z<|aj Z<|nl ?_
   exact Vc.ret (Vc.retsH (hl':=g) rfl (.cons (.tmp rfl) (.cons (.tmp rfl) .nil)) ⟨_,7,D1,[],g,rfl,rfl,hD1,hw1,.inr ⟨rfl,rfl,rfl,hB1⟩⟩ pulled)
 · simp only [bne_eq_false_iff_eq] at h15
   subst h15
   obtain ⟨_,hG1,hno⟩:=hO1.resolve_right fun h=>by cases h.1
   have g0:SlotI D1 0 o0:=h0.same (hG1.same _ fun h=>h (.inl rfl))
   have g1:SlotI D1 1 o1:=h1.same (hG1.same _ fun h=>h (.inr (.inl rfl)))
   refine kj<|sj [.p,.e,.p,.p,.p,.p,.e,.e,.p,.p] Z<|mj Z<|Rg.callH Z Z Z (run_callF Z) (fun F' hF'=>load_z (F:=F') g0 g1 hC hD1 hw1 hG1.up) Z ?_
   rintro _ g2 ⟨m,bb,e2,D2,rfl,hD2,hO2⟩
   refine mj Z<|xj Z Z<|xj Z Z<|xj Z Z<|Rg.alloc Z Z Z Z (fun b7 => ?_)
   refine Rg.storeA (us:=maC m) Z Z Z Z Z Z Z Z<|aj Z<|aj Z<|nl<|wj<|sj [.p,.p] Z<|mj Z<|uj Z (Pv.neq Z Z)<|nl<|cj Z (fun h24 => ?_) (fun h24 => ?_)
   · simp only [bne_iff_ne,ne_eq] at h24
     obtain ⟨he7,hB2⟩:=hO2.bad h24
     subst he7
     refine sj [.p,.p,.p] Z<|mj Z<|aj Z<|aj Z<|nl ?_
     exact Vc.ret (Vc.retsH (hl':=g2) rfl (.cons (.tmp rfl) (.cons (.tmp rfl) .nil)) ⟨_,7,D2,[],g2,rfl,rfl,hD2,hO2.1,.inr ⟨rfl,rfl,rfl,hG1.dn hB2.any⟩⟩ pulled)
   · simp only [bne_eq_false_iff_eq] at h24
     subst h24
     obtain ⟨_,hG2,hm,hbb⟩:=hO2.good (by decide)
     subst hm; subst hbb
     generalize (pickM o0 o1).getD ma0=mm at hsh hG1 hno ⊢
     generalize (pickM o0 o1).isSome=ib at hG1 hno ⊢
     refine kj<|sj [.p,.p,.r,.p,.p,.e,.p,.p] Z<|mj Z<|mj Z<|rj Z (Ev.as (maV mm) (Ev.ldA Z Z) Z)<|mj Z<|uj Z (Pv.build (c:=#[.pointer (some ⟨db,0,none⟩),.int .i64 B,.int .u64 (mm.seq:Int),.int .i64 (mm.n:Int),.int .i64 (mm.sh:Int),.int .i64 mm.step,.int .i64 mm.p.kind,.int .u32 (mm.p.start:Int),.bool ib,.bool false]) rfl (by kernel_rfl))<|Rg.box Z Z Z Z Z (fun b31 => ?_)
     refine aj Z<|aj Z<|nl ?_
     exact Vc.ret (Vc.retsH rfl (.cons (.tmp rfl) (.cons (.tmp rfl) (.nil))) (⟨_,0,D2,[(b31,enO db B mm ib false)],g2,rfl,rfl,hD2,hO2.1,.inl ⟨rfl,⟨b31,rfl,rfl⟩,hG1.trans hG2.any,fun k hk=>by rw [hG2.same k id]; exact hno k hk⟩⟩) pulled)
end
end Go.Proofs.YtkpiakgmkpbikaaGreatDoor
namespace Go.Proofs.YtkpiakgmkpbikaaGreatDoor
open ED (Eg egV egC edgeE InE grV)
structure Ends (p:Prg) (n:Nat) (es:List Eg) (most d:Nat):Prop where
 le:d≤most
 loud:∀i,i<d→quietC (conf p n es i)=false
 quiet:d<most→quietC (conf p n es d)=true
structure EI (p:Prg) (n sh:Nat) (es:List Eg) (d:Nat) (D:Dk) (m:Ma):Prop where
 slots:SlotsM D m
 lasts:Lasts n sh es D m
 seq:(m.seq:Int)=m.step+2
 how:m.step = -1∨(m.p=p∧∃j:Nat,j≤d∧m.step=(j:Int))
theorem Ends.go {p:Prg} {n:Nat} {es:List Eg} {most d j:Nat} (h:Ends p n es most d) (hj:j≤d) (hm:j<most) (hq:quietC (conf p n es j)=false):j+1≤d:=by
 rcases Nat.lt_or_ge j d with h1 | h1
 · exact h1
 · have e:j=d:=by omega
   subst e
   rw [h.quiet hm] at hq
   cases hq
theorem Ends.stop {p:Prg} {n:Nat} {es:List Eg} {most d j:Nat} (h:Ends p n es most d) (hj:j≤d) (hs : ¬j<most∨quietC (conf p n es j)=true):j=d:=by
 have:=h.le
 rcases Nat.lt_or_ge j d with h1 | h1
 · rcases hs with hs | hs
   · omega
   · rw [h.loud j h1] at hs; cases hs
 · omega
end Go.Proofs.YtkpiakgmkpbikaaGreatDoor
namespace Go.Proofs.YtkpiakgmkpbikaaGreatDoor
open ED (Eg egV egC edgeE InE grV)
theorem slN_inj {i j:Nat} (hi:i<100) (hj:j<100) (h:slN i=slN j):i=j:=dig_inj hi hj (List.append_cancel_left (show [115,108,111,116,46]++dig i=[115,108,111,116,46]++dig j from h))
theorem slN_does (i at_:Nat) (hi:i<100) : ¬DoesT at_ (slN i):=by
 rintro (h | h | h)
 · exact stT_slN i h.symm
 · exact stN_slN _ _ h.symm
 · exact slT_ne i hi h.symm
theorem shN_does (i at_:Nat) : ¬DoesT at_ (shN i):=by
 rintro (h | h | h)
 · simp [shN,stT] at h
 · simp [shN,stN] at h
 · simp [shN,slT] at h
theorem shN_slN (i j:Nat):shN i≠slN j:=by simp [shN,slN]
theorem stN_does {i at_:Nat} (hi:i<100) (ha:at_<100) (hne:i≠at_) : ¬DoesT at_ (stN i):=by
 rintro (h | h | h)
 · exact stT_stN hi h.symm
 · exact hne (stN_inj hi ha h)
 · exact stN_slT _ h
theorem EI.does {C:Cx} {p:Prg} {n sh d at_:Nat} {es:List Eg} {D D':Dk} {m m2:Ma} {e:Int} (h:EI p n sh es d D m) (ha:(at_:Int)=m.step+1) (had:at_≤d) (hd:d<100) (hok:OkM (Ma.next ⟨m.seq,m.n,m.sh,(at_:Int),p⟩)) (hP:DoesP C m p at_ (conf p n es at_) D e D' m2) :
 EI p n sh es d D' m2∧(e=0→m2.step=(at_:Int)∧m2.p=p):=by
 have hsq:=h.seq
 rcases hP.2 with ⟨h0,rfl,hG,_,_,hst,hsl⟩ | ⟨h7,rfl,hB⟩
 · refine ⟨⟨h.slots.next hok rfl hsl (hG.same _ fun hx=>hx.elim (slN_does _ _ (by omega)) fun hx=>by have:=slN_inj (by omega) (by omega) hx; omega),⟨h.lasts.hn,h.lasts.hsh,fun i hi => ?_,fun j hj => ?_⟩,?_,.inr ⟨rfl,at_,had,rfl⟩⟩,fun _=>⟨rfl,rfl⟩⟩
   · have:=h.lasts.shards i hi
     unfold ShOk at this ⊢
     rw [hG.same _ fun hx=>hx.elim (shN_does _ _) (shN_slN _ _)]
     exact this
   · have hj':(j:Int)≤(at_:Int):=hj
     show findF D'.files (stN j)=some ⟨stB j (conf p n es j),stB j (conf p n es j)⟩
     by_cases e1:j=at_
     · rw [e1]; exact hst
     · have hj1:(j:Int)≤m.step:=by omega
       rcases h.how with hm | ⟨hp,_⟩
       · omega
       · rw [hG.same _ fun hx=>hx.elim (stN_does (by omega) (by omega) e1) (stN_slN _ _)]
         have:=h.lasts.steps j hj1
         rwa [hp] at this
   · show ((m.seq+1:Nat):Int)=(at_:Int)+2
     omega
 · refine ⟨⟨SlotsO.kept (mo:=some m2) h.slots fun i hi=>hB.kept _ (slN_does _ _ (by omega)),h.lasts.kept (fun i hi=>hB.kept _ (shN_does _ _)) (fun j hj=>hB.kept _ (stN_does (by omega) (by omega) (by omega))),h.seq,h.how⟩,fun h0=>by omega⟩
end Go.Proofs.YtkpiakgmkpbikaaGreatDoor
namespace Go.Proofs.YtkpiakgmkpbikaaGreatDoor
open ED (Eg egV egC edgeE InE grV)
def RunsT (d:Nat) (x:Nm):Prop:=x=stT∨x=slT∨x=slN 0∨x=slN 1∨∃j,j≤d∧x=stN j
structure RunS (C:Cx) (d:Nat):Prop where
 slT:slT∈C.S
 sl:∀i,i<2→slN i∈C.S
 stT:stT∈C.S
 st:∀j,j≤d→stN j∈C.S
 cap:1000≤C.cap
theorem EI.ok {p:Prg} {n sh d at_:Nat} {es:List Eg} {D:Dk} {m:Ma} (h:EI p n sh es d D m) (hat:at_<100) (hms:m.step<100) (hp:p.start<4294967296) (hr:rightP p (n:Int)=true):OkM (Ma.next ⟨m.seq,m.n,m.sh,(at_:Int),p⟩):=by
 have hok:=h.slots.ok
 have hsq:=h.seq
 refine ⟨?_,hok.n,hok.sh,hp,.inr ⟨by show (0:Int)≤(at_:Int); omega,by show (at_:Int)≤_; omega,by show rightP p (m.n:Int)=true; rw [h.lasts.hn]; exact hr⟩⟩
 show 1≤m.seq+1∧m.seq+1<9223372036854775808
 omega
theorem EI.kept {p:Prg} {n sh d:Nat} {es:List Eg} {D D':Dk} {m:Ma} (h:EI p n sh es d D m) (hk:∀k,Kept (findF D.files k) (findF D'.files k)):EI p n sh es d D' m :=
 ⟨SlotsO.kept (mo:=some m) h.slots fun i hi=>hk _,h.lasts.kept (fun i hi=>hk _) (fun j hj=>hk _),h.seq,h.how⟩
theorem does_runs {d at_ q:Nat} (ha:at_≤d) (x:Nm) (h:DoesT at_ x∨x=slN (q % 2)):RunsT d x:=by
 rcases h with (h | h | h) | h
 · exact .inl h
 · exact .inr (.inr (.inr (.inr ⟨at_,ha,h⟩)))
 · exact .inr (.inl h)
 · rcases Nat.mod_two_eq_zero_or_one q with e | e
   · rw [e] at h; exact .inr (.inr (.inl h))
   · rw [e] at h; exact .inr (.inr (.inr (.inl h)))
section
variable {F : Fm} {db eb : Nat} {B : Int} {C : Cx} {D : Dk} {s : Hl} {m : Ma} {dd : Bool} {p : Prg} {n sh d : Nat} {es : List Eg}
theorem begin_z (hE:EI p n sh es d D m) (hd:d≤50) (hp:p.start<4294967296) (hr:rightP p (n:Int)=true) (hn:n≤100) (hin:∀j,InC (conf p n es j) n) (hS:RunS C d) (hC:C.Ok) (hD:DiskAt db D s) (hw:Wz C D) :
 Spec Tryz.prog 192 #[.pointer (some ⟨eb,0,none⟩),prV p] F ((eb,enO db B m true dd)::s) fun v s'=>∃x y e D' m2 s1 g,v=.tuple #[cfV x y,.int .i64 e]∧x.oneCell'=true∧y.oneCell'=true∧s'=(eb,enO db B m2 true dd)::(s1++g)∧DiskAt db D' g∧Wz C D'∧EI p n sh es d D' m2 ∧
  ((e=0∧Gd (RunsT d) D D'∧∃j:Nat,j≤d∧m2.step=(j:Int)∧m2.p=p∧CfO (cfV x y) (conf p n es j) s1)∨(e=7∧Dn (RunsT d) D D')):=by
 rcases hE.how with hst | ⟨hmp,j,hj,hst⟩
 · have hok:=hE.ok (at_:=0) (by omega) (by omega) hp hr
   refine (beginsB_z hE.lasts.hn hn hp hr (hin 0) hst hok hC hS.slT (hS.sl _ (by omega)) hS.stT (hS.st 0 (by omega)) hS.cap hD hw).mono ?_
   rintro v s ⟨x,y,e,D',m2,s1,g,hv,hx,hy,hs,hD',hc,hP⟩
   obtain ⟨hE2,hz⟩:=hE.does (at_:=0) (by omega) (by omega) (by omega) hok hP
   refine ⟨x,y,e,D',m2,s1,g,hv,hx,hy,hs,hD',hP.1,hE2,?_⟩
   rcases hP.2 with ⟨h0,_,hG,_⟩ | ⟨h7,_,hB⟩
   · exact .inl ⟨h0,hG.mono (does_runs (by omega)),0,by omega,(hz h0).1,(hz h0).2,hc⟩
   · exact .inr ⟨h7,hB.mono fun x hx=>does_runs (q:=0) (Nat.zero_le d) x (.inl hx)⟩
 · have hf:=hE.lasts.steps j (by omega)
   rw [hmp] at hf
   refine (beginsA_z (hin j) hn j (by omega) hst hf rfl hC hD hw).mono ?_
   rintro v s ⟨x,y,e,D',s1,g,hv,hx,hy,hs,hD',hO⟩
   refine ⟨x,y,e,D',m,s1,g,hv,hx,hy,hs,hD',hO.1,hE.kept fun k => ?_,?_⟩
   · rcases hO.2 with ⟨_,hG,_⟩ | ⟨_,hB⟩
     · rw [hG.same k id]; exact Kept.refl _
     · exact hB.kept k id
   · exact hO.2.imp (fun h=>⟨h.1,h.2.1.any,j,hj,hst,hmp,h.2.2⟩) fun h=>⟨h.1,h.2.any⟩
end
end Go.Proofs.YtkpiakgmkpbikaaGreatDoor
