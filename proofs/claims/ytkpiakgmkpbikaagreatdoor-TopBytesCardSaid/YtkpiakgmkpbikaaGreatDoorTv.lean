/- Proved here: steps of the proof (To Tu Tv). -/
import Derived.Test.YtkpiakgmkpbikaaGreatDoorTm
import Derived.Test.YtkpiakgmkpbikaaGreatDoorTt
set_option linter.unusedVariables false
namespace Go.Proofs.YtkpiakgmkpbikaaGreatDoor
theorem InRs.nn {l:List Rc} (h:InRs l):NN l:=fun r hr=>(h r hr).2.1
theorem tot_put {how:Int} {now now' F msgs:List Rc} {r:Rc} (h:∀k,tot how k (now++F)=tot how k msgs) (h':∀k,tot how k now'=tot how k (now++[r])) (n1:NN now) (n2:NN now') (n3:NN F) (n4:0≤r.val) (k:Int):tot how k (now'++F)=tot how k (msgs++[r]):=by
 have nr:NN [r]:=fun x hx=>by rw [List.mem_singleton] at hx; subst hx; exact n4
 rw [tot_append n2 n3,h' k,←tot_append (n1.app nr) n3]
 have hp:((now++[r])++F).Perm ((now++F)++[r]):=by
  rw [List.append_assoc,List.append_assoc]
  exact List.perm_append_comm.append_left now
 rw [tot_perm hp ((n1.app nr).app n3),tot_snoc,tot_snoc,h k]
structure BoxI (how:Int) (D:Dk) (now:List Rc) (fs:List (List Rc)) (msgs:List Rc):Prop where
 files:BxF D fs
 tot:∀k,Go.Proofs.YtkpiakgmkpbikaaGreatDoor.tot how k (now++fs.flatten)=Go.Proofs.YtkpiakgmkpbikaaGreatDoor.tot how k msgs
 inN:InRs now
 inF:InRs fs.flatten
 len:now.length+fs.flatten.length≤msgs.length
 fl:fs.length≤fs.flatten.length
theorem BoxI.same {how:Int} {D D':Dk} {now:List Rc} {fs:List (List Rc)} {msgs:List Rc} (h:BoxI how D now fs msgs) {T:Nm→Prop} (hG:Gd T D D') (hT:∀k,T (boxN k)→False):BoxI how D' now fs msgs :=
 ⟨⟨fun i hi=>by rw [hG.same _ (hT _)]; exact h.files.has i hi,fun k h1 h2=>by rw [hG.same _ (hT _)]; exact h.files.non k h1 h2⟩,h.tot,h.inN,h.inF,h.len,h.fl⟩
theorem updR_len {rs:List Rc} {k v:Int}:(updR rs k v).length≤rs.length+1:=by
 unfold updR; split<;>simp
theorem updR_in {rs:List Rc} {k v:Int} (h:InRs rs) (hk:0≤k∧k<18446744073709551616) (hv:0≤v∧v<18446744073709551616):InRs (updR rs k v):=fun r hr=>by
 unfold updR at hr
 split at hr
 · obtain ⟨x,hx,rfl⟩:=List.mem_map.1 hr
   split
   · exact ⟨(h x hx).1,hv⟩
   · exact h x hx
 · rcases List.mem_append.1 hr with hr | hr
   · exact h r hr
   · rw [List.mem_singleton] at hr; subst hr; exact ⟨hk,hv⟩
theorem updR_new {rs:List Rc} {k v:Int} (h:∀x∈rs,x.key≠k):updR rs k v=rs++[⟨k,v⟩]:=by
 unfold updR
 rw [if_neg]
 intro e
 obtain ⟨x,hx,he⟩:=List.any_eq_true.1 e
 exact h x hx (by simpa using he)
structure PutS where
 now:List Rc
 fs:List (List Rc)
 D:Dk
 h1:Hl
 h2:Hl
section
variable {F : Fm} {bb db B : Nat} {how : Int} {C : Cx} {D : Dk} {s1 s2 : Hl} {now msgs : List Rc} {fs : List (List Rc)}
set_option maxHeartbeats 2000000 in
theorem boxPut_z (hC:C.Ok) (hh:how=1∨how=2) (hB:1≤B) (hS:BoxAt bb db B how now fs.length s1) (hI:BoxI how D now fs msgs) (hl:msgs.length<49) (hcap:16*msgs.length+6≤C.cap) {r:Rc} (hr:InR r) (hk:∀k,1≤k→k≤msgs.length→boxN k∈C.S) (hD:DiskAt db D s2) (hw:Wz C D) (hup:D.down=false) :
 Spec Tryz.prog 263 #[.pointer (some ⟨bb,0,none⟩),recV r] F (s1++s2) fun v s'=>∃e D' h1 h2,v=.int .i64 e∧s'=h1++h2∧DiskAt db D' h2∧(∃now' nx',BoxAt bb db B how now' nx' h1)∧Out C BoxT (fun D'=>∃now' fs',BoxAt bb db B how now' fs'.length h1∧BoxI how D' now' fs' (msgs++[r])) D 0 e D':=by
 have hS0:=hS
 obtain ⟨mb,ms,mc,fv,sF,hM,own,rfl⟩:=hS
 have hf1:=own.one
 have hml:ms.length=now.length:=by rw [hM.rs,List.length_map]
 have hilen:=hI.len
 have hifl:=hI.fl
 obtain ⟨vv,bx,heq,hcase⟩:∃vv bx,(Value.tuple #[((findM ms r.key).map (·.v)).getD (.int .u64 0),.bool (findM ms r.key).isSome]:Value)=.tuple #[.int .u64 vv,.bool bx]∧((bx=true∧(⟨r.key,vv⟩:Rc)∈now)∨(bx=false∧∀x∈now,x.key≠r.key)):=by
  cases hf:findM ms r.key with
  | none =>
   refine ⟨0,false,rfl,.inr ⟨rfl,fun x hx => ?_⟩⟩
   rw [hM.rs] at hx
   obtain ⟨m,hm,rfl⟩:=List.mem_map.1 hx
   exact findM_none.1 hf m hm
  | some m =>
   obtain ⟨v,hv,hm⟩:=hM.find hf
   exact ⟨v,true,by rw [Option.map_some,Option.getD_some,hv]; rfl,.inl ⟨rfl,hm⟩⟩
 rw [List.cons_append,List.cons_append]
 refine Spec.of (n:=56) (vs:=[.pointer (some ⟨bb,0,none⟩),recV r]) Tryz.func263 rfl Tryz.ntmps263 rfl ?_
 refine sj [.e,.p] Z<|Rg.box Z Z Z Z Z (fun b3 => ?_)
 refine aj Z<|nl<|wj ?_
 refine Vc.draw [] (sd [(0,.pure),(1,.pure),(2,.pure),(3,.read),(4,.pure),(5,.read),(6,.read),(7,.pure),(8,.pure),(9,.pure),(10,.pure),(11,.pure)]) mixed (by kernel_rfl)<|mj Z<|nj Z<|fj Z<|lj Z Z<|fj Z<|lj Z Z<|rj Z (Ev.as (.tuple #[.int .u64 vv,.bool bx]) (Ev.lookup2 (kv:=kU) (k:=r.key) Z Z hM.nk) heq)<|mj Z<|xj Z Z<|xj Z Z<|aj Z<|aj Z<|nl<|wj ?_
 refine sj [.p] Z<|mj Z<|nl<|cj Z (fun h18 => ?_) (fun h18 => ?_)
 · have hmem:=(hcase.resolve_right (fun h=>by rw [h.1] at h18; cases h18)).2
   have hvv:=(hI.inN _ hmem).2
   simp only at hvv
   refine wj ?_
   refine Vc.draw [14] (sd [(0,.pure),(1,.pure),(2,.pure),(3,.read),(4,.pure),(5,.read),(6,.pure),(7,.pure),(8,.pure),(9,.read),(10,.pure),(11,.pure),(12,.read),(13,.eff),(14,.eff)]) mixed (by kernel_rfl)<|mj Z<|nj Z<|fj Z<|lj Z Z<|fj Z<|lj Z Z<|mj Z<|nj Z<|fj Z<|lj Z Z<|mj Z<|fj Z<|lj Z Z ?_
   refine Rg.callP Z Z Z (run_callF Z) (combine_spec _ how vv r.val hvv.1 hr.2.1) ?_
   rintro _ rfl
   refine Rg.mapUpd (kv:=kU) (dk:=.int .u64) (k:=r.key) (v:=.int .u64 (comb how vv r.val)) Z Z Z Z Z Z Z hM.nk Z<|nl<|sj [.p] Z<|aj Z<|nl ?_
   exact Vc.ret (Vc.retsH (hl':=((bb,bxO db B how mb fv fs.length)::(mb,mapO kU (updM ms r.key (.int .u64 (comb how vv r.val)) mc) (updC ms r.key mc))::sF)++s2) rfl (.cons (.tmp rfl) .nil) ⟨0,D,_,s2,rfl,rfl,hD,⟨_,_,mb,_,_,fv,sF,hM.upd r.key (comb how vv r.val),own,rfl⟩,hw,.inl ⟨rfl,.refl hup,_,fs,⟨mb,_,_,fv,sF,hM.upd r.key (comb how vv r.val),own,rfl⟩,hI.files,tot_put hI.tot (fun k=>tot_upd hM.keys hmem hI.inN.nn hr.2.1 k) hI.inN.nn (updR_in hI.inN hr.1 (comb_in hvv hr.2)).nn hI.inF.nn hr.2.1,updR_in hI.inN hr.1 (comb_in hvv hr.2),hI.inF,by rw [List.length_append,List.length_singleton]; have:=updR_len (rs:=now) (k:=r.key) (v:=comb how vv r.val); omega,hI.fl⟩⟩ pulled)
 · have hno:=(hcase.resolve_left (fun h=>by rw [h.1] at h18; cases h18)).2
   refine kj<|wj<|wj ?_
   refine Vc.draw [] (sd [(0,.pure),(1,.pure),(2,.pure),(3,.read),(4,.read),(5,.pure),(6,.pure),(7,.pure),(8,.read),(9,.pure)]) mixed (by kernel_rfl)<|mj Z<|nj Z<|fj Z<|lj Z Z<|rj Z (Ev.lenM (kv:=kU) (ms:=ms) (clock:=mc) Z)<|mj Z<|nj Z<|fj Z<|lj Z Z<|uj Z (Pv.geq Z Z)<|nl<|Vc.cut1 (fun (R:PutS)=>BoxAt bb db B how R.now R.fs.length R.h1∧BoxI how R.D R.now R.fs msgs∧(∀x∈R.now,x.key≠r.key)∧DiskAt db R.D R.h2∧Wz C R.D∧Gd BoxT D R.D) (fun R=>[(0,.pointer (some ⟨bb,0,none⟩)),(3,.pointer (some ⟨b3,0,none⟩))]) (fun R=>(b3,cellsO [.int .u64 r.key,.int .u64 r.val] 293)::(R.h1++R.h2)) ?_ ?_
   · refine cj Z (fun h42 => ?_) (fun h42 => ?_)
     · simp only [decide_eq_true_eq] at h42
       have hnk:fs.length+1≤msgs.length:=by omega
       refine sj [.p,.e,.p] Z<|mj Z<|Rg.callH Z Z Z (run_callF rfl) (fun F' hF'=>spill_z (F:=F') (s1:=(bb,bxO db B how mb fv fs.length)::(mb,mapO kU ms mc)::sF) hC hS0 (by omega) hI.inN (by omega) (by omega) hD hw (hk _ (by omega) hnk) (hI.files.non _ (by omega) (by omega))) rfl ?_
       rintro _ _ ⟨e,D1,g1,g2,rfl,rfl,hD1,hb0,hb1,hO⟩
       rw [List.append_assoc]
       refine aj Z<|nl<|sj [.p,.p] Z<|mj Z<|uj Z (Pv.neq Z Z)<|nl<|cj Z (fun h46 => ?_) (fun h46 => ?_)
       · simp only [bne_iff_ne,ne_eq] at h46
         obtain ⟨he7,hB7⟩:=hO.bad h46
         refine sj [.p,.p] Z<|mj Z<|aj Z<|nl ?_
         exact Vc.ret (Vc.retsH (hl':=g1++g2) rfl (.cons (.tmp rfl) .nil) ⟨e,D1,g1,g2,rfl,rfl,hD1,⟨_,_,hb1 h46⟩,hO.wz,.inr ⟨he7,hB7.mono fun x hx=>⟨_,by omega,by omega,hx⟩⟩⟩ pulled)
       · simp only [bne_eq_false_iff_eq] at h46
         subst h46
         obtain ⟨_,hG,hf⟩:=hO.good (by decide)
         have hfl:=hI.files.snoc (by omega) hG hf
         refine kj ?_
         exact Vc.inv1 (⟨[],fs++[sortL now],D1,g1,g2⟩:PutS) ⟨by simp only [List.length_append,List.length_singleton]; exact hb0 rfl,⟨hfl,fun k=>by
          rw [List.nil_append,List.flatten_append,←hI.tot k]
          refine tot_perm ?_ (hI.inF.nn.app (fun x hx=>hI.inN.nn x ((sortL_perm now).mem_iff.1 (by simpa using hx))))
          rw [show [sortL now].flatten=sortL now by simp]
          exact List.perm_append_comm.trans ((sortL_perm now).append_right _),fun x hx=>(by cases hx),fun x hx=>by
          rw [List.flatten_append,List.mem_append] at hx
          exact hx.elim (hI.inF x) (fun h=>hI.inN x ((sortL_perm now).mem_iff.1 (by simpa using h))),by
          rw [List.flatten_append,List.length_append,show [sortL now].flatten=sortL now by simp,sortL_length,List.length_nil]; omega,by
          rw [List.flatten_append,List.length_append,List.length_append,show [sortL now].flatten=sortL now by simp,sortL_length,List.length_singleton]; omega⟩,fun x hx=>(by cases hx),hD1,hO.wz,hG.mono fun x hx=>⟨_,by omega,by omega,hx⟩⟩ (.cons rfl (.cons rfl .nil)) pulled
     · refine kj ?_
       exact Vc.inv1 (⟨now,fs,D,(bb,bxO db B how mb fv fs.length)::(mb,mapO kU ms mc)::sF,s2⟩:PutS) ⟨hS0,hI,hno,hD,hw,.refl hup⟩ (.cons rfl (.cons rfl .nil)) pulled
   · clear hS0 hI hno hD hcase heq hM own hf1 hml hilen hifl
     rintro ⟨now,fs,D1,h1,h2⟩ ⟨hS,hI,hno,hD1,hw1,hG1⟩
     simp only at hS hI hno hD1 hw1 hG1 ⊢
     obtain ⟨mb,ms,mc,fv,sF,hM,own,rfl⟩:=hS
     have hf1:=own.one
     have hilen:=hI.len
     refine wj ?_
     refine Vc.draw [8] (sd [(0,.pure),(1,.pure),(2,.pure),(3,.read),(4,.pure),(5,.read),(6,.pure),(7,.read),(8,.eff)]) mixed (by kernel_rfl)<|mj Z<|nj Z<|fj Z<|lj Z Z<|fj Z<|lj Z Z<|fj Z<|lj Z Z ?_
     refine Rg.mapUpd (kv:=kU) (dk:=.int .u64) (k:=r.key) (v:=.int .u64 r.val) Z Z Z Z Z Z Z hM.nk Z<|nl<|sj [.p] Z<|aj Z<|nl ?_
     exact Vc.ret (Vc.retsH (hl':=((bb,bxO db B how mb fv fs.length)::(mb,mapO kU (updM ms r.key (.int .u64 r.val) mc) (updC ms r.key mc))::sF)++h2) rfl (.cons (.tmp rfl) .nil) ⟨0,D1,_,h2,rfl,rfl,hD1,⟨_,_,mb,_,_,fv,sF,hM.upd r.key r.val,own,rfl⟩,hw1,.inl ⟨rfl,hG1,_,fs,⟨mb,_,_,fv,sF,hM.upd r.key r.val,own,rfl⟩,hI.files,tot_put hI.tot (fun k=>by rw [updR_new hno]) hI.inN.nn (updR_in hI.inN hr.1 hr.2).nn hI.inF.nn hr.2.1,updR_in hI.inN hr.1 hr.2,hI.inF,by rw [List.length_append,List.length_singleton]; have:=updR_len (rs:=now) (k:=r.key) (v:=r.val); omega,hI.fl⟩⟩ pulled)
set_option maxHeartbeats 2000000 in
theorem boxAll_z (hC:C.Ok) (hh:how=1∨how=2) (hS:BoxAt bb db B how now fs.length s1) (hI:BoxI how D now fs msgs) (hl:msgs.length<50) (hIm:InRs msgs) (hD:DiskAt db D s2) (hw:Wz C D) (hup:D.down=false) :
 Spec Tryz.prog 239 #[.pointer (some ⟨bb,0,none⟩)] F (s1++s2) fun v s'=>∃u e D' h1 h2,v=.tuple #[u,.int .i64 e]∧u.oneCell'=true∧s'=s1++(h1++h2)∧DiskAt db D' h2∧Out C none1 (fun _=>Own recE u (sortedG how msgs) h1) D 0 e D':=by
 have hS0:=hS
 obtain ⟨mb,ms,mc,fv,sF,hM,own,rfl⟩:=hS
 have hf1:=own.one
 have hnb:=namesB_len fs.length
 have hilen:=hI.len
 have hifl:=hI.fl
 obtain ⟨pf,cf,rfl⟩:=own.shape
 rw [hnb] at own hf1 hS0 ⊢
 have hok:okHow how=true:=by rcases hh with rfl | rfl<;>rfl
 have h0:how≠0:=by rcases hh with rfl | rfl<;>decide
 rw [List.cons_append,List.cons_append]
 refine Spec.of (n:=46) (vs:=[.pointer (some ⟨bb,0,none⟩)]) Tryz.func239 rfl Tryz.ntmps239 rfl ?_
 refine sj [.p,.p] Z<|aj Z<|aj Z<|nl<|sj [.p,.e,.e,.p] Z<|mj Z<|Rg.callA Z Z Z (run_callF rfl) (memory_spec hS0 (fun b o hb=>.inl (by simp at hb ⊢; rcases hb with h | h | h<;>simp [h])) (by omega) hI.inN.nr) ?_
 rintro v10 s10 own10
 obtain ⟨p10,c10,rfl⟩:=own10.shape
 refine Rg.bslice1R (E:=slRE) (e:=289) (⟨p10,(sortL now).length,c10⟩:Sv) Z Z Z Z Z Z Z Z (fun b11 own11 => ?_)
 refine aj Z<|nl<|wj<|sj [.p,.p,.p,.r,.p,.p] Z<|mj Z<|nj Z<|fj Z<|lj Z Z<|uj Z (Pv.lenS Z)<|mj Z<|nl<|bj ?_
 refine Vc.loop6 (fun (k:Nat) (acc:Value) (vs:List Sv) (D':Dk) (sA:Hl) (q:Hl×Hl)=>k≤fs.length∧Own slRE acc vs sA∧OwnsR vs (sortL now::fs.take k) q.1∧DiskAt db D' q.2∧Wz C D'∧Gd none1 D D') (fun k acc vs D' sA q=>[(4,acc),(17,.int .i64 (k:Int)),(0,.pointer (some ⟨bb,0,none⟩)),(15,.slice pf fs.length cf),(16,.int .i64 (fs.length:Int))]) (fun k acc vs D' sA q=>(bb,bxO db B how mb (.slice pf fs.length cf) fs.length)::(mb,mapO kU ms mc)::(sF++(sA++(q.1++q.2)))) (fun k acc vs D' sA q=>fs.length-k) 0 _ _ D _ (s10,s2) ⟨Nat.zero_le _,own11,by have:=OwnsR.snoc (s:=(⟨p10,(sortL now).length,c10⟩:Sv)) OwnsR.nil own10; rw [List.append_nil] at this; exact this,hD,hw,.refl hup⟩ (.cons rfl (.cons rfl (.cons rfl (.cons rfl (.cons rfl .nil))))) pulled ?_
 rintro k acc vs D' sA ⟨q1,q2⟩ ⟨hk,hacc,howns,hD',hw',hG⟩
 simp only at howns hD' ⊢
 have hvl:=howns.len
 rw [List.length_cons,List.length_take] at hvl
 have hac1:=hacc.one
 refine sj [.p] Z<|uj Z (Pv.lss Z Z)<|nl<|wj<|cj Z (fun h18 => ?_) (fun h18 => ?_)
 · simp only [decide_eq_true_eq] at h18
   have hk1:k<fs.length:=by omega
   obtain ⟨bf,capf,spf,e,rfl,_,_⟩:=own.block (by rw [hnb]; omega)
   rw [hnb] at e
   simp only [Value.slice.injEq] at e
   obtain ⟨rfl,_,rfl⟩:=e
   have hnm:(namesB fs.length)[k]! = boxN (k+1):=by rw [getElem!_pos _ k (by rw [hnb]; exact hk1)]; simp [namesB]
   have hfk:=hI.files.has k hk1
   have hfm:fs[k]! ∈ fs:=by rw [getElem!_pos fs k hk1]; exact List.getElem_mem _
   have hfl2:=(List.sublist_flatten_of_mem hfm).length_le
   refine kj<|wj<|bj<|sj [.p,.r,.p] Z<|uj Z (Pv.ixA (k) rfl rfl (by omega) (by omega))<|rj Z (Ev.as (kS (boxN (k+1))) (Ev.ldR (E:=strE) k rfl (Nat.zero_add _) (by rw [hnb]; exact hk1)) (congrArg kS hnm))<|aj Z<|nl<|sj [.p,.p,.p,.r,.p,.e,.p,.p,.p,.p,.p] Z<|mj Z<|nj Z<|fj Z<|lj Z Z<|mj Z ?_
   refine Rg.callH Z Z Z (run_callF rfl) (fun F' hF'=>readR_z (F:=F') (nm:=boxN (k+1)) (l:=fs[k]!) hC hD' hw' (by rw [hG.same _ (fun h=>h.elim)]; exact hfk) rfl (by omega) (fun r hr=>hI.inF r (List.mem_flatten.2 ⟨_,hfm,hr⟩))) rfl ?_
   rintro _ _ ⟨u,e,D1,g1,g2,rfl,rfl,hD1,hO1⟩
   rw [List.append_assoc]
   refine mj Z<|xj Z Z<|xj Z Z<|aj Z<|aj Z<|nl<|wj<|sj [.p,.p] Z<|mj Z<|uj Z (Pv.neq Z Z)<|nl<|cj Z (fun h31 => ?_) (fun h31 => ?_)
   · simp only [bne_iff_ne,ne_eq] at h31
     obtain ⟨he7,hB7⟩:=hO1.bad h31
     refine sj [.p,.p,.p] Z<|mj Z<|aj Z<|aj Z<|nl ?_
     exact Vc.ret (Vc.retsH (hl':=((bb,bxO db B how mb (.slice (some ⟨bf,0,none⟩) fs.length cf) fs.length)::(mb,mapO kU ms mc)::[(bf,rowS strE (namesB fs.length) spf)])++([]++g2)) rfl (.cons (.tmp rfl) (.cons (.tmp rfl) .nil)) ⟨.slice none 0 0,e,D1,[],g2,rfl,rfl,rfl,hD1,hO1.wz,.inr ⟨he7,hG.dn hB7⟩⟩ pulled)
   · simp only [bne_eq_false_iff_eq] at h31
     subst h31
     obtain ⟨_,hG1,ownu⟩:=hO1.good (by decide)
     obtain ⟨pu,cu,rfl⟩:=ownu.shape
     refine kj<|tj [.p,.p,.e,.e,.p] Z<|mj Z<|mj Z<|Rg.bslice1 Z Z Z Z Z Z Z (fun b35 => ?_)
     refine Rg.append Z Z Z Z Z hacc (Src.one (y:=(⟨pu,fs[k]!.length,cu⟩:Sv)) rfl) (by simp<;>omega) (by simp [maxLen]<;>omega) rfl (fun v36 s36 own36 => ?_)
     refine aj Z<|nl<|dj<|tj [.p,.p] Z<|uj Z (Pv.asI (k+1) (Pv.add rfl rfl (by omega)) (by omega))<|mj Z<|nl ?_
     exact Vc.inv6 (k+1) v36 _ D1 s36 (g1++q1,g2) ⟨⟨by omega,own36,by have:=howns.snoc (s:=(⟨pu,fs[k]!.length,cu⟩:Sv)) ownu; rw [List.take_succ_eq_append_getElem hk1,←getElem!_pos fs k hk1]; exact this,hD1,hO1.wz,hG.trans hG1⟩,by omega⟩ (.cons rfl (.cons rfl (.cons rfl (.cons rfl (.cons rfl .nil))))) (by rw [List.append_assoc g1 q1]; exact pulled)
 · simp only [decide_eq_false_iff_not] at h18
   obtain rfl:k=fs.length:=by omega
   rw [List.take_length] at howns
   refine Vc.exit Z<|sj [.p,.p,.p,.p,.r,.e,.p,.p,.p,.p] Z<|mj Z<|mj Z<|nj Z<|fj Z<|lj Z Z ?_
   refine Rg.callA Z Z Z (run_callF rfl) (merge_spec (ls:=vs) (xss:=sortL now::fs) ⟨Arg.own hacc frz_sb,howns.len,howns.arg frz_sb⟩ (by simp only [List.length_cons]; omega) (by rw [List.flatten_cons,List.length_append,sortL_length]; omega) (fun r hr=>by rw [List.flatten_cons,List.mem_append] at hr; exact hr.elim (fun h=>(hI.inN r ((sortL_perm now).mem_iff.1 h)).2) (fun h=>(hI.inF r h).2)) how) ?_
   rintro _ s43 ⟨u43,er,rfl,h43⟩
   obtain ⟨_,rfl,own43⟩:=h43.resolve_right (fun h=>by rw [hok] at h; cases h.1)
   have hsame:sortedG how (sortL now::fs).flatten=sortedG how msgs:=sortedG_same h0 (fun r hr=>by rw [List.flatten_cons,List.mem_append] at hr; exact hr.elim (fun h=>(hI.inN r ((sortL_perm now).mem_iff.1 h)).2.1) (fun h=>(hI.inF r h).2.1)) hIm.nn fun k=>by
    rw [List.flatten_cons,←hI.tot k]
    exact tot_perm ((sortL_perm now).append_right _) (NN.app (fun r hr=>(hI.inN r ((sortL_perm now).mem_iff.1 hr)).2.1) hI.inF.nn)
   rw [hsame] at own43
   have h43c:=own43.one
   refine xj Z Z<|xj Z Z<|aj Z<|aj Z<|nl ?_
   exact Vc.ret (Vc.retsH (hl':=((bb,bxO db B how mb (.slice pf fs.length cf) fs.length)::(mb,mapO kU ms mc)::sF)++(s43++q2)) rfl (.cons (.tmp rfl) (.cons (.tmp rfl) .nil)) ⟨u43,0,D',s43,q2,rfl,h43c,rfl,hD',hw',.inl ⟨rfl,hG,own43⟩⟩ pulled)
def DnK (D D':Dk):Prop:=∀(T:Nm→Prop) (D0:Dk),Dn T D0 D→Dn T D0 D'
set_option maxHeartbeats 2000000 in
theorem boxClear_z (hC:C.Ok) {nx:Nat} (hS:BoxAt bb db B how now nx s1) (hf:D.down=false→∃fs,fs.length=nx∧nx<100∧BxF D fs) (hD:DiskAt db D s2) (hw:Wz C D) :
 Spec Tryz.prog 209 #[.pointer (some ⟨bb,0,none⟩)] F (s1++s2) fun v s'=>∃e D',v=.int .i64 e∧DiskAt db D' s'∧Wz C D'∧((D.down=false∧((e=0∧Gd BoxT D D'∧∀k,1≤k→k<100→findF D'.files (boxN k)=none)∨(e=7∧Dn BoxT D D')))∨(D.down=true∧DnK D D')):=by
 obtain ⟨mb,ms,mc,fv,sF,hM,own,rfl⟩:=hS
 have hf1:=own.one
 have hnb:=namesB_len nx
 rw [List.cons_append,List.cons_append]
 refine Spec.of (n:=36) (vs:=[.pointer (some ⟨bb,0,none⟩)]) Tryz.func209 rfl Tryz.ntmps209 rfl ?_
 refine sj [.p] Z<|aj Z<|nl<|sj [.p,.p,.p,.r,.e] Z<|mj Z<|nj Z<|fj Z<|lj Z Z ?_
 refine Rg.clearM (kv:=kU) (ms:=ms) (clock:=mc) Z Z Z Z Z<|nl<|wj<|bj ?_
 refine Vc.loop5 (fun (j:Nat) (fv:Value) (sF:Hl) (D':Dk) (q:Hl)=>j≤nx∧Tl strE fv ((namesB nx).drop j) sF∧DiskAt db D' q∧Wz C D'∧((D'=D∧j=0)∨(Gd BoxT D D'∧(∀k,1≤k→k≤j→findF D'.files (boxN k)=none)∧(∀k,nx<k→k<100→findF D'.files (boxN k)=none)∧∀k,j<k→k≤nx→findF D'.files (boxN k)≠none))) (fun j fv sF D' q=>[(0,.pointer (some ⟨bb,0,none⟩))]) (fun j fv sF D' q=>(bb,bxO db B how mb fv nx)::(mb,mapO kU [] mc)::(sF++q)) (fun j fv sF D' q=>nx-j) 0 fv sF D s2 ⟨Nat.zero_le _,own.tl,hD,hw,.inl ⟨Z,Z⟩⟩ (.cons Z .nil) pulled ?_
 clear hf1 own
 rintro j fv sF D' q ⟨hj,htl,hD',hw',hst⟩
 have hf1:=htl.one
 have hdl:((namesB nx).drop j).length=nx-j:=by rw [List.length_drop,hnb]
 obtain ⟨pf,cf,rfl⟩:=htl.shape
 rw [hdl] at htl hf1 ⊢
 have harg:Arg strE (frz F sF) (.slice pf (nx-j) cf) ((namesB nx).drop j):=Arg.tl htl fun b o hb=>.inl hb
 refine wj<|sj [.p,.p,.p,.r,.p,.p] Z<|mj Z<|nj Z<|fj Z<|lj Z Z<|uj Z (Pv.lenS Z)<|uj Z (Pv.gtr Z Z)<|nl<|cj Z (fun h13 => ?_) (fun h13 => ?_)
 · simp only [decide_eq_true_eq] at h13
   have hj1:j<nx:=by omega
   obtain ⟨bf,of,cf',e,_⟩:=harg.block (by omega)
   rw [hdl] at e
   simp only [Value.slice.injEq] at e
   obtain ⟨rfl,_,rfl⟩:=e
   have hcap:=htl.cap
   rw [hdl] at hcap
   have hn0:((namesB nx).drop j)[0]! = boxN (j+1):=by
    rw [getElem!_pos _ 0 (by omega),List.getElem_drop]
    simp [namesB]
   have hfrom:=htl.from (k:=1) (by omega) (by omega)
   rw [List.drop_drop,show strE.k=1 from rfl] at hfrom
   refine kj<|bj<|wj<|wj ?_
   refine Vc.draw [10] (sd [(0,.pure),(1,.pure),(2,.pure),(3,.read),(4,.pure),(5,.pure),(6,.pure),(7,.read),(8,.pure),(9,.read),(10,.eff),(11,.pure)]) mixed (by kernel_rfl)<|mj Z<|nj Z<|fj Z<|lj Z Z<|mj Z<|nj Z<|fj Z<|lj Z Z<|uj Z (Pv.ixA (0) rfl rfl (by omega) (by omega))<|rj Z (Ev.as (kS (boxN (j+1))) (Ev.ldS (E:=strE) 0 (Arg.srcF (s:=sF) harg) rfl rfl rfl (by omega)) (congrArg kS hn0)) ?_
   refine Rg.callH Z Z Z (run_callF Z) (fun F' hF'=>remove_zx (F:=F') hC hD' hw' (boxN (j+1))) Z ?_
   rintro _ g ⟨e,D1,rfl,hD1,hw1,hO⟩
   refine aj Z<|nl<|sj [.p,.p] Z<|mj Z<|uj Z (Pv.neq Z Z)<|nl<|cj Z (fun h26 => ?_) (fun h26 => ?_)
   · simp only [bne_iff_ne,ne_eq] at h26
     refine sj [.p,.p] Z<|mj Z<|aj Z<|nl ?_
     exact Vc.ret (Vc.retsH rfl (.cons (.tmp rfl) (.nil)) (⟨e,D1,rfl,hD1,hw1,by
      rcases hst with ⟨rfl,rfl⟩ | ⟨hGd,hno⟩
      · cases hdn:D'.down with
        | false =>
         obtain ⟨fs,hfl,_,hbf⟩:=hf hdn
         refine .inl ⟨rfl,?_⟩
         rcases hO with ⟨he,hG,hnone⟩ | ⟨he,hB⟩
         · rcases he with he | ⟨_,he⟩
           · exact absurd he h26
           · rw [hbf.has 0 (by omega)] at he; cases he
         · exact .inr ⟨he,hB.any⟩
        | true =>
         refine .inr ⟨rfl,fun T D0 h => ?_⟩
         rcases hO with ⟨he,hG,hnone⟩ | ⟨he,hB⟩
         · have:=hG.up0; rw [hdn] at this; cases this
         · exact h.after hB.any
      · refine .inl ⟨hGd.up0,?_⟩
        rcases hO with ⟨he,hG,hnone⟩ | ⟨he,hB⟩
        · rcases he with he | ⟨_,he⟩
          · exact absurd he h26
          · exact absurd he (hno.2.2 (j+1) (by omega) (by omega))
        · exact .inr ⟨he,hGd.dn hB.any⟩⟩) pulled)
   · simp only [bne_eq_false_iff_eq] at h26
     subst h26
     obtain ⟨_,hG,hnone⟩:=hO.resolve_right (fun h=>by cases h.1)
     obtain ⟨_,_,hnx,_⟩:=hf (hst.elim (fun h=>by rw [←h.1]; exact hG.up0) (fun h=>h.1.up0))
     have hG':Gd BoxT D' D1:=hG.mono fun x hx=>⟨j+1,by omega,by omega,hx⟩
     refine kj<|tj [.p,.p,.p,.p,.r,.p,.p,.p,.e] Z<|mj Z<|mj Z<|nj Z<|fj Z<|lj Z Z<|uj Z (Pv.sl (lv:=some (.int .i64 ((1:Nat):Int))) (hv:=none) 1 (nx-j) rfl rfl rfl (by omega) hcap (fun _=>hcap))<|nj Z<|fj Z ?_
     refine Rg.store Z Z Z Z Z Z Z Z<|nl<|dj ?_
     exact Vc.inv5 (j+1) _ sF D1 g ⟨⟨by omega,hfrom,hD1,hw1,.inr (by
      have hne:∀k,k<100→k≠j+1→boxN k≠boxN (j+1):=fun k h1 h2 h3=>h2 (boxN_inj h1 (by omega) h3)
      rcases hst with ⟨rfl,rfl⟩ | ⟨hGd,hno,hno2,hyes⟩
      · obtain ⟨fs,hfl,_,hbf⟩:=hf hG.up0
        refine ⟨hG',fun k h1 h2=>by rw [show k=0+1 by omega]; exact hnone,fun k h1 h2 => ?_,fun k h1 h2 => ?_⟩
        · rw [hG.same _ (hne k h2 (by omega))]; exact hbf.non k (by omega) h2
        · rw [hG.same _ (hne k (by omega) (by omega))]
          have:=hbf.has (k-1) (by omega)
          rw [show k-1+1=k by omega] at this
          rw [this]; exact fun h=>by cases h
      · refine ⟨hGd.trans hG',fun k h1 h2 => ?_,fun k h1 h2 => ?_,fun k h1 h2 => ?_⟩
        · by_cases e:k=j+1
          · rw [e]; exact hnone
          · rw [hG.same _ (hne k (by omega) e)]; exact hno k h1 (by omega)
        · rw [hG.same _ (hne k h2 (by omega))]; exact hno2 k h1 h2
        · rw [hG.same _ (hne k (by omega) (by omega))]; exact hyes k (by omega) h2)⟩,by omega⟩ (.cons rfl .nil) pulled
 · simp only [decide_eq_false_iff_not] at h13
   obtain rfl:j=nx:=by omega
   refine Vc.exit Z<|sj [.p] Z<|aj Z<|nl ?_
   exact Vc.ret (Vc.retsH rfl (.cons (.tmp rfl) (.nil)) (⟨0,D',rfl,hD',hw',by
    rcases hst with ⟨rfl,rfl⟩ | ⟨hGd,hno,hno2,_⟩
    · cases hdn:D'.down with
      | false =>
       obtain ⟨fs,hfl,_,hbf⟩:=hf hdn
       exact .inl ⟨rfl,.inl ⟨rfl,.refl hdn,fun k h1 h2=>hbf.non k (by omega) h2⟩⟩
      | true=>exact .inr ⟨rfl,fun T D0 h=>h⟩
    · exact .inl ⟨hGd.up0,.inl ⟨rfl,hGd,fun k h1 h2=>by
       by_cases e:k≤j
       · exact hno k h1 e
       · exact hno2 k (by omega) h2⟩⟩⟩) pulled)
end
end Go.Proofs.YtkpiakgmkpbikaaGreatDoor
namespace Go.Proofs.YtkpiakgmkpbikaaGreatDoor
theorem Pv.quoU {P:Program} {n:Nf} {l:Env} {d:Option Tmp} {ty:TypeId} {pos:String} {af:Array Edge} {g:Option (Nat×Bool)} {t t':TypeId} {x y:Operand} {p q:Int} (hx:ev l x=some (.int .u64 p)) (hy:ev l y=some (.int .u64 q)) (h:0≤p∧p<18446744073709551616∧0<q):Pv P n l ⟨d,.binOp .quo t x y t',ty,pos,af,g⟩ (.int .u64 (p / q)):=Pv.ar hx hy fun w=>by
 have hq:q≠0:=by omega
 have hd:p.tdiv q=p / q:=Int.tdiv_eq_ediv_of_nonneg h.1
 have h1:0≤p / q:=Int.ediv_nonneg h.1 (by omega)
 have h2:p / q≤p:=Int.ediv_le_self _ h.1
 have hw:IntKind.u64.wrap (p / q)=p / q:=by rw [wrap_u64i h1]; omega
 simp [binOp,Op.intDiv,hq,hd,hw]
theorem msgP_in {p:Prg} {val out w:Int} (hv:InU val) (hw:0≤w∧w<4294967296) (ho:0≤out):InU (msgP p val out w):=by
 unfold msgP InU at *
 split
 · exact comb_in hv (by omega)
 · split
   · exact comb_in hv (by omega)
   · split
     · split
       · omega
       · have h1:0≤val / out:=Int.ediv_nonneg hv.1 ho
         have h2:val / out≤val:=Int.ediv_le_self _ hv.1
         omega
     · split
       · omega
       · exact hv
theorem nextP_in {p:Prg} {val:Int} {o:Option Int} (hv:InU val) (ho:∀s,o=some s→InU s):InU (nextP p val o).1:=by
 unfold nextP InU at *
 have h0:0≤o.getD 0∧o.getD 0<18446744073709551616:=by
  cases o with
  | none=>exact ⟨Int.le_refl _,by decide⟩
  | some s=>exact ho s rfl
 split
 · show 0≤157284+o.getD 0 / 20*17∧157284+o.getD 0 / 20*17<_
   omega
 · split
   · exact h0
   · cases o with
     | none=>exact hv
     | some s =>
      have h1:=ho s rfl
      by_cases h:s<val
      · rw [lessN,if_pos h]; exact h1
      · rw [lessN,if_neg h]; exact hv
section
variable {F : Fm} {p : Prg}
theorem tmsg_spec (val:Int) (hv:InU val) (out:Int) (ho:0≤out∧out≤9223372036854775807) (w:Nat) (hw:w<4294967296):Spec Tryz.prog 262 #[prV p,.int .u64 val,.int .i64 out,.int .u32 (w:Int)] F [] fun v _=>v=.int .u64 (msgP p val out (w:Int)):=by
 refine Spec.of (n:=32) (vs:=[prV p,.int .u64 val,.int .i64 out,.int .u32 (w:Int)]) Tryz.func262 rfl Tryz.ntmps262 rfl ?_
 refine sj [.e,.p] Z<|Rg.box Z Z Z Z Z (fun b4 => ?_)
 refine aj Z<|nl<|wj<|sj [.p,.r] Z<|fj Z<|lj Z Z<|nl<|bj<|sj [.p,.p] Z<|uj Z (Pv.eql Z Z)<|aj Z<|nl<|cj Z (fun h11 => ?_) (fun h11 => ?_)
 · have hk:p.kind=1:=by simpa using h11
   have hm:msgP p val out (w:Int)=comb 1 val 1:=by rw [msgP,if_pos hk]
   refine sj [.p,.e,.p] Z<|mj Z<|Rg.callP Z Z Z (run_callF rfl) (combine_spec _ 1 val 1 hv.1 (by omega)) ?_
   rintro _ rfl
   refine aj Z<|nl<|Vc.ret (Vc.rets Z (.cons (.tmp Z) (.nil)) ?_)
   exact congrArg (Value.int .u64) hm.symm
 · have hk1 : ¬p.kind=1:=by simpa using h11
   refine sj [.p,.p] Z<|uj Z (Pv.eql Z Z)<|aj Z<|nl<|cj Z (fun h15 => ?_) (fun h15 => ?_)
   · have hk:p.kind=3:=by simpa using h15
     have hm:msgP p val out (w:Int)=comb 1 val (w:Int):=by rw [msgP,if_neg hk1,if_pos hk]
     refine sj [.p,.p,.p,.e,.p] Z<|mj Z<|mj Z<|uj Z (Pv.asI w (Pv.convI rfl) (wrap_ult rfl (by show w<2 ^ 64; omega)))<|Rg.callP Z Z Z (run_callF rfl) (combine_spec _ 1 val (w:Int) hv.1 (by omega)) ?_
     rintro _ rfl
     refine aj Z<|nl<|Vc.ret (Vc.rets Z (.cons (.tmp Z) (.nil)) ?_)
     exact congrArg (Value.int .u64) hm.symm
   · have hk3 : ¬p.kind=3:=by simpa using h15
     refine sj [.p,.p] Z<|uj Z (Pv.eql Z Z)<|aj Z<|nl<|cj Z (fun h21 => ?_) (fun h21 => ?_)
     · have hk:p.kind=4:=by simpa using h21
       have hm:msgP p val out (w:Int)=if out<1 then 0 else val / out:=by rw [msgP,if_neg hk1,if_neg hk3,if_pos hk]
       refine wj<|sj [.p,.p] Z<|mj Z<|uj Z (Pv.lss Z Z)<|nl<|cj Z (fun h24 => ?_) (fun h24 => ?_)
       · simp only [decide_eq_true_eq] at h24
         rw [if_pos h24] at hm
         refine sj [.p] Z<|aj Z<|nl<|Vc.ret (Vc.rets Z (.cons (.tmp Z) (.nil)) ?_)
         exact congrArg (Value.int .u64) hm.symm
       · simp only [decide_eq_false_iff_not] at h24
         rw [if_neg h24] at hm
         refine kj<|sj [.p,.p,.p,.p,.p] Z<|mj Z<|mj Z<|uj Z (Pv.as (.int .u64 out) (Pv.convI rfl) (by rw [wrap_u64i ho.1,Int.emod_eq_of_lt ho.1 (by omega)]))<|uj Z (Pv.quoU rfl rfl ⟨hv.1,hv.2,by omega⟩)<|aj Z<|nl<|Vc.ret (Vc.rets Z (.cons (.tmp Z) (.nil)) ?_)
         exact congrArg (Value.int .u64) hm.symm
     · have hk4 : ¬p.kind=4:=by simpa using h21
       refine sj [.p,.p] Z<|uj Z (Pv.eql Z Z)<|aj Z<|nl<|cj Z (fun h29 => ?_) (fun h29 => ?_)
       · have hk:p.kind=5:=by simpa using h29
         have hm:msgP p val out (w:Int)=1:=by rw [msgP,if_neg hk1,if_neg hk3,if_neg hk4,if_pos hk]
         refine sj [.p] Z<|aj Z<|nl<|Vc.ret (Vc.rets Z (.cons (.tmp Z) (.nil)) ?_)
         exact congrArg (Value.int .u64) hm.symm
       · have hk5 : ¬p.kind=5:=by simpa using h29
         have hm:msgP p val out (w:Int)=val:=by rw [msgP,if_neg hk1,if_neg hk3,if_neg hk4,if_neg hk5]
         refine kj<|dj<|sj [.p,.p] Z<|mj Z<|aj Z<|nl<|Vc.ret (Vc.rets Z (.cons (.tmp Z) (.nil)) ?_)
         exact congrArg (Value.int .u64) hm.symm
theorem tnext_spec (val:Int) (hv:InU val) (sum:Int) (hs:InU sum) (any:Bool):Spec Tryz.prog 210 #[prV p,.int .u64 val,.int .u64 sum,.bool any] F [] fun v _=>v=.tuple #[.int .u64 (nextP p val (if any=true then some sum else none)).1,.bool (nextP p val (if any=true then some sum else none)).2]:=by
 unfold InU at hv hs
 obtain ⟨o,ho⟩:∃o,o=(if any=true then some sum else none):=⟨_,rfl⟩
 rw [←ho]
 refine Spec.of (n:=36) (vs:=[prV p,.int .u64 val,.int .u64 sum,.bool any]) Tryz.func210 rfl Tryz.ntmps210 rfl ?_
 refine sj [.e,.p,.p] Z<|Rg.box Z Z Z Z Z (fun b4 => ?_)
 refine aj Z<|aj Z<|nl<|wj<|sj [.p,.p] Z<|mj Z<|uj Z (Pv.not Z)<|nl<|Vc.cut1 (fun (z:Int)=>z=o.getD 0∧InU z) (fun z=>[(2,.int .u64 z),(1,.int .u64 val),(3,.bool any),(4,.pointer (some ⟨b4,0,none⟩))]) (fun z=>[(b4,cellsO (prC p) 24)]) ?_ ?_
 · refine cj Z (fun h12 => ?_) (fun h12 => ?_)
   · have ha:any=false:=by simpa using h12
     refine tj [.p] Z<|aj Z<|nl ?_
     exact Vc.inv1 0 ⟨by rw [ho,ha]; rfl,⟨Int.le_refl _,by decide⟩⟩ (.cons rfl (.cons rfl (.cons rfl (.cons rfl .nil)))) pulled
   · have ha:any=true:=by simpa using h12
     refine kj ?_
     exact Vc.inv1 sum ⟨by rw [ho,ha]; rfl,hs⟩ (.cons rfl (.cons rfl (.cons rfl (.cons rfl .nil)))) pulled
 · rintro z ⟨hz,hzu⟩
   unfold InU at hzu
   refine wj<|sj [.p,.r] Z<|fj Z<|lj Z Z<|nl<|bj<|sj [.p,.p] Z<|uj Z (Pv.eql Z Z)<|aj Z<|nl<|cj Z (fun h15 => ?_) (fun h15 => ?_)
   · have hk:p.kind=4:=by simpa using h15
     have hm:nextP p val o=(157284+z / 20*17,decide (157284+z / 20*17≠val)):=by rw [nextP,if_pos hk,hz]
     refine sj [.p,.p,.p,.p,.p] Z<|mj Z<|uj Z (Pv.quoU rfl rfl ⟨hzu.1,hzu.2,by omega⟩)<|uj Z (Pv.as (.int .u64 (z / 20*17)) (Pv.mulW rfl rfl) (by rw [wrap_u64i (by omega),Int.emod_eq_of_lt (by omega) (by omega)]))<|uj Z (Pv.as (.int .u64 (157284+z / 20*17)) (Pv.addW rfl rfl) (by rw [wrap_u64i (by omega),Int.emod_eq_of_lt (by omega) (by omega)]))<|aj Z<|nl<|sj [.p,.p,.p,.p,.p,.p] Z<|mj Z<|mj Z<|mj Z<|uj Z (Pv.neq Z Z)<|aj Z<|aj Z<|nl ?_
     refine Vc.ret (Vc.rets Z (.cons (.tmp Z) (.cons (.tmp Z) (.nil))) ?_)
     rw [hm]
     exact congrArg (fun b=>Value.tuple #[.int .u64 (157284+z / 20*17),.bool b]) (by rw [Bool.eq_iff_iff]; simp)
   · have hk4 : ¬p.kind=4:=by simpa using h15
     refine sj [.p,.p] Z<|uj Z (Pv.eql Z Z)<|aj Z<|nl<|cj Z (fun h25 => ?_) (fun h25 => ?_)
     · have hk:p.kind=5:=by simpa using h25
       have hm:nextP p val o=(z,false):=by rw [nextP,if_neg hk4,if_pos hk,hz]
       refine sj [.p,.p,.p] Z<|mj Z<|aj Z<|aj Z<|nl<|Vc.ret (Vc.rets Z (.cons (.tmp Z) (.cons (.tmp Z) (.nil))) ?_)
       rw [hm]
       rfl
     · have hk5 : ¬p.kind=5:=by simpa using h25
       have hm:nextP p val o=lessN val o:=by rw [nextP,if_neg hk4,if_neg hk5]
       refine kj<|dj<|wj<|sj [.p,.p,.p,.p,.p,.p] Z<|mj Z<|mj Z<|Rg.split (t:=29) Z (fun h29 => ?_) (fun h29 => ?_)
       · obtain rfl:o=some z:=by
          rw [ho,h29,if_pos rfl]
          rw [ho,h29,if_pos rfl] at hz
          rw [hz]; rfl
         refine mj Z<|mj Z<|uj Z (Pv.lss Z Z)<|qj Z Z<|nl<|cj Z (fun h33 => ?_) (fun h33 => ?_)
         · simp only [decide_eq_true_eq] at h33
           try rw [lessN,if_pos h33] at hm
           refine sj [.p,.p,.p] Z<|mj Z<|aj Z<|aj Z<|nl<|Vc.ret (Vc.rets Z (.cons (.tmp Z) (.cons (.tmp Z) (.nil))) ?_)
           rw [hm]
           rfl
         · simp only [decide_eq_false_iff_not] at h33
           try rw [lessN,if_neg h33] at hm
           refine kj<|sj [.p,.p,.p] Z<|mj Z<|aj Z<|aj Z<|nl<|Vc.ret (Vc.rets Z (.cons (.tmp Z) (.cons (.tmp Z) (.nil))) ?_)
           rw [hm]
           rfl
       · obtain rfl:o=none:=by rw [ho,h29]; rfl
         iterate 3 (first | refine Rg.skipP rfl rfl rfl ?_ | refine Rg.skipR rfl rfl rfl ?_ | refine Rg.skipE rfl rfl rfl ?_)
         refine pj Z Z<|nl<|Vc.condF Z<|kj<|sj [.p,.p,.p] Z<|mj Z<|aj Z<|aj Z<|nl<|Vc.ret (Vc.rets Z (.cons (.tmp Z) (.cons (.tmp Z) (.nil))) ?_)
         rw [hm]
         rfl
structure CfA (F:Fm) (a b:Value) (c:Cf):Prop where
 va:Arg u64E F a c.vals
 la:Arg boolE F b c.live
 len:c.live.length=c.vals.length
 few:c.vals.length≤1048576
theorem CfA.mono {F F':Fm} {a b:Value} {c:Cf} (h:CfA F a b c) (hF:∀b o,F.at_ b o→F'.at_ b o):CfA F' a b c:=⟨h.va.mono hF,h.la.mono hF,h.len,h.few⟩
theorem tquiet_spec {a b:Value} {c:Cf} (h:CfA F a b c):Spec Tryz.prog 193 #[cfV a b] F [] fun v _=>v=.bool (quietC c):=by
 have hl:=h.len
 have hf:=h.few
 obtain ⟨p1,c1,e1⟩:=h.va.shape
 obtain ⟨p2,c2,e2⟩:=h.la.shape
 have ha:=h.la
 subst e1; subst e2
 refine Spec.of (n:=7) (vs:=[cfV (.slice p1 c.vals.length c1) (.slice p2 c.live.length c2)]) Tryz.func193 rfl Tryz.ntmps193 rfl ?_
 refine sj [.e,.p] Z<|Rg.box Z Z Z Z Z (fun b1 => ?_)
 refine aj Z<|nl<|sj [.p,.r,.e,.p,.p] Z<|fj Z<|lj Z Z ?_
 refine Rg.callP Z Z Z (run_callF rfl) (containsT_spec (ha.mono fun b o h=>Or.inr h) (by omega)) ?_
 rintro _ rfl
 refine uj Z (Pv.not Z)<|aj Z<|nl<|Vc.ret (Vc.rets Z (.cons (.tmp Z) (.nil)) ?_)
 rfl
def sendsP (p:Prg) (c:Cf) (v:Nat):Bool:=if p.kind=4 then !quietC c else c.live[v]!
end
end Go.Proofs.YtkpiakgmkpbikaaGreatDoor
namespace Go.Proofs.YtkpiakgmkpbikaaGreatDoor
def CfO (v:Value) (c:Cf) (s:Hl):Prop:=∃a b s1 s2,v=cfV a b∧Own u64E a c.vals s1∧Own boolE b c.live s2∧s=s1++s2
structure InC (c:Cf) (n:Nat):Prop where
 vl:c.vals.length=n
 ll:c.live.length=n
 few:n≤1048576
 in_:∀v,v<n→InU c.vals[v]!
theorem CfO.args {v:Value} {c:Cf} {s:Hl} {n:Nat} (h:CfO v c s) (hi:InC c n) {F:Fm} (hF:∀b o,(b,o)∈s→F.at_ b o):∃a b,v=cfV a b∧CfA F a b c:=by
 obtain ⟨a,b,s1,s2,rfl,o1,o2,rfl⟩:=h
 exact ⟨a,b,rfl,Arg.own o1 fun b o h=>hF b o (List.mem_append_left _ h),Arg.own o2 fun b o h=>hF b o (List.mem_append_right _ h),by rw [hi.ll,hi.vl],by rw [hi.vl]; exact hi.few⟩
theorem startC_in {p:Prg} {n:Nat} (hn:n≤1048576):InC (startC p n) n:=by
 refine ⟨by simp [startC],by simp [startC],hn,fun v hv => ?_⟩
 rw [getElem!_pos (startC p n).vals v (by simpa [startC] using hv)]
 simp only [startC,List.getElem_map,List.getElem_range,sA,InU]
 split
 · omega
 · split
   · omega
   · split
     · split<;>omega
     · omega
section
variable {F : Fm} {p : Prg}
theorem may_spec2 (hp:p.start<4294967296) (n:Nat) (hn:n≤1048576):Spec Tryz.prog 234 #[prV p,.agg #[.int .i64 (n:Int),.slice none 0 0]] F [] fun v _=>v=.bool (rightP p n):=by
 have hr:ED.rightG (n:Int) []=true:=by simp [ED.rightG]; omega
 refine Spec.of (n:=13) (vs:=[prV p,.agg #[.int .i64 (n:Int),.slice none 0 0]]) Tryz.func234 rfl Tryz.ntmps234 rfl ?_
 refine sj [.e,.e,.p] Z<|Rg.box Z Z Z Z Z (fun b2 => ?_)
 refine Rg.box Z Z Z Z Z (fun b3 => ?_)
 refine aj Z<|nl<|sj [.r,.e,.p,.r,.p,.r,.e,.p,.p] Z<|rj Z (Ev.ldA Z Z)<|Rg.callP Z Z Z (run_callF rfl) (ED.right_spec (va:=.slice none 0 0) (es:=[]) Arg.nil (by simp) (fun e he=>by cases he) (n:Int)) ?_
 rintro _ rfl
 rw [hr]
 refine mj Z<|Rg.split (t:=7) rfl (fun h7 => ?_) (fun h7=>absurd h7 (by decide))
 refine rj Z (Ev.ldA Z Z)<|fj Z<|lj Z Z ?_
 refine Rg.callP Z Z Z (run_callF Z) (tright_spec hp (n:Int)) ?_
 rintro _ rfl
 refine qj Z Z<|aj Z<|nl<|Vc.ret (Vc.rets Z (.cons (.tmp Z) (.nil)) ?_)
 rfl
def A0 (p:Prg) (j:Nat):Int:=if p.kind=2 then j else if p.kind=4 then 1048576 else if p.kind=1∨p.kind=3 then 18446744073709551615 else 0
def B0 (p:Prg):Bool:=if p.kind=1∨p.kind=3 then false else true
theorem sA_one {p:Prg} (h:p.kind=1∨p.kind=3) (j:Nat):sA p j=if j=p.start then 0 else 18446744073709551615:=by
 rw [sA,if_neg (by omega),if_neg (by omega),if_pos h]
theorem A0_one {p:Prg} (h:p.kind=1∨p.kind=3) (j:Nat):A0 p j=18446744073709551615:=by
 rw [A0,if_neg (by omega),if_neg (by omega),if_pos h]
set_option maxHeartbeats 4000000 in
theorem tstart_spec (hp:p.start<4294967296) (n:Nat) (hn:n≤1048576) (hr:rightP p n=true):Spec Tryz.prog 203 #[prV p,.agg #[.int .i64 (n:Int),.slice none 0 0]] F [] fun v s=>∃u,v=.tuple #[u,.int .i64 0]∧CfO u (startC p n) s:=by
 obtain ⟨hk1,hk5,_,_,hks⟩:=rightP_iff.1 hr
 refine Spec.of (n:=74) (vs:=[prV p,.agg #[.int .i64 (n:Int),.slice none 0 0]]) Tryz.func203 rfl Tryz.ntmps203 rfl ?_
 refine sj [.e,.e,.e,.p] Z<|Rg.box Z Z Z Z Z (fun b2 => ?_)
 refine Rg.box Z Z Z Z Z (fun b3 => ?_)
 refine Rg.alloc Z Z Z Z (fun b4 => ?_)
 refine aj Z<|nl<|wj<|sj [.r,.r,.e,.p] Z<|rj Z (Ev.ldA Z Z)<|rj Z (Ev.ldA Z Z)<|Rg.callP Z Z Z (run_callF Z) (may_spec2 hp n hn) ?_
 rintro _ rfl
 refine uj Z (Pv.not Z)<|nl<|cj Z (fun h11=>absurd h11 (by (rw [hr]; decide))) (fun h11 => ?_)
 refine kj<|wj<|Vc.cut5 (fun (b6 b15:Nat) (pl:Option Addr) (cl:Nat) (sl:Hl)=>Own boolE (.slice pl n cl) (List.replicate n true) sl) (fun b6 b15 pl cl sl=>[(2,.pointer (some ⟨b2,0,none⟩)),(4,.pointer (some ⟨b4,0,none⟩)),(6,.pointer (some ⟨b6,0,none⟩))]) (fun b6 b15 pl cl sl=>(b6,cellsO [.slice (some ⟨b15,0,none⟩) n n,.slice pl n cl] 84)::(b4,cellsO [.slice none 0 0,.slice none 0 0] 84)::(b2,cellsO (prC p) 24)::(b15,rowS u64E (List.replicate n 0) [])::sl) ?_ ?_
 · refine Vc.draw [9] (.st 0 .pure (.st 1 .read (.st 4 .pure (.st 5 .read (.three 2 (.two 3 (.two 6 (sd [(7,.pure),(8,.eff),(9,.eff)]) 8 (sd [(6,.eff),(7,.pure),(9,.eff)])) 8 (sd [(3,.eff),(6,.eff),(7,.pure),(9,.eff)])) 3 (.three 2 (.two 6 (sd [(7,.pure),(8,.eff),(9,.eff)]) 8 (sd [(6,.eff),(7,.pure),(9,.eff)])) 6 (.two 2 (sd [(7,.pure),(8,.eff),(9,.eff)]) 8 (sd [(2,.eff),(7,.pure),(9,.eff)])) 8 (.two 2 (sd [(6,.eff),(7,.pure),(9,.eff)]) 6 (sd [(2,.eff),(7,.pure),(9,.eff)]))) 8 (.two 2 (sd [(3,.eff),(6,.eff),(7,.pure),(9,.eff)]) 3 (.two 2 (sd [(6,.eff),(7,.pure),(9,.eff)]) 6 (sd [(2,.eff),(7,.pure),(9,.eff)])))))))) mixed (by kernel_rfl)<|fj Z<|lj Z Z<|fj Z<|lj Z Z ?_
   refine Rg.three ?_ ?_ ?_
   · refine Rg.makeN u64E 0 (m:=n) rfl rfl rfl rfl rfl ⟨by omega,by (show n≤9223372036854775807); omega⟩ (fun b15 own15 => ?_)
     refine Rg.two ?_ ?_
     · refine Rg.bslice1R (E:=boolE) (e:=4) true Z Z Z Z Z Z Z Z (fun b16 own16 => ?_)
       refine Rg.two ?_ ?_
       · refine Rg.callA Z Z Z (run_callF Z) (repeatT_spec (Arg.own own16 frz_sb) n hn) ?_
         rintro v19 s19 own19
         obtain ⟨pl,cl,rfl⟩:=own19.shape
         rw [List.length_replicate] at own19 ⊢
         refine uj Z (Pv.build (c:=#[.slice (some ⟨b15,0,none⟩) n n,.slice pl n cl]) Z Z)<|Rg.alloc Z Z Z Z (fun b6 => ?_)
         refine Rg.storeA Z Z Z Z Z Z Z Z<|nl ?_
         exact Vc.inv5 b6 b15 pl cl s19 own19 (.cons rfl (.cons rfl (.cons rfl .nil))) pulled
       · refine Rg.alloc Z Z Z Z (fun b6 => ?_)
         refine Rg.callA Z Z Z (run_callF Z) (repeatT_spec (Arg.own own16 frz_sb) n hn) ?_
         rintro v19 s19 own19
         obtain ⟨pl,cl,rfl⟩:=own19.shape
         rw [List.length_replicate] at own19 ⊢
         refine uj Z (Pv.build (c:=#[.slice (some ⟨b15,0,none⟩) n n,.slice pl n cl]) Z Z)<|Rg.storeA Z Z Z Z Z Z Z Z<|nl ?_
         exact Vc.inv5 b6 b15 pl cl s19 own19 (.cons rfl (.cons rfl (.cons rfl .nil))) pulled
     · refine Rg.alloc Z Z Z Z (fun b6 => ?_)
       refine Rg.bslice1R (E:=boolE) (e:=4) true Z Z Z Z Z Z Z Z (fun b16 own16 => ?_)
       refine Rg.callA Z Z Z (run_callF Z) (repeatT_spec (Arg.own own16 frz_sb) n hn) ?_
       rintro v19 s19 own19
       obtain ⟨pl,cl,rfl⟩:=own19.shape
       rw [List.length_replicate] at own19 ⊢
       refine uj Z (Pv.build (c:=#[.slice (some ⟨b15,0,none⟩) n n,.slice pl n cl]) Z Z)<|Rg.storeA Z Z Z Z Z Z Z Z<|nl ?_
       exact Vc.inv5 b6 b15 pl cl s19 own19 (.cons rfl (.cons rfl (.cons rfl .nil))) pulled
   · refine Rg.bslice1R (E:=boolE) (e:=4) true Z Z Z Z Z Z Z Z (fun b16 own16 => ?_)
     refine Rg.three ?_ ?_ ?_
     · refine Rg.makeN u64E 0 (m:=n) rfl rfl rfl rfl rfl ⟨by omega,by (show n≤9223372036854775807); omega⟩ (fun b15 own15 => ?_)
       refine Rg.two ?_ ?_
       · refine Rg.callA Z Z Z (run_callF Z) (repeatT_spec (Arg.own own16 frz_sb) n hn) ?_
         rintro v19 s19 own19
         obtain ⟨pl,cl,rfl⟩:=own19.shape
         rw [List.length_replicate] at own19 ⊢
         refine uj Z (Pv.build (c:=#[.slice (some ⟨b15,0,none⟩) n n,.slice pl n cl]) Z Z)<|Rg.alloc Z Z Z Z (fun b6 => ?_)
         refine Rg.storeA Z Z Z Z Z Z Z Z<|nl ?_
         exact Vc.inv5 b6 b15 pl cl s19 own19 (.cons rfl (.cons rfl (.cons rfl .nil))) pulled
       · refine Rg.alloc Z Z Z Z (fun b6 => ?_)
         refine Rg.callA Z Z Z (run_callF Z) (repeatT_spec (Arg.own own16 frz_sb) n hn) ?_
         rintro v19 s19 own19
         obtain ⟨pl,cl,rfl⟩:=own19.shape
         rw [List.length_replicate] at own19 ⊢
         refine uj Z (Pv.build (c:=#[.slice (some ⟨b15,0,none⟩) n n,.slice pl n cl]) Z Z)<|Rg.storeA Z Z Z Z Z Z Z Z<|nl ?_
         exact Vc.inv5 b6 b15 pl cl s19 own19 (.cons rfl (.cons rfl (.cons rfl .nil))) pulled
     · refine Rg.callA Z Z Z (run_callF Z) (repeatT_spec (Arg.own own16 frz_sb) n hn) ?_
       rintro v19 s19 own19
       obtain ⟨pl,cl,rfl⟩:=own19.shape
       rw [List.length_replicate] at own19 ⊢
       refine Rg.two ?_ ?_
       · refine Rg.makeN u64E 0 (m:=n) rfl rfl rfl rfl rfl ⟨by omega,by (show n≤9223372036854775807); omega⟩ (fun b15 own15 => ?_)
         refine uj Z (Pv.build (c:=#[.slice (some ⟨b15,0,none⟩) n n,.slice pl n cl]) Z Z)<|Rg.alloc Z Z Z Z (fun b6 => ?_)
         refine Rg.storeA Z Z Z Z Z Z Z Z<|nl ?_
         exact Vc.inv5 b6 b15 pl cl s19 own19 (.cons rfl (.cons rfl (.cons rfl .nil))) pulled
       · refine Rg.alloc Z Z Z Z (fun b6 => ?_)
         refine Rg.makeN u64E 0 (m:=n) rfl rfl rfl rfl rfl ⟨by omega,by (show n≤9223372036854775807); omega⟩ (fun b15 own15 => ?_)
         refine uj Z (Pv.build (c:=#[.slice (some ⟨b15,0,none⟩) n n,.slice pl n cl]) Z Z)<|Rg.storeA Z Z Z Z Z Z Z Z<|nl ?_
         exact Vc.inv5 b6 b15 pl cl s19 own19 (.cons rfl (.cons rfl (.cons rfl .nil))) pulled
     · refine Rg.alloc Z Z Z Z (fun b6 => ?_)
       refine Rg.two ?_ ?_
       · refine Rg.makeN u64E 0 (m:=n) rfl rfl rfl rfl rfl ⟨by omega,by (show n≤9223372036854775807); omega⟩ (fun b15 own15 => ?_)
         refine Rg.callA Z Z Z (run_callF Z) (repeatT_spec (Arg.own own16 frz_sb) n hn) ?_
         rintro v19 s19 own19
         obtain ⟨pl,cl,rfl⟩:=own19.shape
         rw [List.length_replicate] at own19 ⊢
         refine uj Z (Pv.build (c:=#[.slice (some ⟨b15,0,none⟩) n n,.slice pl n cl]) Z Z)<|Rg.storeA Z Z Z Z Z Z Z Z<|nl ?_
         exact Vc.inv5 b6 b15 pl cl s19 own19 (.cons rfl (.cons rfl (.cons rfl .nil))) pulled
       · refine Rg.callA Z Z Z (run_callF Z) (repeatT_spec (Arg.own own16 frz_sb) n hn) ?_
         rintro v19 s19 own19
         obtain ⟨pl,cl,rfl⟩:=own19.shape
         rw [List.length_replicate] at own19 ⊢
         refine Rg.makeN u64E 0 (m:=n) rfl rfl rfl rfl rfl ⟨by omega,by (show n≤9223372036854775807); omega⟩ (fun b15 own15 => ?_)
         refine uj Z (Pv.build (c:=#[.slice (some ⟨b15,0,none⟩) n n,.slice pl n cl]) Z Z)<|Rg.storeA Z Z Z Z Z Z Z Z<|nl ?_
         exact Vc.inv5 b6 b15 pl cl s19 own19 (.cons rfl (.cons rfl (.cons rfl .nil))) pulled
   · refine Rg.alloc Z Z Z Z (fun b6 => ?_)
     refine Rg.two ?_ ?_
     · refine Rg.makeN u64E 0 (m:=n) rfl rfl rfl rfl rfl ⟨by omega,by (show n≤9223372036854775807); omega⟩ (fun b15 own15 => ?_)
       refine Rg.bslice1R (E:=boolE) (e:=4) true Z Z Z Z Z Z Z Z (fun b16 own16 => ?_)
       refine Rg.callA Z Z Z (run_callF Z) (repeatT_spec (Arg.own own16 frz_sb) n hn) ?_
       rintro v19 s19 own19
       obtain ⟨pl,cl,rfl⟩:=own19.shape
       rw [List.length_replicate] at own19 ⊢
       refine uj Z (Pv.build (c:=#[.slice (some ⟨b15,0,none⟩) n n,.slice pl n cl]) Z Z)<|Rg.storeA Z Z Z Z Z Z Z Z<|nl ?_
       exact Vc.inv5 b6 b15 pl cl s19 own19 (.cons rfl (.cons rfl (.cons rfl .nil))) pulled
     · refine Rg.bslice1R (E:=boolE) (e:=4) true Z Z Z Z Z Z Z Z (fun b16 own16 => ?_)
       refine Rg.two ?_ ?_
       · refine Rg.makeN u64E 0 (m:=n) rfl rfl rfl rfl rfl ⟨by omega,by (show n≤9223372036854775807); omega⟩ (fun b15 own15 => ?_)
         refine Rg.callA Z Z Z (run_callF Z) (repeatT_spec (Arg.own own16 frz_sb) n hn) ?_
         rintro v19 s19 own19
         obtain ⟨pl,cl,rfl⟩:=own19.shape
         rw [List.length_replicate] at own19 ⊢
         refine uj Z (Pv.build (c:=#[.slice (some ⟨b15,0,none⟩) n n,.slice pl n cl]) Z Z)<|Rg.storeA Z Z Z Z Z Z Z Z<|nl ?_
         exact Vc.inv5 b6 b15 pl cl s19 own19 (.cons rfl (.cons rfl (.cons rfl .nil))) pulled
       · refine Rg.callA Z Z Z (run_callF Z) (repeatT_spec (Arg.own own16 frz_sb) n hn) ?_
         rintro v19 s19 own19
         obtain ⟨pl,cl,rfl⟩:=own19.shape
         rw [List.length_replicate] at own19 ⊢
         refine Rg.makeN u64E 0 (m:=n) rfl rfl rfl rfl rfl ⟨by omega,by (show n≤9223372036854775807); omega⟩ (fun b15 own15 => ?_)
         refine uj Z (Pv.build (c:=#[.slice (some ⟨b15,0,none⟩) n n,.slice pl n cl]) Z Z)<|Rg.storeA Z Z Z Z Z Z Z Z<|nl ?_
         exact Vc.inv5 b6 b15 pl cl s19 own19 (.cons rfl (.cons rfl (.cons rfl .nil))) pulled
 · rintro b6 b15 pl cl sl own
   refine wj<|sj [.p,.r,.p,.p] Z<|fj Z<|lj Z Z<|uj Z (Pv.lenS Z)<|mj Z<|nl<|bj ?_
   refine Vc.loop4 (fun (k:Nat) (ys:List Int) (zs:List Bool) (sl:Hl)=>k≤n∧ys.length=n∧zs.length=n∧Own boolE (.slice pl n cl) zs sl∧(∀j,j<n→ys[j]! = if j<k then A0 p j else 0)∧∀j,j<n→zs[j]! = if j<k then B0 p else true) (fun k ys zs sl=>[(23,.int .i64 (n:Int)),(24,.int .i64 (k:Int)),(2,.pointer (some ⟨b2,0,none⟩)),(4,.pointer (some ⟨b4,0,none⟩)),(6,.pointer (some ⟨b6,0,none⟩))]) (fun k ys zs sl=>(b6,cellsO [.slice (some ⟨b15,0,none⟩) n n,.slice pl n cl] 84)::(b4,cellsO [.slice none 0 0,.slice none 0 0] 84)::(b2,cellsO (prC p) 24)::(b15,rowS u64E ys [])::sl) (fun k ys zs sl=>n-k) 0 (List.replicate n 0) (List.replicate n true) sl ⟨Nat.zero_le _,by simp,by simp,own,fun j hj=>by rw [rep_at n j 0 hj]; simp,fun j hj=>by rw [rep_at n j true hj]; simp⟩ (.cons rfl (.cons rfl (.cons rfl (.cons rfl (.cons rfl .nil))))) pulled ?_
   rintro k ys zs sl ⟨hk,hyl,hzl,own,hys,hzs⟩
   refine sj [.p] Z<|uj Z (Pv.lss Z Z)<|nl<|wj<|cj Z (fun h25 => ?_) (fun h25 => ?_)
   · simp only [decide_eq_true_eq] at h25
     have hk1':k<n:=by omega
     obtain ⟨bl,cl',spl,e,rfl,hcap,hcm⟩:=own.block (by omega)
     simp only [Value.slice.injEq] at e
     obtain ⟨rfl,_,rfl⟩:=e
     have hYS:∀x,A0 p k=x→∀j,j<n→(ys.set k x)[j]! = if j<k+1 then A0 p j else 0:=fun x hx j hj=>by
      rw [get_set2 ys k j x (by omega)]
      by_cases e:k=j
      · subst e; rw [if_pos rfl,if_pos (by omega),hx]
      · rw [if_neg e,hys j hj]
        by_cases h:j<k
        · rw [if_pos h,if_pos (by omega)]
        · rw [if_neg h,if_neg (by omega)]
     have hZS:∀x,B0 p=x→∀j,j<n→(zs.set k x)[j]! = if j<k+1 then B0 p else true:=fun x hx j hj=>by
      rw [get_set2 zs k j x (by omega)]
      by_cases e:k=j
      · subst e; rw [if_pos rfl,if_pos (by omega),hx]
      · rw [if_neg e,hzs j hj]
        by_cases h:j<k
        · rw [if_pos h,if_pos (by omega)]
        · rw [if_neg h,if_neg (by omega)]
     have hY0:A0 p k=0→∀j,j<n→ys[j]! = if j<k+1 then A0 p j else 0:=fun hx j hj=>by
      rw [hys j hj]
      by_cases h:j<k
      · rw [if_pos h,if_pos (by omega)]
      · rw [if_neg h]
        by_cases e:j=k
        · subst e; rw [if_pos (by omega),hx]
        · rw [if_neg (by omega)]
     have hZ0:B0 p=true→∀j,j<n→zs[j]! = if j<k+1 then B0 p else true:=fun hx j hj=>by
      rw [hzs j hj,hx]
      simp
     refine kj<|wj<|bj<|sj [.p,.p] Z<|mj Z<|aj Z<|nl<|sj [.p,.r] Z<|fj Z<|lj Z Z<|nl<|bj<|sj [.p,.p] Z<|uj Z (Pv.eql Z Z)<|aj Z ?_
     refine nl<|Vc.cut3 (fun (ys2:List Int) (zs2:List Bool) (sl2:Hl)=>ys2.length=n∧zs2.length=n∧Own boolE (.slice (some ⟨bl,0,none⟩) n cl) zs2 sl2∧(∀j,j<n→ys2[j]! = if j<k+1 then A0 p j else 0)∧∀j,j<n→zs2[j]! = if j<k+1 then B0 p else true) (fun ys2 zs2 sl2=>[(23,.int .i64 (n:Int)),(24,.int .i64 (k:Int)),(2,.pointer (some ⟨b2,0,none⟩)),(4,.pointer (some ⟨b4,0,none⟩)),(6,.pointer (some ⟨b6,0,none⟩))]) (fun ys2 zs2 sl2=>(b6,cellsO [.slice (some ⟨b15,0,none⟩) n n,.slice (some ⟨bl,0,none⟩) n cl] 84)::(b4,cellsO [.slice none 0 0,.slice none 0 0] 84)::(b2,cellsO (prC p) 24)::(b15,rowS u64E ys2 [])::sl2) ?_ ?_
     · refine cj Z (fun h29 => ?_) (fun h29 => ?_)
       · have hkk:p.kind=2:=by simpa using h29
         have hA:A0 p k=((k:Nat):Int):=by rw [A0,if_pos hkk]
         have hB:B0 p=true:=by rw [B0,if_neg (by omega)]
         refine tj [.p,.r,.p,.p,.p,.p,.e] Z<|fj Z<|lj Z Z<|mj Z<|mj Z<|uj Z (Pv.asI k (Pv.convI rfl) (wrap_ult rfl (by show k<2 ^ 64; omega)))<|uj Z (Pv.ixA (k) rfl rfl (by omega) (by omega)) ?_
         refine Rg.storeR (E:=u64E) (z:=((k:Nat):Int)) k rfl rfl rfl rfl rfl rfl (Nat.zero_add _) (by omega) rfl<|nl ?_
         exact Vc.inv3 (ys.set k ((k:Nat):Int)) zs _ ⟨by rw [List.length_set,hyl],hzl,own,hYS _ hA,hZ0 hB⟩ (.cons rfl (.cons rfl (.cons rfl (.cons rfl (.cons rfl .nil))))) pulled
       · have hk2 : ¬p.kind=2:=by simpa using h29
         refine sj [.p,.p] Z<|uj Z (Pv.eql Z Z)<|aj Z<|nl<|cj Z (fun h37 => ?_) (fun h37 => ?_)
         · have hkk:p.kind=4:=by simpa using h37
           have hA:A0 p k=1048576:=by rw [A0,if_neg hk2,if_pos hkk]
           have hB:B0 p=true:=by rw [B0,if_neg (by omega)]
           refine tj [.p,.r,.p,.p,.e] Z<|fj Z<|lj Z Z<|mj Z<|uj Z (Pv.ixA (k) rfl rfl (by omega) (by omega)) ?_
           refine Rg.storeR (E:=u64E) (z:=(1048576:Int)) k rfl rfl rfl rfl rfl rfl (Nat.zero_add _) (by omega) rfl<|nl ?_
           exact Vc.inv3 (ys.set k 1048576) zs _ ⟨by rw [List.length_set,hyl],hzl,own,hYS _ hA,hZ0 hB⟩ (.cons rfl (.cons rfl (.cons rfl (.cons rfl (.cons rfl .nil))))) pulled
         · have hk4 : ¬p.kind=4:=by simpa using h37
           refine wj<|sj [.p,.p] Z<|uj Z (Pv.eql Z Z)<|aj Z<|nl<|Vc.cut1 (fun (bb:Bool)=>bb=true↔(p.kind=1∨p.kind=3)) (fun bb=>[(43,.bool bb),(7,.int .i64 (k:Int)),(23,.int .i64 (n:Int)),(24,.int .i64 (k:Int)),(2,.pointer (some ⟨b2,0,none⟩)),(4,.pointer (some ⟨b4,0,none⟩)),(6,.pointer (some ⟨b6,0,none⟩))]) (fun bb=>(b6,cellsO [.slice (some ⟨b15,0,none⟩) n n,.slice (some ⟨bl,0,none⟩) n cl] 84)::(b4,cellsO [.slice none 0 0,.slice none 0 0] 84)::(b2,cellsO (prC p) 24)::(b15,rowS u64E ys [])::[(bl,rowS boolE zs spl)]) ?_ ?_
           · refine cj Z (fun h43 => ?_) (fun h43 => ?_)
             · refine kj ?_
               exact Vc.inv1 _ ⟨fun _=>.inl (by simpa using h43),fun _=>h43⟩ (.cons rfl (.cons rfl (.cons rfl (.cons rfl (.cons rfl (.cons rfl (.cons rfl .nil))))))) pulled
             · refine tj [.p,.p] Z<|uj Z (Pv.eql Z Z)<|aj Z<|nl ?_
               exact Vc.inv1 _ ⟨fun h=>.inr (by simpa using h),fun h=>by
                have h1 : ¬p.kind=1:=by simpa using h43
                have h3:=h.resolve_left h1
                simp [h3]⟩ (.cons rfl (.cons rfl (.cons rfl (.cons rfl (.cons rfl (.cons rfl (.cons rfl .nil))))))) pulled
           · rintro bb hbb
             refine cj Z (fun h43 => ?_) (fun h43 => ?_)
             · have hkk:=hbb.1 h43
               have hA:A0 p k=18446744073709551615:=by rw [A0,if_neg hk2,if_neg hk4,if_pos hkk]
               have hB:B0 p=false:=by rw [B0,if_pos hkk]
               refine Vc.drawS [9] (sd [(0,.pure),(1,.read),(2,.pure),(3,.pure),(4,.read),(5,.pure),(6,.pure),(7,.eff),(8,.pure),(9,.eff)]) [(b6,cellsO [.slice (some ⟨b15,0,none⟩) n n,.slice (some ⟨bl,0,none⟩) n cl] 84)] pulled mixed (by kernel_rfl)<|fj Z<|lj Z Z<|mj Z<|fj Z<|lj Z Z<|mj Z<|uj Z (Pv.ixA (k) rfl rfl (by omega) (by omega)) ?_
               refine Rg.storeRN (E:=u64E) (z:=(18446744073709551615:Int)) k rfl rfl rfl rfl rfl rfl (Nat.zero_add _) (by omega)<|uj Z (Pv.ixA (k) rfl rfl (by omega) (by omega))<|Rg.storeR (E:=boolE) (z:=false) k rfl rfl rfl rfl rfl rfl (Nat.zero_add _) (by omega) rfl<|nl ?_
               exact Vc.inv3 (ys.set k 18446744073709551615) (zs.set k false) [(bl,rowS boolE (zs.set k false) spl)] ⟨by rw [List.length_set,hyl],by rw [List.length_set,hzl],Own.blk' bl cl n _ spl (by rw [List.length_set,hzl]) (by rw [←hzl]; exact hcap) hcm,hYS _ hA,hZS _ hB⟩ (.cons rfl (.cons rfl (.cons rfl (.cons rfl (.cons rfl .nil))))) pulled
             · have hkk : ¬(p.kind=1∨p.kind=3):=fun h=>by rw [hbb.2 h] at h43; cases h43
               have hA:A0 p k=0:=by rw [A0,if_neg hk2,if_neg hk4,if_neg hkk]
               have hB:B0 p=true:=by rw [B0,if_neg hkk]
               refine kj ?_
               exact Vc.inv3 ys zs _ ⟨hyl,hzl,own,hY0 hA,hZ0 hB⟩ (.cons rfl (.cons rfl (.cons rfl (.cons rfl (.cons rfl .nil))))) pulled
     · rintro ys2 zs2 sl2 ⟨hyl2,hzl2,own2,hys2,hzs2⟩
       refine dj<|dj<|tj [.p,.p] Z<|uj Z (Pv.asI (k+1) (Pv.add rfl rfl (by omega)) (by omega))<|mj Z<|nl ?_
       exact Vc.inv4 (k+1) ys2 zs2 sl2 ⟨⟨by omega,hyl2,hzl2,own2,hys2,hzs2⟩,by omega⟩ (.cons rfl (.cons rfl (.cons rfl (.cons rfl (.cons rfl .nil))))) pulled
   · simp only [decide_eq_false_iff_not] at h25
     obtain rfl:k=n:=by omega
     refine Vc.exit Z<|wj<|wj<|Vc.cut1 (fun (bb:Bool)=>bb=true↔(p.kind=1∨p.kind=3)) (fun bb=>[(62,.bool bb),(2,.pointer (some ⟨b2,0,none⟩)),(4,.pointer (some ⟨b4,0,none⟩)),(6,.pointer (some ⟨b6,0,none⟩))]) (fun bb=>(b6,cellsO [.slice (some ⟨b15,0,none⟩) k k,.slice pl k cl] 84)::(b4,cellsO [.slice none 0 0,.slice none 0 0] 84)::(b2,cellsO (prC p) 24)::(b15,rowS u64E ys [])::sl) ?_ ?_
     · refine tj [.p,.r,.p,.p,.p,.r,.p,.p] Z<|fj Z<|lj Z Z<|uj Z (Pv.eql Z Z)<|mj Z ?_
       refine Rg.split (t:=58) Z (fun h58 => ?_) (fun h58 => ?_)
       · iterate 3 (first | refine Rg.skipP rfl rfl rfl ?_ | refine Rg.skipR rfl rfl rfl ?_ | refine Rg.skipE rfl rfl rfl ?_)
         refine qj Z Z<|nl ?_
         exact Vc.inv1 true ⟨fun _=>.inl (by simpa using h58),fun _=>rfl⟩ (.cons rfl (.cons rfl (.cons rfl (.cons rfl .nil)))) pulled
       · refine fj Z<|lj Z Z<|uj Z (Pv.eql Z Z)<|pj Z Z<|nl ?_
         exact Vc.inv1 _ ⟨fun h=>.inr (by simpa using h),fun h=>by
          have h1 : ¬p.kind=1:=by simpa using h58
          have h3:=h.resolve_left h1
          simp [h3]⟩ (.cons rfl (.cons rfl (.cons rfl (.cons rfl .nil)))) pulled
     · rintro bb hbb
       refine Vc.cut3 (fun (ys2:List Int) (zs2:List Bool) (sl2:Hl)=>ys2=(startC p k).vals∧zs2=(startC p k).live∧Own boolE (.slice pl k cl) zs2 sl2) (fun ys2 zs2 sl2=>[(2,.pointer (some ⟨b2,0,none⟩)),(4,.pointer (some ⟨b4,0,none⟩)),(6,.pointer (some ⟨b6,0,none⟩))]) (fun ys2 zs2 sl2=>(b6,cellsO [.slice (some ⟨b15,0,none⟩) k k,.slice pl k cl] 84)::(b4,cellsO [.slice none 0 0,.slice none 0 0] 84)::(b15,rowS u64E ys2 [])::sl2) ?_ ?_
       · refine cj Z (fun h62 => ?_) (fun h62 => ?_)
         · have hkk:=hbb.1 h62
           have hps:p.start<k:=by omega
           obtain ⟨bl,cl',spl,e,rfl,hcap,hcm⟩:=own.block (by omega)
           simp only [Value.slice.injEq] at e
           obtain ⟨rfl,_,rfl⟩:=e
           refine Vc.drawS [11] (sd [(0,.pure),(1,.read),(2,.pure),(3,.read),(4,.pure),(5,.read),(6,.pure),(7,.read),(8,.pure),(9,.eff),(10,.pure),(11,.eff)]) [(b6,cellsO [.slice (some ⟨b15,0,none⟩) k k,.slice (some ⟨bl,0,none⟩) k cl] 84),(b2,cellsO (prC p) 24)] pulled mixed (by kernel_rfl)<|fj Z<|lj Z Z<|fj Z<|lj Z Z<|fj Z<|lj Z Z<|fj Z<|lj Z Z<|uj Z (Pv.ixK p.start rfl rfl rfl (by omega)) ?_
           refine Rg.storeRN (E:=u64E) (z:=(0:Int)) p.start rfl rfl rfl rfl rfl rfl (Nat.zero_add _) (by omega)<|uj Z (Pv.ixK p.start rfl rfl rfl (by omega))<|Rg.storeR (E:=boolE) (z:=true) p.start rfl rfl rfl rfl rfl rfl (Nat.zero_add _) (by omega) rfl<|nl ?_
           exact Vc.inv3 (ys.set p.start 0) (zs.set p.start true) [(bl,rowS boolE (zs.set p.start true) spl)] ⟨list_of (by rw [List.length_set,hyl]) (fun j hj=>by
            rw [get_set2 ys p.start j 0 (by omega),hys j hj,if_pos hj,sA_one hkk,A0_one hkk]
            by_cases e:p.start=j
            · rw [if_pos e,if_pos e.symm]
            · rw [if_neg e,if_neg (fun h=>e h.symm)]),list_of (by rw [List.length_set,hzl]) (fun j hj=>by
            rw [get_set2 zs p.start j true (by omega),hzs j hj,if_pos hj,sB,B0,if_pos hkk,if_pos hkk]
            by_cases e:p.start=j
            · rw [if_pos e,decide_eq_true e.symm]
            · rw [if_neg e,decide_eq_false (fun h=>e h.symm)]),Own.blk' bl cl k _ spl (by rw [List.length_set,hzl]) (by rw [←hzl]; exact hcap) hcm⟩ (.cons rfl (.cons rfl (.cons rfl .nil))) pulled
         · have hkk : ¬(p.kind=1∨p.kind=3):=fun h=>by rw [hbb.2 h] at h62; cases h62
           refine kj ?_
           exact Vc.inv3 ys zs sl ⟨list_of hyl (fun j hj=>by
            rw [hys j hj,if_pos hj,sA,A0]
            split
            · rfl
            · split
              · rfl
              · simp [hkk]),list_of hzl (fun j hj=>by
            rw [hzs j hj,if_pos hj,sB,B0,if_neg hkk,if_neg hkk]),own⟩ (.cons rfl (.cons rfl (.cons rfl .nil))) pulled
       · rintro ys2 zs2 sl2 ⟨rfl,rfl,own2⟩
         refine sj [.r,.e,.p] Z<|rj Z (Ev.ldA Z Z)<|Rg.storeA Z Z Z Z Z Z Z Z<|aj Z<|nl ?_
         exact Vc.ret (Vc.retsH (hl':=[(b15,rowS u64E (startC p k).vals [])]++sl2) rfl (.cons (.cellA rfl rfl) (.cons (.tmp rfl) .nil)) ⟨_,rfl,_,_,_,sl2,rfl,Own.blk' b15 k k _ [] (by simp [startC]) (by simp [u64E]) (by (show k≤9223372036854775807); omega),own2,rfl⟩ pulled)
end
end Go.Proofs.YtkpiakgmkpbikaaGreatDoor
