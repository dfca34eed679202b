/- Steps of the proof. -/
import Derived.Test.YtkpiakgmkpbikaaGreatDoorSlT
import Derived.Test.YtkpiakgmkpbikaaGreatDoorDkShelf
set_option linter.unusedVariables false
namespace Go.Proofs.YtkpiakgmkpbikaaGreatDoor
theorem sortS_spec {F:Fm} {v:Value} {xs:List (List UInt8)} {sg:Hl} (own:Own strE v xs sg) (hsz:xs.length<1073741824) :
 Spec Tryz.prog 58 #[v] F sg fun _ s=>Own strE v (Go.Proofs.YtkpiakgmkpbikaaGreatDoor.sortN xs) s:=by
 cases own with
 | nil=>exact fun w hw=>(AnyM.slices_Sort_string_none Tryz.sortN none 0 w).mono fun e w' ⟨he,hw'⟩=>⟨_,_,he,(show Own strE (.slice none 0 0) (Go.Proofs.YtkpiakgmkpbikaaGreatDoor.sortN []) [] from by rw [show Go.Proofs.YtkpiakgmkpbikaaGreatDoor.sortN []=[] by simp [Go.Proofs.YtkpiakgmkpbikaaGreatDoor.sortN]];exact .nil),by rw [hw'];exact hw⟩
 | blk b cap _ sp hc hm =>
  refine (sort_str Tryz.sortN strE rfl (fun _=>rfl) (fun _=>rfl) F b cap xs sp (by omega)).mono fun u s e=>?_
  subst e
  exact Own.blk' (E:=strE) b cap xs.length (Go.Proofs.YtkpiakgmkpbikaaGreatDoor.sortN xs) sp (by simp [Go.Proofs.YtkpiakgmkpbikaaGreatDoor.sortN]) hc hm
theorem sortedS_spec {F:Fm} {gf:Nat} [TyCall Tryz.prog gf] {lb:List Value} {Sp S:List (List UInt8)→Prop} {hi:Hl} (hit:∀F',(∀b o,F.at_ b o→F'.at_ b o)→Iter Tryz.prog gf lb F' (fun x=>[strE.val x]) Sp S hi) (hS:∀pre x,Sp (pre++[x])→pre.length<1073741824) (hSl:∀ys,S ys→ys.length<1073741824) :
 Spec Tryz.prog 34 #[.func (.func gf) #[] lb.toArray] F hi fun v s=>∃ys,S ys∧Own strE v (Go.Proofs.YtkpiakgmkpbikaaGreatDoor.sortN ys) s:=by
 refine Spec.of (n:=9) (vs:=[.func (.func gf) #[] lb.toArray]) Tryz.func34 rfl Tryz.ntmps34 rfl ?_
 refine sj [.p] Z<|aj Z<|nl<|sj [.p,.e,.p] Z<|mj Z<|Rg.callH Z Z Z (mz Z) (fun F' hF'=>collectS_spec (F:=F') (Sp:=Sp) (S:=S) (fun F'' h=>hit F'' fun b o hb=>h b o (hF' b o (.inr hb))) hS) Z ?_
 rintro v5 s5 ⟨ys,hSy,own⟩
 refine aj Z<|nl<|sj [.p,.e] Z<|mj Z<|Rg.callH Z Z Z (mz Z) (fun F' hF'=>sortS_spec (F:=F') own (hSl ys hSy)) Z ?_
 rintro v7 s7 own7
 refine nl<|sj [.p,.p] Z<|mj Z<|aj Z<|nl ?_
 exact vr rfl (tz Z) (⟨ys,hSy,own7⟩) pulled
theorem sortN_perm {a b:List (List UInt8)} (h:a.Perm b):Go.Proofs.YtkpiakgmkpbikaaGreatDoor.sortN a=Go.Proofs.YtkpiakgmkpbikaaGreatDoor.sortN b:=by
 have tr:∀x y z:List UInt8,decide (x≤y)=true→decide (y≤z)=true→decide (x≤z)=true:=fun x y z h1 h2=>by
  simp only [dt] at *; exact List.le_trans h1 h2
 have to:∀x y:List UInt8,(decide (x≤y)||decide (y≤x))=true:=fun x y=>by
  simp only [Bool.or_eq_true,dt];exact List.le_total x y
 have p1:=List.pairwise_mergeSort tr to a
 have p2:=List.pairwise_mergeSort tr to b
 have hp:(a.mergeSort fun x y=>decide (x≤y)).Perm (b.mergeSort fun x y=>decide (x≤y)):=(List.mergeSort_perm a _).trans (h.trans (List.mergeSort_perm b _).symm)
 exact hp.eq_of_pairwise (fun x y _ _ h1 h2=>List.le_antisymm (by simpa using h1) (by simpa using h2)) p1 p2
def FewB (fs:List (List UInt8×Fl)):Prop:=∀p∈fs,p.2.now.length≤1000000∧p.2.synced.length≤1000000
theorem FewB.find {fs:List (List UInt8×Fl)} (h:FewB fs) {k:List UInt8} {f:Fl} (hf:findF fs k=some f):f.now.length≤1000000∧f.synced.length≤1000000:=by
 unfold findF at hf
 cases hx:fs.find? fun p=>decide (p.1=k) with
 | none=>rw [hx] at hf;cases hf
 | some p =>
  rw [hx] at hf
  simp only [Option.map_some,Option.some.injEq] at hf
  rw [←hf]
  exact h p (List.mem_of_find?_eq_some hx)
theorem FewB.set {fs:List (List UInt8×Fl)} (h:FewB fs) {k:List UInt8} {f:Fl} (h1:f.now.length≤1000000) (h2:f.synced.length≤1000000):FewB (setF fs k f):=fun p hp=>by
 obtain ⟨q,hq,rfl⟩:=List.mem_map.1 hp
 split
 · exact ⟨h1,h2⟩
 · exact h q hq
theorem torn_few {f:Fl} {ks:List Bool} (h1:f.now.length≤1000000) (h2:f.synced.length≤1000000):(tornG f.now f.synced ks (secs f.now.length)).1.length≤1000000 :=
 tornG_len h2 h1 _ (by unfold secs;omega)
theorem perm_cr {α:Type} (x y a b:α) (s1 s2 rest L:List α):(x::y::((s1++s2)++(a::b::(rest++L)))).Perm (y::a::b::((x::(s1++(s2++rest)))++L)):=by
 refine (List.Perm.swap y x _).trans (List.Perm.cons y ?_)
 have e1:x::((s1++s2)++(a::b::(rest++L)))=((x::(s1++s2))++[a,b])++(rest++L):=by simp
 have e2:a::b::((x::(s1++(s2++rest)))++L)=([a,b]++(x::(s1++s2)))++(rest++L):=by simp
 rw [e1,e2]
 exact List.perm_append_comm.append_right _
set_option maxHeartbeats 2000000 in
theorem crash_spec {F:Fm} {db:Nat} {D:Dk} {kv0:Value} {h0:Hl} (hD:Disk0 db D kv0 h0) {kv:Value} {ks:List Bool} (hk:Arg boolE F kv ks) (hsz:D.files.length≤1000) (hfb:FewB D.files) :
 Spec Tryz.prog 20 #[.pointer (some ⟨db,0,none⟩),kv] F h0 fun _ s=>Disk0 db (crashD ks D) kv0 s:=by
 obtain ⟨mb,mc,ms,hf,hfl,hn,hbn,hold,hp⟩:=hD
 refine Spec.perm ?_ hp
 obtain ⟨pk,ck,rfl⟩:=hk.shape
 have hml:ms.length≤1000:=by have:=congrArg List.length hfl.keys;simp at this;omega
 refine Spec.of (n:=53) (vs:=[.pointer (some ⟨db,0,none⟩),.slice pk ks.length ck]) Tryz.func20 rfl Tryz.ntmps20 rfl ?_
 refine sj [.e] Z<|Rg.box Z Z Z Z Z (fun b3=>?_)
 refine nl<|wj<|sj [.p,.p,.p,.e] Z<|mj Z<|nj Z<|fj Z ?_
 refine Rg.callH Z Z Z (mz Z) (fun F' hF'=>bswap_spec (F:=F') (mb:=mb) (room:=D.room) (used:=D.used) (ops:=D.ops) (armed:=D.armed) (keep:=kv0) (down:=D.down) true) Z ?_
 rintro _ _ ⟨rfl,rfl⟩
 refine nl<|cj Z (fun h11=>?_) (fun h11=>?_)
 · exact vr rfl (.nil) ((show Disk0 db (crashD ks D) kv0 ((db,dkO mb D.room D.used D.ops D.armed kv0 true)::(mb,mapO kS ms mc)::hf) from by rw [crashD,if_pos h11];exact ⟨mb,mc,ms,hf,hfl,hn,hbn,hold,by rw [h11]⟩)) pulled
 · refine kj<|sj [.p,.p,.p,.p,.e,.p,.p,.e] Z<|mj Z<|mj Z<|nj Z<|fj Z ?_
   refine Rg.store Z Z Z Z Z Z Z Z<|nj Z<|fj Z ?_
   refine Rg.store Z Z Z Z Z Z Z Z<|nl<|sj [.p,.p] Z<|uj Z (Pv.mkF Z Z)<|aj Z<|nl<|sj [.p,.p,.p,.r,.e,.e,.p,.p] Z<|mj Z<|nj Z<|fj Z<|lj Z Z ?_
   refine Rg.callA Z Z Z (mz Z) keysF_spec ?_
   rintro _ _ ⟨bx,rfl,rfl⟩
   refine Rg.callH Z Z Z (mz Z) (fun F' hF'=>sortedS_spec (F:=F') (Sp:=fun pre=>pre.length≤ms.length) (S:=fun ys=>ys.Perm (ms.map (·.k))) (lb:=[.pointer (some ⟨bx,0,none⟩)]) (hi:=[(bx,cellsO [.map (some mb)] 93)]) (fun F'' h=>keys_iter (h _ _ (hF' mb _ (.inl (by simp)))) hold hbn) (fun pre x h=>by simp at h;omega) (fun ys h=>by have:=h.length_eq;simp at this;omega)) rfl ?_
   rintro v24 s24 ⟨ys,hys,own24⟩
   have hsn:Go.Proofs.YtkpiakgmkpbikaaGreatDoor.sortN ys=Go.Proofs.YtkpiakgmkpbikaaGreatDoor.sortN (D.files.map (·.1)):=sortN_perm (by rw [←hfl.keys];exact hys)
   rw [hsn] at own24
   have hmem:∀k∈Go.Proofs.YtkpiakgmkpbikaaGreatDoor.sortN (D.files.map (·.1)),k∈ms.map (·.k):=fun k hk=>by rw [hfl.keys];exact (List.mergeSort_perm _ _).mem_iff.1 hk
   have hNl:(Go.Proofs.YtkpiakgmkpbikaaGreatDoor.sortN (D.files.map (·.1))).length≤1000:=by simp [Go.Proofs.YtkpiakgmkpbikaaGreatDoor.sortN];omega
   have hcr:crashD ks D={ D with files:=(crFold D.files ks (Go.Proofs.YtkpiakgmkpbikaaGreatDoor.sortN (D.files.map (·.1)))).files,used:=(crFold D.files ks (Go.Proofs.YtkpiakgmkpbikaaGreatDoor.sortN (D.files.map (·.1)))).used,armed:=0,down:=true }:=by rw [crashD,if_neg (by simpa using h11)]
   generalize Go.Proofs.YtkpiakgmkpbikaaGreatDoor.sortN (D.files.map (·.1))=N at own24 hmem hNl hcr
   obtain ⟨q24,c24,rfl⟩:=own24.shape
   refine uj Z (Pv.lenS Z)<|mj Z<|nl<|bj ?_
   refine Vc.loop4 (fun (i:Nat) (kv2:Value) (hf2:Hl) (st:Cr)=>i≤N.length∧st=crFold D.files ks (N.take i)∧FilesAt ms st.files hf2∧(∀F':Fm,(∀b o,F.at_ b o→F'.at_ b o)→Arg boolE F' kv2 st.ks)∧FewB st.files∧0≤st.used∧st.used≤(i:Int)*100000) (fun i kv2 hf2 st=>[(0,.pointer (some ⟨db,0,none⟩)),(4,.func (.func 33) #[] #[.pointer (some ⟨b3,0,none⟩)]),(24,.slice q24 N.length c24),(25,.int .i64 (N.length:Int)),(26,.int .i64 (i:Int))]) (fun i kv2 hf2 st=>(b3,cellsO [kv2] 41)::(db,dkO mb D.room st.used D.ops 0 kv0 true)::(mb,mapO kS ms mc)::(hf2++s24)) (fun i kv2 hf2 st=>N.length-i) 0 (.slice pk ks.length ck) hf ⟨D.files,0,ks⟩ ⟨Nat.zero_le _,rfl,hfl,fun F' h=>hk.mono h,hfb,Int.le_refl _,by simp⟩ (.cons rfl (.cons rfl (.cons rfl (.cons rfl (.cons rfl .nil))))) pulled ?_
   rintro i kv2 hf2 st ⟨hi,hst,hfl2,hkv2,hfb2,hu0,hu1⟩
   refine sj [.p] Z<|uj Z (Pv.lss Z Z)<|nl<|wj<|cj Z (fun h27=>?_) (fun h27=>?_)
   · simp only [dt] at h27
     have hi1:i<N.length:=by omega
     obtain ⟨bN,cN,spN,e,rfl,_,_⟩:=own24.block (by omega)
     cases e
     obtain ⟨k,hkk⟩:∃k,N[i]! = k:=⟨_,rfl⟩
     have hkm:=hmem N[i]! (by rw [getElem!_pos N i hi1];exact List.getElem_mem _)
     have htk:N.take (i+1)=N.take i++[N[i]!]:=by rw [List.take_succ_eq_append_getElem hi1,getElem!_pos N i hi1]
     rw [hkk] at hkm htk
     obtain ⟨m,hmm,hmk⟩:=List.mem_map.1 hkm
     have hfind:=findM_some hn hmm hmk
     obtain ⟨fb,f,vn,vs,t1,t2,rest,hmv,hff,hperm,o1,o2,hset⟩:=hfl2.get hn hmm
     rw [hmk] at hff hset
     obtain ⟨hl1,hl2⟩:=hfb2.find hff
     have hstep:=crFold_snoc D.files ks (N.take i) k
     rw [←htk,←hst] at hstep
     have htf:=torn_few (ks:=st.ks) hl1 hl2
     have hse:crStep st k=⟨setF st.files k ⟨(tornG f.now f.synced st.ks (secs f.now.length)).1,(tornG f.now f.synced st.ks (secs f.now.length)).1⟩,st.used+(secs (tornG f.now f.synced st.ks (secs f.now.length)).1.length:Nat),(tornG f.now f.synced st.ks (secs f.now.length)).2⟩:=by simp only [crStep,hff,Option.getD_some]
     refine Vc.perm (((((hperm.append_right _).cons _).cons _).cons _)) ?_
     simp only [List.cons_append,lx]
     refine kj<|wj<|bj<|sj [.p,.r,.p] Z<|uj Z (Pv.ixA (i) rfl rfl (by omega) (by omega))<|rj Z (Ev.as (kS k) (Ev.ldR (E:=strE) i rfl (Nat.zero_add _) (by omega)) (congrArg strE.val hkk))<|aj Z<|nl<|sj [.p,.p,.p,.r,.p,.r,.p] Z<|mj Z<|nj Z<|fj Z<|lj Z Z<|mj Z<|rj Z (Ev.as (.pointer (some ⟨fb,0,none⟩)) (Ev.lookup rfl rfl hn) (by rw [hfind,Option.map_some,Option.getD_some,hmv])) ?_
     refine aj Z<|nl<|sj [.p,.p,.e] Z<|mj Z<|mj Z<|Rg.callH Z Z Z (mz Z) (fun F' hF'=>torn_spec (F:=F') o1 o2 (fun F''=>∀b o,F.at_ b o→F''.at_ b o) (fun F'' h b o hb=>h b o (hF' b o (.inr hb))) hkv2 (by omega) (by omega)) rfl ?_
     rintro v38 _ ⟨vn',vs',kv',t1',t2',o1',o2',hkv',rfl⟩
     obtain ⟨hl',hp',hfl'⟩:=hset ⟨_,_⟩ vn' vs' t1' t2' o1' o2'
     obtain ⟨pn',cn',rfl⟩:=o1'.shape
     refine nl ?_
     refine Vc.draw [13] (sd [(0,.pure),(1,.pure),(2,.pure),(3,.read),(4,.pure),(5,.pure),(6,.pure),(7,.read),(8,.pure),(9,.eff),(10,.pure),(11,.pure),(12,.pure),(13,.eff)]) mixed (by kernel_rfl)<|mj Z<|nj Z<|fj Z<|lj Z Z<|mj Z<|nj Z<|fj Z<|lj Z Z<|uj Z (Pv.lenS Z) ?_
     refine Rg.callP Z Z Z (mz Z) (sectors_spec _ _ (by omega)) ?_
     rintro _ rfl
     refine uj Z (Pv.add rfl rfl (by have:secs (tornG f.now f.synced st.ks (secs f.now.length)).1.length≤100000:=(by unfold secs at htf ⊢; omega);omega))<|nj Z<|fj Z ?_
     refine Rg.store Z Z Z Z Z Z Z Z<|nl<|dj<|tj [.p,.p] Z<|uj Z (Pv.asI (i+1) (Pv.add rfl rfl (by omega)) (by omega))<|mj Z<|nl ?_
     exact Vc.inv4 (i+1) kv' hl' (crStep st k) ⟨⟨by omega,hstep.symm,by rw [hse];exact hfl',by rw [hse];exact hkv',by rw [hse];exact hfb2.set htf htf,by rw [hse];show 0≤st.used+_;omega,by rw [hse];show st.used+_≤_;have:secs (tornG f.now f.synced st.ks (secs f.now.length)).1.length≤100000:=(by unfold secs at htf ⊢; omega);omega⟩,by omega⟩ (.cons rfl (.cons rfl (.cons rfl (.cons rfl (.cons rfl .nil))))) ((perm_cr _ _ _ _ _ _ _ _).trans (by rw [hse,List.append_nil];exact ((((hp'.symm.append_right _).cons _).cons _).cons _)))
   · simp only [df] at h27
     rw [List.take_of_length_le (by omega)] at hst
     refine Vc.exit Z ?_
     exact Vc.fin (Vc.retsH rfl .nil ((show Disk0 db (crashD ks D) kv0 ((db,dkO mb D.room st.used D.ops 0 kv0 true)::(mb,mapO kS ms mc)::hf2) from by rw [hcr,←hst];exact ⟨mb,mc,ms,hf2,hfl2,hn,hbn,hold,.refl _⟩)) pulled)
theorem down0_spec {F:Fm} {db:Nat} {D:Dk} {kv:Value} {s:Hl} (hD:Disk0 db D kv s) (hF:∀b o,(b,o)∈s→F.at_ b o):Spec Tryz.prog 101 #[.pointer (some ⟨db,0,none⟩)] F [] fun v _=>v=.bool D.down:=by
 obtain ⟨mb,mc,ms,hf,hfl,hn,hbn,hold,hp⟩:=hD
 have:Fat F db (dkO mb D.room D.used D.ops D.armed kv D.down):=⟨hF _ _ (hp.mem_iff.2 List.mem_cons_self)⟩
 exact down_spec (mb:=mb) (room:=D.room) (used:=D.used) (ops:=D.ops) (armed:=D.armed) (keep:=kv)
theorem begins_spec {F:Fm} {db:Nat} {D:Dk} {s:Hl} (hD:DiskAt db D s) (hsz:D.files.length≤1000) (hfb:FewB D.files) (ha:D.armed≤9223372036854775807) :
 Spec Tryz.prog 79 #[.pointer (some ⟨db,0,none⟩)] F s fun v s'=>v=.int .i64 (beginsD D).1∧DiskAt db (beginsD D).2 s':=by
 obtain ⟨kv,sk,h0,⟨mb,mc,ms,hf,hfl,hn,hbn,hold,hp0⟩,own,hp⟩:=hD.parts
 refine Spec.perm ?_ (hp.trans (hp0.append_right sk))
 refine Spec.of (n:=32) (vs:=[.pointer (some ⟨db,0,none⟩)]) Tryz.func79 rfl Tryz.ntmps79 rfl ?_
 refine sj [.p] Z<|aj Z<|nl<|sj [.p,.p,.p,.e] Z<|mj Z<|nj Z<|fj Z ?_
 refine Rg.callH Z Z Z (mz Z) (fun F' hF'=>iadd_spec (F:=F') (mb:=mb) (room:=D.room) (used:=D.used) (ops:=D.ops) (armed:=D.armed) (keep:=kv) (down:=D.down) 1) Z ?_
 rintro v6 _ rfl
 refine nl<|wj<|sj [.p,.p,.p,.r,.p] Z<|mj Z<|nj Z<|fj Z<|lj Z Z<|uj Z (Pv.gtr Z Z)<|nl<|Vc.cut2 (fun (D2:Dk) (h:Hl)=>D2=(beginsD D).2∧Disk0 db D2 kv h∧D2.keep=D.keep) (fun D2 h=>[(0,.pointer (some ⟨db,0,none⟩))]) (fun D2 h=>h++sk) ?_ ?_
 · refine cj Z (fun h11=>?_) (fun h11=>?_)
   · simp only [dt] at h11
     refine sj [.p,.p,.p,.r,.p,.p,.p,.e] Z<|mj Z<|nj Z<|fj Z<|lj Z Z<|uj Z (Pv.sub rfl rfl (by omega))<|nj Z<|fj Z ?_
     refine Rg.store Z Z Z Z Z Z Z Z<|nl<|sj [.p,.p,.p,.r,.p] Z<|mj Z<|nj Z<|fj Z<|lj Z Z<|uj Z (Pv.eql Z Z)<|nl<|cj Z (fun h23=>?_) (fun h23=>?_)
     · simp only [beq_iff_eq] at h23
       refine tj [.p,.p,.p,.p,.r,.e] Z<|mj Z<|mj Z<|nj Z<|fj Z<|lj Z Z ?_
       refine Rg.callH Z Z Z (mz Z) (fun F' hF'=>crash_spec (F:=F') (D:={ D with ops:=IntKind.i64.wrap (D.ops+1),armed:=D.armed-1 }) (kv0:=kv) (h0:=(db,dkO mb D.room D.used (IntKind.i64.wrap (D.ops+1)) (D.armed-1) kv D.down)::(mb,mapO kS ms mc)::hf) ⟨mb,mc,ms,hf,hfl,hn,hbn,hold,.refl _⟩ (Arg.own own fun b o hb=>hF' b o (.inl (by simp [hb]))) hsz hfb) rfl ?_
       rintro v29 s29 hD29
       refine nl ?_
       exact Vc.inv2 (crashD D.keep { D with ops:=IntKind.i64.wrap (D.ops+1),armed:=D.armed-1 }) s29 ⟨by simp only [beginsD];rw [if_pos h11,if_pos h23,h23],hD29,by unfold crashD;split<;>rfl⟩ (.cons rfl .nil) pulled
     · simp only [beq_eq_false_iff_ne,ne_eq] at h23
       refine kj ?_
       exact Vc.inv2 { D with ops:=IntKind.i64.wrap (D.ops+1),armed:=D.armed-1 } ((db,dkO mb D.room D.used (IntKind.i64.wrap (D.ops+1)) (D.armed-1) kv D.down)::(mb,mapO kS ms mc)::hf) ⟨by simp only [beginsD];rw [if_pos h11,if_neg h23],⟨mb,mc,ms,hf,hfl,hn,hbn,hold,.refl _⟩,rfl⟩ (.cons rfl .nil) pulled
   · simp only [df] at h11
     refine kj ?_
     exact Vc.inv2 { D with ops:=IntKind.i64.wrap (D.ops+1) } ((db,dkO mb D.room D.used (IntKind.i64.wrap (D.ops+1)) D.armed kv D.down)::(mb,mapO kS ms mc)::hf) ⟨by simp only [beginsD];rw [if_neg h11],⟨mb,mc,ms,hf,hfl,hn,hbn,hold,.refl _⟩,rfl⟩ (.cons rfl .nil) pulled
 · rintro D2 h ⟨rfl,hD2,hke⟩
   have hfst:(beginsD D).1=if (beginsD D).2.down=true then 7 else 0:=rfl
   refine wj<|sj [.p,.e] Z<|mj Z<|Rg.callP Z Z Z (mz Z) (down0_spec hD2 frz_sb) ?_
   rintro _ rfl
   refine nl<|cj Z (fun h31=>?_) (fun h31=>?_)
   · refine sj [.p] Z<|aj Z<|nl ?_
     exact vr rfl (tz Z) (⟨congrArg (Value.int .i64) (by rw [hfst,if_pos h31]),(show DiskAt db (beginsD D).2 (h++sk) from DiskAt.mk hD2 (hke▸own) (.refl _))⟩) pulled
   · refine kj<|sj [.p] Z<|aj Z<|nl ?_
     exact vr rfl (tz Z) (⟨congrArg (Value.int .i64) (by rw [hfst,if_neg (by simpa using h31)]),(show DiskAt db (beginsD D).2 (h++sk) from DiskAt.mk hD2 (hke▸own) (.refl _))⟩) pulled
def FileOf (db:Nat) (D:Dk) (k:List UInt8) (fb:Nat) (hl:Hl):Prop:=∃mb mc ms hf kv sk m,FilesAt ms D.files hf∧(ms.map (·.k)).Nodup∧(ms.map (·.born)).Nodup∧(∀m∈ms,m.born<mc)∧Own boolE kv D.keep sk ∧
 m∈ms∧m.k=k∧m.v=.pointer (some ⟨fb,0,none⟩)∧hl.Perm ((db,dkO mb D.room D.used D.ops D.armed kv D.down)::(mb,mapO kS ms mc)::(hf++sk))
theorem FileOf.at {db:Nat} {D:Dk} {k:List UInt8} {fb:Nat} {hl:Hl} (h:FileOf db D k fb hl):DiskAt db D hl:=by
 obtain ⟨mb,mc,ms,hf,kv,sk,m,h1,h2,h3,h4,own,_,_,_,hp⟩:=h
 exact ⟨mb,mc,ms,hf,kv,sk,h1,h2,h3,h4,own,hp⟩
theorem FilesAt.none {ms:List (Me (List UInt8))} {fs:List (List UInt8×Fl)} {hl:Hl} (h:FilesAt ms fs hl) {k:List UInt8} (hn:findM ms k=none):findF fs k=none:=by
 have h1:=findM_none.1 hn
 unfold findF
 rw [List.find?_eq_none.2]
 · rfl
 · intro p hp
   simp only [dt]
   intro e
   have:k∈ms.map (·.k):=by rw [h.keys];exact List.mem_map.2 ⟨p,hp,e⟩
   obtain ⟨m,hm,hk⟩:=List.mem_map.1 this
   exact h1 m hm hk
theorem on_spec {F:Fm} {db:Nat} {D:Dk} {s:Hl} (hD:DiskAt db D s) (hsz:D.files.length≤1000) (hfb:FewB D.files) (ha:D.armed≤9223372036854775807) (k:List UInt8) :
 Spec Tryz.prog 83 #[.pointer (some ⟨db,0,none⟩),kS k] F s fun v s'=>∃p e,v=.tuple #[.pointer p,.int .i64 e] ∧
  (((beginsD D).1=7∧e=7∧DiskAt db (beginsD D).2 s')∨((beginsD D).1=0∧e=4∧findF (beginsD D).2.files k=none∧DiskAt db (beginsD D).2 s') ∨
   ((beginsD D).1=0∧e=0∧∃fb,p=some ⟨fb,0,none⟩∧FileOf db (beginsD D).2 k fb s')):=by
 refine Spec.of (n:=22) (vs:=[.pointer (some ⟨db,0,none⟩),kS k]) Tryz.func83 rfl Tryz.ntmps83 rfl ?_
 refine sj [.p,.p] Z<|aj Z<|aj Z<|nl<|wj<|sj [.p,.e,.p] Z<|mj Z<|Rg.callH Z Z Z (mz Z) (fun F' hF'=>begins_spec (F:=F') hD hsz hfb ha) Z ?_
 rintro _ s9 ⟨rfl,hD9⟩
 have hb70:(beginsD D).1=7∨(beginsD D).1=0:=by show (if _ then 7 else 0:Int)=7∨(if _ then 7 else 0:Int)=0;split<;>simp
 refine aj Z<|nl<|sj [.p,.p] Z<|mj Z<|uj Z (Pv.neq Z Z)<|nl<|cj Z (fun h11=>?_) (fun h11=>?_)
 · simp only [bne_iff_ne,ne_eq] at h11
   have hb7:=hb70.resolve_right h11
   refine sj [.p,.p,.p] Z<|mj Z<|aj Z<|aj Z<|nl ?_
   exact vr rfl (.cons (.tmp rfl) (tz Z)) (⟨none,(beginsD D).1,rfl,.inl ⟨hb7,hb7,hD9⟩⟩) pulled
 · simp only [bne_eq_false_iff_eq] at h11
   obtain ⟨mb,mc,ms,hf,kv,sk,hfl,hn,hbn,hold,own,hp⟩:=hD9
   obtain ⟨p,hpv,hp1,hp2⟩:∃p:Option Addr,((findM ms k).map (·.v)).getD (.pointer none)=.pointer p∧(p=none→findM ms k=none)∧(p.isSome=true→∃fb m,p=some ⟨fb,0,none⟩∧m∈ms∧m.k=k∧m.v=.pointer (some ⟨fb,0,none⟩)):=by
    cases hm:findM ms k with
    | none=>exact ⟨none,rfl,fun _=>rfl,fun h=>by cases h⟩
    | some m =>
     have hmm:m∈ms:=List.mem_of_find?_eq_some hm
     have hmk:m.k=k:=by simpa using List.find?_some hm
     obtain ⟨fb,f,vn,vs,t1,t2,rest,hmv,_⟩:=hfl.get hn hmm
     exact ⟨some ⟨fb,0,none⟩,by simpa using hmv,fun h=>(by cases h),fun _=>⟨fb,m,rfl,hmm,hmk,hmv⟩⟩
   refine Vc.perm ((List.Perm.of_eq (List.append_nil s9)).trans hp)<|kj<|wj<|sj [.p,.p,.p,.r,.p,.r,.p] Z<|mj Z<|nj Z<|fj Z<|lj Z Z<|mj Z<|rj Z (Ev.as (.pointer p) (Ev.lookup Z Z hn) hpv)<|aj Z<|nl<|sj [.p,.p] Z<|mj Z<|uj Z (Pv.neqNil Z Z) ?_
   refine nl<|cj Z (fun h20=>?_) (fun h20=>?_)
   · obtain ⟨fb,m,rfl,hmm,hmk,hmv⟩:=hp2 h20
     refine sj [.p,.p,.p] Z<|mj Z<|aj Z<|aj Z<|nl ?_
     exact Vc.ret (Vc.retsH rfl (.cons (.tmp rfl) (tz Z)) ((show ∃p e,Value.tuple #[.pointer (some ⟨fb,0,none⟩),.int .i64 0]=.tuple #[.pointer p,.int .i64 e]∧(((beginsD D).1=7∧e=7∧DiskAt db (beginsD D).2 ((db,dkO mb (beginsD D).2.room (beginsD D).2.used (beginsD D).2.ops (beginsD D).2.armed kv (beginsD D).2.down)::(mb,mapO kS ms mc)::(hf++sk)))∨((beginsD D).1=0∧e=4∧findF (beginsD D).2.files k=none∧DiskAt db (beginsD D).2 ((db,dkO mb (beginsD D).2.room (beginsD D).2.used (beginsD D).2.ops (beginsD D).2.armed kv (beginsD D).2.down)::(mb,mapO kS ms mc)::(hf++sk)))∨((beginsD D).1=0∧e=0∧∃fb,p=some ⟨fb,0,none⟩∧FileOf db (beginsD D).2 k fb ((db,dkO mb (beginsD D).2.room (beginsD D).2.used (beginsD D).2.ops (beginsD D).2.armed kv (beginsD D).2.down)::(mb,mapO kS ms mc)::(hf++sk)))) from
      ⟨_,_,rfl,.inr (.inr ⟨h11,rfl,fb,rfl,mb,mc,ms,hf,kv,sk,m,hfl,hn,hbn,hold,own,hmm,hmk,hmv,.refl _⟩)⟩)) pulled)
   · have hpn:p=none:=by cases p with | none=>rfl | some a=>cases h20
     subst hpn
     refine kj<|sj [.p,.p] Z<|aj Z<|aj Z<|nl ?_
     exact Vc.ret (Vc.retsH rfl (.cons (.tmp rfl) (tz Z)) ((show ∃p e,Value.tuple #[.pointer none,.int .i64 4]=.tuple #[.pointer p,.int .i64 e]∧(((beginsD D).1=7∧e=7∧DiskAt db (beginsD D).2 ((db,dkO mb (beginsD D).2.room (beginsD D).2.used (beginsD D).2.ops (beginsD D).2.armed kv (beginsD D).2.down)::(mb,mapO kS ms mc)::(hf++sk)))∨((beginsD D).1=0∧e=4∧findF (beginsD D).2.files k=none∧DiskAt db (beginsD D).2 ((db,dkO mb (beginsD D).2.room (beginsD D).2.used (beginsD D).2.ops (beginsD D).2.armed kv (beginsD D).2.down)::(mb,mapO kS ms mc)::(hf++sk)))∨((beginsD D).1=0∧e=0∧∃fb,p=some ⟨fb,0,none⟩∧FileOf db (beginsD D).2 k fb ((db,dkO mb (beginsD D).2.room (beginsD D).2.used (beginsD D).2.ops (beginsD D).2.armed kv (beginsD D).2.down)::(mb,mapO kS ms mc)::(hf++sk)))) from
      ⟨_,_,rfl,.inr (.inl ⟨h11,rfl,hfl.none (hp1 rfl),mb,mc,ms,hf,kv,sk,hfl,hn,hbn,hold,own,.refl _⟩)⟩)) pulled)
theorem perm_open {α:Type} (a b x:α) (A sk hf s1 s2 rest:List α) (h:hf.Perm (x::(s1++(s2++rest)))) (hA:A=a::b::(hf++sk)):A.Perm (x::(s1++(s2++(a::b::(rest++sk))))):=by
 subst hA
 refine (((h.append_right sk).cons b).cons a).trans ?_
 have e1:a::b::((x::(s1++(s2++rest)))++sk)=([a,b]++(x::(s1++s2)))++(rest++sk):=by simp
 have e2:x::(s1++(s2++(a::b::(rest++sk))))=((x::(s1++s2))++[a,b])++(rest++sk):=by simp
 rw [e1,e2]
 exact List.perm_append_comm.append_right _
theorem FileOf.open_ {db:Nat} {D:Dk} {k:List UInt8} {fb:Nat} {hl:Hl} (h:FileOf db D k fb hl) :
 ∃mb mo kv f vn vs s1 s2 rest,findF D.files k=some f∧Own byteE vn f.now s1∧Own byteE vs f.synced s2 ∧
  hl.Perm ((fb,cellsO [vn,vs] 109)::(s1++(s2++((db,dkO mb D.room D.used D.ops D.armed kv D.down)::(mb,mo)::rest)))) ∧
  ∀(f':Fl) (used':Int) vn' vs' s1' s2' hl',Own byteE vn' f'.now s1'→Own byteE vs' f'.synced s2'→hl'.Perm ((fb,cellsO [vn',vs'] 109)::(s1'++(s2'++((db,dkO mb D.room used' D.ops D.armed kv D.down)::(mb,mo)::rest)))) →
   DiskAt db { D with files:=setF D.files k f',used:=used' } hl':=by
 obtain ⟨mb,mc,ms,hf,kv,sk,m,hfl,hn,hbn,hold,own,hmm,hmk,hmv,hp⟩:=h
 obtain ⟨fb2,f,vn,vs,s1,s2,rest,hmv2,hff,hperm,o1,o2,hset⟩:=hfl.get hn hmm
 rw [hmv] at hmv2
 cases hmv2
 rw [hmk] at hff hset
 refine ⟨mb,mapO kS ms mc,kv,f,vn,vs,s1,s2,rest++sk,hff,o1,o2,hp.trans (perm_open _ _ _ _ _ _ _ _ _ hperm rfl),fun f' used' vn' vs' s1' s2' hl' p1 p2 hp'=>?_⟩
 obtain ⟨hf',hperm',hfl'⟩:=hset f' vn' vs' s1' s2' p1 p2
 exact ⟨mb,mc,ms,hf',kv,sk,hfl',hn,hbn,hold,own,hp'.trans (perm_open _ _ _ _ _ _ _ _ _ hperm' rfl).symm⟩
def sizeD (D:Dk) (k:List UInt8):Int×Int:=if (beginsD D).1=7 then (0,7) else match findF (beginsD D).2.files k with
 | none=>(0,4)
 | some f=>(((f.now.length:Nat):Int),0)
theorem size_spec {F:Fm} {db:Nat} {D:Dk} {s:Hl} (hD:DiskAt db D s) (hsz:D.files.length≤1000) (hfb:FewB D.files) (ha:D.armed≤9223372036854775807) (k:List UInt8) :
 Spec Tryz.prog 85 #[.pointer (some ⟨db,0,none⟩),kS k] F s fun v s'=>v=.tuple #[.int .i64 (sizeD D k).1,.int .i64 (sizeD D k).2]∧DiskAt db (beginsD D).2 s':=by
 refine Spec.of (n:=22) (vs:=[.pointer (some ⟨db,0,none⟩),kS k]) Tryz.func85 rfl Tryz.ntmps85 rfl ?_
 refine sj [.p,.p] Z<|aj Z<|aj Z<|nl<|sj [.p,.p,.e,.p,.p,.p,.p,.p] Z<|mj Z<|mj Z<|Rg.callH Z Z Z (mz Z) (fun F' hF'=>on_spec (F:=F') hD hsz hfb ha k) Z ?_
 rintro _ s11 ⟨p,e,rfl,hcase⟩
 refine mj Z<|xj Z Z<|xj Z Z<|aj Z<|aj Z<|nl<|wj<|sj [.p,.p] Z<|mj Z<|uj Z (Pv.neq Z Z)<|nl<|cj Z (fun h15=>?_) (fun h15=>?_)
 · simp only [bne_iff_ne,ne_eq] at h15
   have hres:sizeD D k=(0,e)∧DiskAt db (beginsD D).2 s11:=by
    rcases hcase with ⟨h1,rfl,h2⟩ | ⟨h1,rfl,h2,h3⟩ | ⟨_,h2,_⟩
    · exact ⟨by rw [sizeD,if_pos h1],h2⟩
    · exact ⟨by rw [sizeD,if_neg (by omega),h2],h3⟩
    · exact absurd h2 h15
   refine sj [.p,.p,.p] Z<|mj Z<|aj Z<|aj Z<|nl ?_
   exact vr rfl (.cons (.tmp rfl) (tz Z)) (⟨by rw [hres.1];rfl,hres.2⟩) pulled
 · simp only [bne_eq_false_iff_eq] at h15
   subst h15
   obtain ⟨hb0,_,fb,rfl,hfo⟩:=(hcase.resolve_left (fun h=>by cases h.2.1)).resolve_left (fun h=>by cases h.2.1)
   have hat:=hfo.at
   obtain ⟨mb,mo,kv,f,vn,vs,s1,s2,rest,hff,o1,o2,hp,_⟩:=hfo.open_
   obtain ⟨pn,cn,rfl⟩:=o1.shape
   have hsd:sizeD D k=(((f.now.length:Nat):Int),0):=by rw [sizeD,if_neg (by omega),hff]
   have hat2:=fun hl (h:hl.Perm s11)=>(show DiskAt db (beginsD D).2 hl from by obtain ⟨a,b,c,d,e,g,h1,h2,h3,h4,h5,h6⟩:=hat;exact ⟨a,b,c,d,e,g,h1,h2,h3,h4,h5,h.trans h6⟩)
   refine Vc.perm ((List.Perm.of_eq (List.append_nil s11)).trans hp)<|kj<|sj [.p,.p,.p,.r,.p,.p,.p] Z<|mj Z<|nj Z<|fj Z<|lj Z Z<|uj Z (Pv.lenS Z)<|aj Z<|aj Z<|nl ?_
   exact vr rfl (.cons (.tmp rfl) (tz Z)) (⟨by rw [hsd];rfl,hat2 _ hp.symm⟩) pulled
theorem perm_ap {α:Type} (a x b:α) (s1 s2 rest:List α):((a::x::s1)++(s2++(b::rest))).Perm (x::(s1++(s2++(a::b::rest)))):=by
 have e1:((a::x::s1)++(s2++(b::rest)))=([a]++(x::(s1++s2)))++(b::rest):=by simp
 have e2:x::(s1++(s2++(a::b::rest)))=((x::(s1++s2))++[a])++(b::rest):=by simp
 rw [e1,e2]
 exact List.perm_append_comm.append_right _
def writeD (D:Dk) (k:List UInt8) (at_:Option Int) (bs:List UInt8):Int×Dk:=if (beginsD D).1=7 then (7,(beginsD D).2) else match findF (beginsD D).2.files k with
 | none=>(4,(beginsD D).2)
 | some f=>((wrG (beginsD D).2.room (beginsD D).2.used f.now (at_.getD f.now.length) bs).1,{ (beginsD D).2 with files:=setF (beginsD D).2.files k ⟨(wrG (beginsD D).2.room (beginsD D).2.used f.now (at_.getD f.now.length) bs).2.2,f.synced⟩,used:=(wrG (beginsD D).2.room (beginsD D).2.used f.now (at_.getD f.now.length) bs).2.1 })
theorem append_spec {F:Fm} {db:Nat} {D:Dk} {s:Hl} (hD:DiskAt db D s) (hsz:D.files.length≤1000) (hfb:FewB D.files) (ha:D.armed≤9223372036854775807) (hfb2:FewB (beginsD D).2.files) (hu:0≤(beginsD D).2.used∧(beginsD D).2.used≤1099511627776)
 (k:List UInt8) {vb:Value} {bs:List UInt8} (hb:Arg byteE F vb bs) (hbl:bs.length≤1000000) :
 Spec Tryz.prog 228 #[.pointer (some ⟨db,0,none⟩),kS k,vb] F s fun v s'=>v=.int .i64 (writeD D k none bs).1∧DiskAt db (writeD D k none bs).2 s':=by
 obtain ⟨pb,cb,rfl⟩:=hb.shape
 refine Spec.of (n:=27) (vs:=[.pointer (some ⟨db,0,none⟩),kS k,.slice pb bs.length cb]) Tryz.func228 rfl Tryz.ntmps228 rfl ?_
 refine sj [.p] Z<|aj Z<|nl<|sj [.p,.p,.e,.p,.p,.p,.p,.p] Z<|mj Z<|mj Z<|Rg.callH Z Z Z (mz Z) (fun F' hF'=>on_spec (F:=F') hD hsz hfb ha k) Z ?_
 rintro _ s12 ⟨p,e,rfl,hcase⟩
 refine mj Z<|xj Z Z<|xj Z Z<|aj Z<|aj Z<|nl<|wj<|sj [.p,.p] Z<|mj Z<|uj Z (Pv.neq Z Z)<|nl<|cj Z (fun h16=>?_) (fun h16=>?_)
 · simp only [bne_iff_ne,ne_eq] at h16
   have hres:writeD D k none bs=(e,(beginsD D).2)∧DiskAt db (beginsD D).2 s12:=by
    rcases hcase with ⟨h1,rfl,h2⟩ | ⟨h1,rfl,h2,h3⟩ | ⟨_,h2,_⟩
    · exact ⟨by rw [writeD,if_pos h1],h2⟩
    · exact ⟨by rw [writeD,if_neg (by omega),h2],h3⟩
    · exact absurd h2 h16
   refine sj [.p,.p] Z<|mj Z<|aj Z<|nl ?_
   exact vr rfl (tz Z) (⟨by rw [hres.1];rfl,by rw [hres.1];exact hres.2⟩) pulled
 · simp only [bne_eq_false_iff_eq] at h16
   subst h16
   obtain ⟨hb0,_,fb,rfl,hfo⟩:=(hcase.resolve_left (fun h=>by cases h.2.1)).resolve_left (fun h=>by cases h.2.1)
   obtain ⟨mb,mo,kv,f,vn,vs,s1,s2,rest,hff,o1,o2,hp,hback⟩:=hfo.open_
   obtain ⟨pn,cn,rfl⟩:=o1.shape
   obtain ⟨hl1,hl2⟩:=hfb2.find hff
   have hwd:writeD D k none bs=((wrG (beginsD D).2.room (beginsD D).2.used f.now (f.now.length:Nat) bs).1,{ (beginsD D).2 with files:=setF (beginsD D).2.files k ⟨(wrG (beginsD D).2.room (beginsD D).2.used f.now (f.now.length:Nat) bs).2.2,f.synced⟩,used:=(wrG (beginsD D).2.room (beginsD D).2.used f.now (f.now.length:Nat) bs).2.1 }):=by rw [writeD,if_neg (by omega),hff];rfl
   refine Vc.perm ((List.Perm.of_eq (List.append_nil s12)).trans hp)<|kj<|sj [.p,.p,.p,.p,.p,.r,.p,.p,.e,.p] Z<|mj Z<|mj Z<|mj Z<|nj Z<|fj Z<|lj Z Z<|uj Z (Pv.lenS Z)<|mj Z ?_
   refine Rg.callH Z Z Z (mz Z) (fun F' hF'=>writes_spec (F:=F') (db:=db) (mb:=mb) (fb:=fb) (room:=(beginsD D).2.room) (used:=(beginsD D).2.used) (ops:=(beginsD D).2.ops) (armed:=(beginsD D).2.armed) (keep:=kv) (vs:=vs) (down:=(beginsD D).2.down) o1 (hb.mono fun b o h=>hF' b o (.inr h)) (f.now.length:Nat) (by omega) (by omega) hu) rfl ?_
   rintro _ _ ⟨rfl,vn',s1',o1',rfl⟩
   refine aj Z<|nl ?_
   exact vr rfl (tz Z) (⟨by rw [hwd];rfl,(show DiskAt db (writeD D k none bs).2 (((db,dkO mb (beginsD D).2.room (wrG (beginsD D).2.room (beginsD D).2.used f.now (f.now.length:Nat) bs).2.1 (beginsD D).2.ops (beginsD D).2.armed kv (beginsD D).2.down)::(fb,cellsO [vn',vs] 109)::s1')++(s2++((mb,mo)::rest))) from by rw [hwd];exact hback ⟨_,_⟩ _ vn' vs s1' s2 _ o1' o2 (perm_ap _ _ _ _ _ _))⟩) pulled
def syncD (D:Dk) (k:List UInt8):Int×Dk:=if (beginsD D).1=7 then (7,(beginsD D).2) else match findF (beginsD D).2.files k with
 | none=>(4,(beginsD D).2)
 | some f=>(0,{ (beginsD D).2 with files:=setF (beginsD D).2.files k ⟨f.now,f.now⟩ })
theorem sync_spec {F:Fm} {db:Nat} {D:Dk} {s:Hl} (hD:DiskAt db D s) (hsz:D.files.length≤1000) (hfb:FewB D.files) (ha:D.armed≤9223372036854775807) (hfb2:FewB (beginsD D).2.files)
 (k:List UInt8) :
 Spec Tryz.prog 230 #[.pointer (some ⟨db,0,none⟩),kS k] F s fun v s'=>v=.int .i64 (syncD D k).1∧DiskAt db (syncD D k).2 s':=by
 refine Spec.of (n:=24) (vs:=[.pointer (some ⟨db,0,none⟩),kS k]) Tryz.func230 rfl Tryz.ntmps230 rfl ?_
 refine sj [.p] Z<|aj Z<|nl<|sj [.p,.p,.e,.p,.p,.p,.p,.p] Z<|mj Z<|mj Z<|Rg.callH Z Z Z (mz Z) (fun F' hF'=>on_spec (F:=F') hD hsz hfb ha k) Z ?_
 rintro _ s10 ⟨p,e,rfl,hcase⟩
 refine mj Z<|xj Z Z<|xj Z Z<|aj Z<|aj Z<|nl<|wj<|sj [.p,.p] Z<|mj Z<|uj Z (Pv.eql Z Z)<|nl<|cj Z (fun h14=>?_) (fun h14=>?_)
 · simp only [beq_iff_eq] at h14
   subst h14
   obtain ⟨hb0,_,fb,rfl,hfo⟩:=(hcase.resolve_left (fun h=>by cases h.2.1)).resolve_left (fun h=>by cases h.2.1)
   obtain ⟨mb,mo,kv,f,vn,vs,s1,s2,rest,hff,o1,o2,hp,hback⟩:=hfo.open_
   obtain ⟨pn,cn,rfl⟩:=o1.shape
   obtain ⟨hl1,hl2⟩:=hfb2.find hff
   have hwd:syncD D k=(0,{ (beginsD D).2 with files:=setF (beginsD D).2.files k ⟨f.now,f.now⟩ }):=by rw [syncD,if_neg (by omega),hff]
   refine Vc.perm ((List.Perm.of_eq (List.append_nil s10)).trans hp)<|tj [.p,.p,.p,.p,.r,.e,.p,.p,.e] Z<|mj Z<|mj Z<|nj Z<|fj Z<|lj Z Z ?_
   refine Rg.callA Z Z Z (mz Z) (clone_spec (Arg.own o1 frz_sb) (by omega)) ?_
   rintro v20 s20 o20
   refine nj Z<|fj Z ?_
   refine Rg.store Z Z Z Z Z o20.one Z Z<|nl<|sj [.p,.p] Z<|mj Z<|aj Z<|nl ?_
   exact vr rfl (tz Z) (⟨by rw [hwd];rfl,(show DiskAt db (syncD D k).2 ((fb,cellsO [.slice pn f.now.length cn,v20] 109)::(s1++(s20++((db,dkO mb (beginsD D).2.room (beginsD D).2.used (beginsD D).2.ops (beginsD D).2.armed kv (beginsD D).2.down)::(mb,mo)::rest)))) from by rw [hwd];exact hback ⟨f.now,f.now⟩ (beginsD D).2.used _ v20 s1 s20 _ o1 o20 (.refl _))⟩) pulled
 · simp only [beq_eq_false_iff_ne,ne_eq] at h14
   have hres:syncD D k=(e,(beginsD D).2)∧DiskAt db (beginsD D).2 s10:=by
    rcases hcase with ⟨h1,rfl,h2⟩ | ⟨h1,rfl,h2,h3⟩ | ⟨_,h2,_⟩
    · exact ⟨by rw [syncD,if_pos h1],h2⟩
    · exact ⟨by rw [syncD,if_neg (by omega),h2],h3⟩
    · exact absurd h2 h14
   refine kj<|sj [.p,.p] Z<|mj Z<|aj Z<|nl ?_
   exact vr rfl (tz Z) (⟨by rw [hres.1];rfl,by rw [hres.1];exact hres.2⟩) pulled
def readD (D:Dk) (k:List UInt8) (at_ n:Int):List UInt8×Int:=if (beginsD D).1=7 then ([],7) else match findF (beginsD D).2.files k with
 | none=>([],4)
 | some f=>if at_<0∨n<0∨(f.now.length:Int)<at_∨(f.now.length:Int)-at_<n then ([],1) else ((f.now.drop at_.toNat).take n.toNat,0)
theorem readAt_spec {F:Fm} {db:Nat} {D:Dk} {s:Hl} (hD:DiskAt db D s) (hsz:D.files.length≤1000) (hfb:FewB D.files) (ha:D.armed≤9223372036854775807) (hfb2:FewB (beginsD D).2.files)
 (k:List UInt8) (at_ n:Int) :
 Spec Tryz.prog 86 #[.pointer (some ⟨db,0,none⟩),kS k,.int .i64 at_,.int .i64 n] F s fun v s'=>∃u s1 s2,v=.tuple #[u,.int .i64 (readD D k at_ n).2]∧Own byteE u (readD D k at_ n).1 s1∧DiskAt db (beginsD D).2 s2∧s'=s1++s2:=by
 refine Spec.of (n:=59) (vs:=[.pointer (some ⟨db,0,none⟩),kS k,.int .i64 at_,.int .i64 n]) Tryz.func86 rfl Tryz.ntmps86 rfl ?_
 refine sj [.p,.p] Z<|aj Z<|aj Z<|nl<|sj [.p,.p,.e,.p,.p,.p,.p,.p] Z<|mj Z<|mj Z<|Rg.callH Z Z Z (mz Z) (fun F' hF'=>on_spec (F:=F') hD hsz hfb ha k) Z ?_
 rintro _ s15 ⟨p,e,rfl,hcase⟩
 refine mj Z<|xj Z Z<|xj Z Z<|aj Z<|aj Z<|nl<|wj<|bj<|sj [.p,.p,.p] Z<|mj Z<|uj Z (Pv.neq Z Z)<|aj Z<|nl<|cj Z (fun h18=>?_) (fun h18=>?_)
 · simp only [bne_iff_ne,ne_eq] at h18
   have hres:readD D k at_ n=([],e)∧DiskAt db (beginsD D).2 s15:=by
    rcases hcase with ⟨h1,rfl,h2⟩ | ⟨h1,rfl,h2,h3⟩ | ⟨_,h2,_⟩
    · exact ⟨by rw [readD,if_pos h1],h2⟩
    · exact ⟨by rw [readD,if_neg (by omega),h2],h3⟩
    · exact absurd h2 h18
   refine sj [.p,.p,.p] Z<|mj Z<|aj Z<|aj Z<|nl ?_
   exact vr rfl (.cons (.tmp rfl) (tz Z)) (⟨.slice none 0 0,[],s15,by rw [hres.1];rfl,by rw [hres.1];exact .nil,hres.2,rfl⟩) pulled
 · simp only [bne_eq_false_iff_eq] at h18
   subst h18
   obtain ⟨hb0,_,fb,rfl,hfo⟩:=(hcase.resolve_left (fun h=>by cases h.2.1)).resolve_left (fun h=>by cases h.2.1)
   have hat:=hfo.at
   obtain ⟨mb,mo,kv,f,vn,vs,s1,s2,rest,hff,o1,o2,hp,hback⟩:=hfo.open_
   obtain ⟨pn,cn,rfl⟩:=o1.shape
   have hcn:f.now.length≤cn:=(Arg.own (F:=frz F s1) o1 fun b o hb=>Or.inl hb).cap.2
   obtain ⟨hl1,hl2⟩:=hfb2.find hff
   have hrd:readD D k at_ n=if at_<0∨n<0∨(f.now.length:Int)<at_∨(f.now.length:Int)-at_<n then ([],1) else ((f.now.drop at_.toNat).take n.toNat,0):=by rw [readD,if_neg (by omega),hff]
   have hat2:=fun hl (h:hl.Perm s15)=>(show DiskAt db (beginsD D).2 hl from by obtain ⟨a,b,c,d,e,g,h1,h2,h3,h4,h5,h6⟩:=hat;exact ⟨a,b,c,d,e,g,h1,h2,h3,h4,h5,h.trans h6⟩)
   refine Vc.perm ((List.Perm.of_eq (List.append_nil s15)).trans hp)<|sj [.p,.p,.p,.p,.p,.p,.p,.p,.p,.p,.p,.r,.p,.p,.p,.p,.p,.p,.p,.p,.r,.p,.p,.p,.p,.p,.p] Z<|mj Z<|uj Z (Pv.lss Z Z)<|mj Z<|Rg.split (t:=25) Z (fun h25=>?_) (fun h25=>?_)
   · simp only [dt] at h25
     iterate 2 (first | refine Rg.skipP rfl rfl rfl ?_ | refine Rg.skipR rfl rfl rfl ?_ | refine Rg.skipE rfl rfl rfl ?_)
     refine qj Z Z<|mj Z ?_
     iterate 7 (first | refine Rg.skipP rfl rfl rfl ?_ | refine Rg.skipR rfl rfl rfl ?_ | refine Rg.skipE rfl rfl rfl ?_)
     refine qj Z Z<|mj Z ?_
     iterate 9 (first | refine Rg.skipP rfl rfl rfl ?_ | refine Rg.skipR rfl rfl rfl ?_ | refine Rg.skipE rfl rfl rfl ?_)
     refine qj Z Z<|aj Z<|nl<|cj Z (fun h22=>?_) (fun h22=>absurd h22 (by cases h22))
     try simp only [] at h22
     refine sj [.p,.p] Z<|aj Z<|aj Z<|nl ?_
     exact vr rfl (.cons (.tmp rfl) (tz Z)) (⟨.slice none 0 0,[],_,by rw [hrd,if_pos (by omega)];rfl,by rw [hrd,if_pos (by omega)];exact .nil,hat2 _ hp.symm,rfl⟩) pulled
   · simp only [df] at h25
     refine mj Z<|uj Z (Pv.lss Z Z)<|pj Z Z<|mj Z<|Rg.split (t:=29) Z (fun h29=>?_) (fun h29=>?_)
     · simp only [dt] at h29
       iterate 7 (first | refine Rg.skipP rfl rfl rfl ?_ | refine Rg.skipR rfl rfl rfl ?_ | refine Rg.skipE rfl rfl rfl ?_)
       refine qj Z Z<|mj Z ?_
       iterate 9 (first | refine Rg.skipP rfl rfl rfl ?_ | refine Rg.skipR rfl rfl rfl ?_ | refine Rg.skipE rfl rfl rfl ?_)
       refine qj Z Z<|aj Z<|nl<|cj Z (fun h22=>?_) (fun h22=>absurd h22 (by cases h22))
       try simp only [] at h22
       refine sj [.p,.p] Z<|aj Z<|aj Z<|nl ?_
       exact vr rfl (.cons (.tmp rfl) (tz Z)) (⟨.slice none 0 0,[],_,by rw [hrd,if_pos (by omega)];rfl,by rw [hrd,if_pos (by omega)];exact .nil,hat2 _ hp.symm,rfl⟩) pulled
     · simp only [df] at h29
       refine mj Z<|mj Z<|nj Z<|fj Z<|lj Z Z<|uj Z (Pv.lenS Z)<|uj Z (Pv.gtr Z Z)<|pj Z Z<|mj Z ?_
       refine Rg.split (t:=38) Z (fun h38=>?_) (fun h38=>?_)
       · simp only [dt] at h38
         iterate 9 (first | refine Rg.skipP rfl rfl rfl ?_ | refine Rg.skipR rfl rfl rfl ?_ | refine Rg.skipE rfl rfl rfl ?_)
         refine qj Z Z<|aj Z<|nl<|cj Z (fun h22=>?_) (fun h22=>absurd h22 (by cases h22))
         try simp only [] at h22
         refine sj [.p,.p] Z<|aj Z<|aj Z<|nl ?_
         exact vr rfl (.cons (.tmp rfl) (tz Z)) (⟨.slice none 0 0,[],_,by rw [hrd,if_pos (by omega)];rfl,by rw [hrd,if_pos (by omega)];exact .nil,hat2 _ hp.symm,rfl⟩) pulled
       · simp only [df] at h38
         refine mj Z<|mj Z<|nj Z<|fj Z<|lj Z Z<|uj Z (Pv.lenS Z)<|mj Z<|uj Z (Pv.sub rfl rfl (by omega))<|uj Z (Pv.gtr Z Z)<|pj Z Z<|aj Z<|nl<|cj Z (fun h22=>?_) (fun h22=>?_)
         · try simp only [dt] at h22
           refine sj [.p,.p] Z<|aj Z<|aj Z<|nl ?_
           exact vr rfl (.cons (.tmp rfl) (tz Z)) (⟨.slice none 0 0,[],_,by rw [hrd,if_pos (by omega)];rfl,by rw [hrd,if_pos (by omega)];exact .nil,hat2 _ hp.symm,rfl⟩) pulled
         · simp only [df] at h22
           obtain ⟨a,rfl⟩:∃a:Nat,at_=a:=⟨at_.toNat,by omega⟩
           obtain ⟨m,rfl⟩:∃m:Nat,n=m:=⟨n.toNat,by omega⟩
           refine kj<|dj<|sj [.p,.p,.p,.r,.p,.p,.p,.p,.p,.e,.p,.p] Z<|mj Z<|nj Z<|fj Z<|lj Z Z<|mj Z<|mj Z<|mj Z<|uj Z (Pv.asI (a+m) (Pv.add rfl rfl (by omega)) (by omega))<|uj Z (Pv.sl (lv:=some (.int .i64 (a:Int))) (hv:=some (.int .i64 ((a+m:Nat):Int))) a (a+m) rfl rfl rfl (by omega) (by omega) (by simp)) ?_
           refine Rg.callA Z Z Z (mz Z) (clone_spec (((Arg.own o1 frz_sb).from (i:=a) (by omega)).take (k:=a+m-a) (by simp;omega)) (by simp;omega)) ?_
           rintro v58 s58 o58
           refine aj Z<|aj Z<|nl ?_
           exact vr rfl (.cons (.tmp rfl) (tz Z)) (⟨v58,s58,_,by rw [hrd,if_neg (by omega)];rfl,by rw [hrd,if_neg (by omega)];rw [Nat.add_sub_cancel_left] at o58;exact o58,hat2 _ hp.symm,rfl⟩) pulled
theorem FilesAt.snoc {ms:List (Me (List UInt8))} {fs:List (List UInt8×Fl)} {hl s1 s2:Hl} {k:List UInt8} {f:Fl} {b born:Nat} {vn vs:Value} (h:FilesAt ms fs hl) (own1:Own byteE vn f.now s1) (own2:Own byteE vs f.synced s2) :
 ∃hl',hl'.Perm ((b,cellsO [vn,vs] 109)::(s1++(s2++hl)))∧FilesAt (ms++[⟨k,.pointer (some ⟨b,0,Option.none⟩),born⟩]) (fs++[(k,f)]) hl':=by
 induction h with
 | nil=>exact ⟨_,.refl _,.cons .nil own1 own2⟩
 | @cons ms fs hl t1 t2 k2 f2 b2 born2 vn2 vs2 h o1 o2 ih =>
  obtain ⟨hl',hp,h'⟩:=ih
  exact ⟨_,(((hp.append_left t2).append_left t1).cons _).trans (perm_move _ _ _ _ _ _ _),.cons h' o1 o2⟩
theorem findF_none {fs:List (List UInt8×Fl)} {k:List UInt8} (h:findF fs k=Option.none):∀p∈fs,p.1≠k:=by
 intro p hp e
 unfold findF at h
 rw [Option.map_eq_none_iff,List.find?_eq_none] at h
 exact h p hp (by simp [e])
theorem FilesAt.notIn {ms:List (Me (List UInt8))} {fs:List (List UInt8×Fl)} {hl:Hl} (h:FilesAt ms fs hl) {k:List UInt8} (hn:findF fs k=Option.none):∀m∈ms,m.k≠k:=by
 intro m hm e
 have:m.k∈fs.map (·.1):=by rw [←h.keys];exact List.mem_map.2 ⟨m,hm,rfl⟩
 obtain ⟨p,hp,hpk⟩:=List.mem_map.1 this
 exact findF_none hn p hp (hpk.trans e)
def createD (D:Dk) (k:List UInt8):Int×Dk:=if (beginsD D).1=7 then (7,(beginsD D).2) else if mayN ⟨k.toArray⟩=false then (1,(beginsD D).2) else match findF (beginsD D).2.files k with
 | .some _=>(5,(beginsD D).2)
 | .none=>(0,{ (beginsD D).2 with files:=(beginsD D).2.files++[(k,⟨[],[]⟩)] })
theorem create_spec {F:Fm} {db:Nat} {D:Dk} {s:Hl} (hD:DiskAt db D s) (hsz:D.files.length≤1000) (hfb:FewB D.files) (ha:D.armed≤9223372036854775807) (k:List UInt8) :
 Spec Tryz.prog 222 #[.pointer (some ⟨db,0,Option.none⟩),kS k] F s fun v s'=>v=.int .i64 (createD D k).1∧DiskAt db (createD D k).2 s':=by
 refine Spec.of (n:=31) (vs:=[.pointer (some ⟨db,0,Option.none⟩),kS k]) Tryz.func222 rfl Tryz.ntmps222 rfl ?_
 refine sj [.p] Z<|aj Z<|nl<|wj<|sj [.p,.p,.e,.p,.p,.p,.p,.p] Z<|mj Z<|mj Z<|Rg.callH Z Z Z (mz Z) (fun F' hF'=>on_spec (F:=F') hD hsz hfb ha k) Z ?_
 rintro _ s10 ⟨p,e,rfl,hcase⟩
 refine mj Z<|xj Z Z<|xj Z Z<|aj Z<|aj Z<|nl<|bj<|sj [.p,.p,.p] Z<|mj Z<|uj Z (Pv.eql Z Z)<|aj Z<|nl<|cj Z (fun h13=>?_) (fun h13=>?_)
 · simp only [beq_iff_eq] at h13
   subst h13
   have hres:createD D k=(7,(beginsD D).2)∧DiskAt db (beginsD D).2 s10:=by
    rcases hcase with ⟨h1,_,h2⟩ | ⟨h1,h2,_⟩ | ⟨_,h2,_⟩
    · exact ⟨by rw [createD,if_pos h1],h2⟩
    · cases h2
    · cases h2
   refine sj [.p,.p] Z<|mj Z<|aj Z<|nl ?_
   exact vr rfl (tz Z) (⟨by rw [hres.1];rfl,by rw [hres.1];exact hres.2⟩) pulled
 · simp only [beq_eq_false_iff_ne,ne_eq] at h13
   replace hcase:=hcase.resolve_left (fun h=>h13 h.2.1)
   have hb0:(beginsD D).1=0:=by rcases hcase with h | h<;>exact h.1
   have hat:DiskAt db (beginsD D).2 s10:=by
    rcases hcase with h | ⟨_,_,fb,_,h⟩
    · exact h.2.2.2
    · exact h.at
   refine sj [.p,.e,.p,.p] Z<|mj Z<|Rg.callP Z Z Z (mz Z) (may_spec _ ⟨k.toArray⟩) ?_
   rintro _ rfl
   refine uj Z (Pv.not Z)<|aj Z<|nl<|cj Z (fun h17=>?_) (fun h17=>?_)
   · simp only [Bool.not_eq_true'] at h17
     refine sj [.p] Z<|aj Z<|nl ?_
     exact vr rfl (tz Z) (⟨by rw [createD,if_neg (by omega),if_pos h17];rfl,by rw [createD,if_neg (by omega),if_pos h17];exact hat⟩) pulled
   · simp only [Bool.not_eq_false'] at h17
     refine sj [.p,.p,.p] Z<|mj Z<|uj Z (Pv.eql Z Z)<|aj Z<|nl<|cj Z (fun h21=>?_) (fun h21=>?_)
     · simp only [beq_iff_eq] at h21
       subst h21
       obtain ⟨_,_,fb,_,hfo⟩:=hcase.resolve_left (fun h=>by cases h.2.1)
       obtain ⟨mb,mo,kv,f,vn,vs,s1,s2,rest,hff,_⟩:=hfo.open_
       refine sj [.p] Z<|aj Z<|nl ?_
       exact vr rfl (tz Z) (⟨by rw [createD,if_neg (by omega),if_neg (by rw [h17];decide),hff];rfl,by rw [createD,if_neg (by omega),if_neg (by rw [h17];decide),hff];exact hat⟩) pulled
     · simp only [beq_eq_false_iff_ne,ne_eq] at h21
       obtain ⟨_,_,hff,_⟩:=hcase.resolve_right (fun h=>h21 h.2.1)
       have hcd:createD D k=(0,{ (beginsD D).2 with files:=(beginsD D).2.files++[(k,⟨[],[]⟩)] }):=by rw [createD,if_neg (by omega),if_neg (by rw [h17];decide),hff]
       obtain ⟨mb,mc,ms,hf,kv,sk,hfl,hn,hbn,hold,own,hp⟩:=hat
       refine Vc.perm ((List.Perm.of_eq (List.append_nil s10)).trans hp)<|kj<|dj<|sj [.p,.p,.p,.r,.p,.p,.e,.e] Z<|mj Z<|nj Z<|fj Z<|lj Z Z<|mj Z<|uj Z (Pv.build Z Z) ?_
       refine Rg.box Z Z Z Z Z (fun b30=>?_)
       refine Rg.mapPut (ms:=ms) (k:=k) Z Z Z Z Z Z (hfl.notIn hff) hn Z<|nl<|sj [.p] Z<|aj Z<|nl ?_
       exact Vc.ret (Vc.retsH rfl (tz Z) (⟨by rw [hcd];rfl,(show DiskAt db (createD D k).2 ((b30,cellsO [.slice Option.none 0 0,.slice Option.none 0 0] 109)::(db,dkO mb (beginsD D).2.room (beginsD D).2.used (beginsD D).2.ops (beginsD D).2.armed kv (beginsD D).2.down)::(mb,mapO kS (ms++[⟨k,.pointer (some ⟨b30,0,Option.none⟩),mc⟩]) (mc+1))::(hf++sk)) from by
        rw [hcd]
        obtain ⟨hf',hpf,hfl'⟩:=hfl.snoc (k:=k) (f:=⟨[],[]⟩) (b:=b30) (born:=mc) (vn:=.slice Option.none 0 0) (vs:=.slice Option.none 0 0) .nil .nil
        refine ⟨mb,mc+1,_,hf',kv,sk,hfl',?_,?_,?_,own,?_⟩
        · rw [List.map_append,List.map_cons,List.map_nil,List.nodup_append]
          exact ⟨hn,by simp,fun a ha' b hb'=>by
           obtain ⟨m,hm,rfl⟩:=List.mem_map.1 ha'
           rw [List.mem_singleton] at hb'
           subst hb'
           exact hfl.notIn hff m hm⟩
        · rw [List.map_append,List.map_cons,List.map_nil,List.nodup_append]
          exact ⟨hbn,by simp,fun a ha' b hb'=>by
           obtain ⟨m,hm,rfl⟩:=List.mem_map.1 ha'
           rw [List.mem_singleton] at hb'
           subst hb'
           have:=hold m hm
           omega⟩
        · intro m hm
          rcases List.mem_append.1 hm with h | h
          · have:=hold m h
            omega
          · rw [List.mem_singleton] at h
            subst h
            exact Nat.lt_succ_self mc
        · refine List.Perm.trans ?_ (((hpf.append_right sk).cons _).cons _).symm
          simp only [List.nil_append,List.cons_append]
          exact (List.Perm.swap _ _ _).trans ((List.Perm.swap _ _ _).cons _))⟩) pulled)
def cutF (fs:List (List UInt8×Fl)) (k:List UInt8):List (List UInt8×Fl):=fs.filter fun p=>!decide (p.1=k)
theorem cutM_of {ms:List (Me (List UInt8))} {k:List UInt8} (h:∀m∈ms,m.k≠k):cutM ms k=ms:=by
 rw [cutM,List.filter_eq_self]
 intro y hy
 simp [h y hy]
theorem cutF_of {fs:List (List UInt8×Fl)} {k:List UInt8} (h:∀p∈fs,p.1≠k):cutF fs k=fs:=by
 rw [cutF,List.filter_eq_self]
 intro y hy
 simp [h y hy]
theorem FilesAt.pick {ms:List (Me (List UInt8))} {fs:List (List UInt8×Fl)} {hl:Hl} (h:FilesAt ms fs hl) (hn:(ms.map (·.k)).Nodup) {m:Me (List UInt8)} (hm:m∈ms) :
 ∃b f vn vs s1 s2 rest,m.v=.pointer (some ⟨b,0,Option.none⟩)∧findF fs m.k=some f∧hl.Perm ((b,cellsO [vn,vs] 109)::(s1++(s2++rest)))∧Own byteE vn f.now s1∧Own byteE vs f.synced s2 ∧
  FilesAt (cutM ms m.k) (cutF fs m.k) rest:=by
 induction h with
 | nil=>cases hm
 | @cons ms fs hl s1 s2 k f b born vn vs h own1 own2 ih =>
  rw [List.map_cons,List.nodup_cons] at hn
  have hks:=h.keys
  rcases List.mem_cons.1 hm with rfl | hm'
  · have h1:∀m∈ms,m.k≠k:=fun m hm e=>hn.1 (List.mem_map.2 ⟨m,hm,e⟩)
    have h2:∀p∈fs,p.1≠k:=fun p hp e=>hn.1 (by rw [hks];exact List.mem_map.2 ⟨p,hp,e⟩)
    refine ⟨b,f,vn,vs,s1,s2,hl,rfl,by simp [findF],.refl _,own1,own2,?_⟩
    have e1:=cutM_of h1
    have e2:=cutF_of h2
    simp only [cutM,cutF] at e1 e2
    simp only [cutM,cutF,List.filter_cons,decide_true,Bool.not_true,Bool.false_eq_true,↓reduceIte,e1,e2]
    exact h
  · obtain ⟨b2,f2,vn2,vs2,t1,t2,rest,e1,e2,hp,o1,o2,hc⟩:=ih hn.2 hm'
    have hne:k≠m.k:=fun e=>hn.1 (List.mem_map.2 ⟨m,hm',e.symm⟩)
    refine ⟨b2,f2,vn2,vs2,t1,t2,(b,cellsO [vn,vs] 109)::(s1++(s2++rest)),e1,?_,(((hp.append_left s2).append_left s1).cons _).trans (perm_move _ _ _ _ _ _ _),o1,o2,?_⟩
    · simp only [findF,List.find?_cons] at e2 ⊢
      rw [decide_eq_false hne]
      exact e2
    · simp only [cutM,cutF] at hc ⊢
      simp only [List.filter_cons,decide_eq_false hne,Bool.not_false,↓reduceIte]
      exact .cons hc own1 own2
def DiskM (db:Nat) (D:Dk) (mb mc:Nat) (ms:List (Me (List UInt8))) (kv:Value) (hl:Hl):Prop:=∃hf sk,FilesAt ms D.files hf∧(ms.map (·.k)).Nodup∧(ms.map (·.born)).Nodup∧(∀m∈ms,m.born<mc)∧Own boolE kv D.keep sk ∧
 hl.Perm ((db,dkO mb D.room D.used D.ops D.armed kv D.down)::(mb,mapO kS ms mc)::(hf++sk))
theorem DiskM.at {db:Nat} {D:Dk} {mb mc:Nat} {ms:List (Me (List UInt8))} {kv:Value} {hl:Hl} (h:DiskM db D mb mc ms kv hl):DiskAt db D hl:=by
 obtain ⟨hf,sk,h1,h2,h3,h4,h5,h6⟩:=h
 exact ⟨mb,mc,ms,hf,kv,sk,h1,h2,h3,h4,h5,h6⟩
theorem cutM_keys {ms:List (Me (List UInt8))} {k:List UInt8} (h:(ms.map (·.k)).Nodup):((cutM ms k).map (·.k)).Nodup:=h.sublist (List.filter_sublist.map _)
theorem cutM_born {ms:List (Me (List UInt8))} {k:List UInt8} (h:(ms.map (·.born)).Nodup):((cutM ms k).map (·.born)).Nodup:=h.sublist (List.filter_sublist.map _)
theorem cutM_old {ms:List (Me (List UInt8))} {k:List UInt8} {mc:Nat} (h:∀m∈ms,m.born<mc):∀m∈cutM ms k,m.born<mc:=fun m hm=>h m (List.mem_filter.1 hm).1
def goneD (D:Dk) (k:List UInt8):Dk:=match findF D.files k with
 | .none=>D
 | .some f=>{ D with files:=cutF D.files k,used:=D.used-(secs f.now.length:Nat) }
theorem gone_none {F:Fm} {db:Nat} {D:Dk} {mb mc:Nat} {ms:List (Me (List UInt8))} {kv:Value} {s:Hl} (hD:DiskM db D mb mc ms kv s) (hfb:FewB D.files) (hu : -1000000000≤D.used∧D.used≤1000000000) (k:List UInt8) (hm:findM ms k=Option.none) :
 Spec Tryz.prog 84 #[.pointer (some ⟨db,0,Option.none⟩),kS k] F s fun _ s'=>DiskM db (goneD D k) mb mc (cutM ms k) kv s':=by
 obtain ⟨hf,sk,hfl,hn,hbn,hold,own,hp⟩:=hD
 refine Spec.perm ?_ hp
 have h1:=findM_none.1 hm
 have hff:=hfl.none hm
 have hg:goneD D k=D:=by rw [goneD,hff]
 refine Spec.of (n:=31) (vs:=[.pointer (some ⟨db,0,Option.none⟩),kS k]) Tryz.func84 rfl Tryz.ntmps84 rfl ?_
 refine sj [.p,.p,.p,.r,.p,.r,.p] Z<|mj Z<|nj Z<|fj Z<|lj Z Z<|mj Z<|rj Z (Ev.as (.pointer Option.none) (Ev.lookup rfl rfl hn) (by rw [hm];rfl))<|aj Z<|nl<|sj [.p,.p] Z<|mj Z<|uj Z (Pv.neqNil Z Z)<|nl<|cj Z (fun h12=>absurd h12 (by (cases h12))) (fun h12=>?_)
 refine kj ?_
 exact Vc.fin (Vc.retsH rfl .nil ((show DiskM db (goneD D k) mb mc (cutM ms k) kv ((db,dkO mb D.room D.used D.ops D.armed kv D.down)::(mb,mapO kS ms mc)::(hf++sk)) from by rw [hg,cutM_of h1];exact ⟨hf,sk,hfl,hn,hbn,hold,own,.refl _⟩)) pulled)
theorem gone_some {F:Fm} {db:Nat} {D:Dk} {mb mc:Nat} {ms:List (Me (List UInt8))} {kv:Value} {s:Hl} (hD:DiskM db D mb mc ms kv s) (hfb:FewB D.files) (hu : -1000000000≤D.used∧D.used≤1000000000) (k:List UInt8) (m:Me (List UInt8)) (hm:findM ms k=some m) :
 Spec Tryz.prog 84 #[.pointer (some ⟨db,0,Option.none⟩),kS k] F s fun _ s'=>DiskM db (goneD D k) mb mc (cutM ms k) kv s':=by
 obtain ⟨hf,sk,hfl,hn,hbn,hold,own,hp⟩:=hD
 refine Spec.perm ?_ hp
 have hmm:m∈ms:=List.mem_of_find?_eq_some hm
 have hmk:m.k=k:=by simpa using List.find?_some hm
 obtain ⟨fb,f,vn,vs,s1,s2,rest,hmv,hff,hperm,o1,o2,hc⟩:=hfl.pick hn hmm
 rw [hmk] at hff hc
 obtain ⟨hl1,hl2⟩:=hfb.find hff
 obtain ⟨pn,cn,rfl⟩:=o1.shape
 have hsec:secs f.now.length≤1000000:=by unfold secs;omega
 have hg:goneD D k={ D with files:=cutF D.files k,used:=D.used-(secs f.now.length:Nat) }:=by rw [goneD,hff]
 refine Spec.perm ?_ (perm_open _ _ _ _ _ _ _ _ _ hperm rfl)
 refine Spec.of (n:=31) (vs:=[.pointer (some ⟨db,0,Option.none⟩),kS k]) Tryz.func84 rfl Tryz.ntmps84 rfl ?_
 refine sj [.p,.p,.p,.r,.p,.r,.p] Z<|mj Z<|nj Z<|fj Z<|lj Z Z<|mj Z<|rj Z (Ev.as (.pointer (some ⟨fb,0,Option.none⟩)) (Ev.lookup rfl rfl hn) (by rw [hm];exact hmv))<|aj Z<|nl<|sj [.p,.p] Z<|mj Z<|uj Z (Pv.neqNil Z Z)<|nl<|cj Z (fun h12=>?_) (fun h12=>absurd h12 (by (cases h12)))
 refine wj ?_
 refine Vc.draw [13] (sd [(0,.pure),(1,.pure),(2,.pure),(3,.read),(4,.pure),(5,.pure),(6,.pure),(7,.read),(8,.pure),(9,.eff),(10,.pure),(11,.pure),(12,.pure),(13,.eff)]) mixed (by kernel_rfl)<|mj Z<|nj Z<|fj Z<|lj Z Z<|mj Z<|nj Z<|fj Z<|lj Z Z<|uj Z (Pv.lenS Z) ?_
 refine Rg.callP Z Z Z (mz Z) (sectors_spec _ f.now.length (by omega)) ?_
 rintro _ rfl
 refine uj Z (Pv.sub rfl rfl (by omega))<|nj Z<|fj Z ?_
 refine Rg.store Z Z Z Z Z Z Z Z<|nl<|tj [.p,.p,.p,.r,.p,.e] Z<|mj Z<|nj Z<|fj Z<|lj Z Z<|mj Z ?_
 refine Rg.mapDel (ms:=ms) (k:=k) Z Z Z Z Z ⟨m,hmm,hmk⟩ hn Z<|nl ?_
 exact Vc.fin (Vc.retsH rfl .nil ((show DiskM db (goneD D k) mb mc (cutM ms k) kv ((db,dkO mb D.room (D.used-(secs f.now.length:Nat)) D.ops D.armed kv D.down)::(mb,mapO kS (cutM ms k) mc)::(rest++sk)) from by rw [hg];exact ⟨rest,sk,hc,cutM_keys hn,cutM_born hbn,cutM_old hold,own,.refl _⟩)) pulled)
theorem gone_spec {F:Fm} {db:Nat} {D:Dk} {mb mc:Nat} {ms:List (Me (List UInt8))} {kv:Value} {s:Hl} (hD:DiskM db D mb mc ms kv s) (hfb:FewB D.files) (hu : -1000000000≤D.used∧D.used≤1000000000) (k:List UInt8) :
 Spec Tryz.prog 84 #[.pointer (some ⟨db,0,Option.none⟩),kS k] F s fun _ s'=>DiskM db (goneD D k) mb mc (cutM ms k) kv s':=by
 cases hm:findM ms k with
 | none=>exact gone_none hD hfb hu k hm
 | some m=>exact gone_some hD hfb hu k m hm
def removeD (D:Dk) (k:List UInt8):Int×Dk:=if (beginsD D).1=7 then (7,(beginsD D).2) else match findF (beginsD D).2.files k with
 | .none=>(4,(beginsD D).2)
 | .some _=>(0,goneD (beginsD D).2 k)
theorem FileOf.m {db:Nat} {D:Dk} {k:List UInt8} {fb:Nat} {hl:Hl} (h:FileOf db D k fb hl):∃mb mc ms kv m f,DiskM db D mb mc ms kv hl∧m∈ms∧m.k=k∧m.v=.pointer (some ⟨fb,0,Option.none⟩)∧findF D.files k=some f:=by
 obtain ⟨mb,mc,ms,hf,kv,sk,m,h1,h2,h3,h4,own,hmm,hmk,hmv,hp⟩:=h
 obtain ⟨fb2,f,vn,vs,s1,s2,rest,hmv2,hff,_⟩:=h1.get h2 hmm
 exact ⟨mb,mc,ms,kv,m,f,⟨hf,sk,h1,h2,h3,h4,own,hp⟩,hmm,hmk,hmv,by rw [←hmk];exact hff⟩
theorem remove_spec {F:Fm} {db:Nat} {D:Dk} {s:Hl} (hD:DiskAt db D s) (hsz:D.files.length≤1000) (hfb:FewB D.files) (ha:D.armed≤9223372036854775807) (hfb2:FewB (beginsD D).2.files)
 (hu : -1000000000≤(beginsD D).2.used∧(beginsD D).2.used≤1000000000) (k:List UInt8) :
 Spec Tryz.prog 72 #[.pointer (some ⟨db,0,Option.none⟩),kS k] F s fun v s'=>v=.int .i64 (removeD D k).1∧DiskAt db (removeD D k).2 s':=by
 refine Spec.of (n:=19) (vs:=[.pointer (some ⟨db,0,Option.none⟩),kS k]) Tryz.func72 rfl Tryz.ntmps72 rfl ?_
 refine sj [.p] Z<|aj Z<|nl<|sj [.p,.p,.e,.p,.p,.p,.p,.p] Z<|mj Z<|mj Z<|Rg.callH Z Z Z (mz Z) (fun F' hF'=>on_spec (F:=F') hD hsz hfb ha k) Z ?_
 rintro _ s10 ⟨p,e,rfl,hcase⟩
 refine mj Z<|xj Z Z<|xj Z Z<|aj Z<|aj Z<|nl<|wj<|sj [.p,.p] Z<|mj Z<|uj Z (Pv.eql Z Z)<|nl<|cj Z (fun h14=>?_) (fun h14=>?_)
 · simp only [beq_iff_eq] at h14
   subst h14
   obtain ⟨hb0,_,fb,rfl,hfo⟩:=(hcase.resolve_left (fun h=>by cases h.2.1)).resolve_left (fun h=>by cases h.2.1)
   obtain ⟨mb,mc,ms,kv,m,f,hM,hmm,hmk,hmv,hff⟩:=hfo.m
   have hrd:removeD D k=(0,goneD (beginsD D).2 k):=by rw [removeD,if_neg (by omega),hff]
   refine tj [.p,.p,.e] Z<|mj Z<|mj Z<|Rg.callH Z Z Z (mz Z) (fun F' hF'=>gone_spec (F:=F') hM hfb2 hu k) Z ?_
   rintro v17 s17 hM17
   refine nl<|sj [.p,.p] Z<|mj Z<|aj Z<|nl ?_
   exact vr rfl (tz Z) (⟨by rw [hrd];rfl,by rw [hrd];exact hM17.at⟩) pulled
 · simp only [beq_eq_false_iff_ne,ne_eq] at h14
   have hres:removeD D k=(e,(beginsD D).2)∧DiskAt db (beginsD D).2 s10:=by
    rcases hcase with ⟨h1,rfl,h2⟩ | ⟨h1,rfl,h2,h3⟩ | ⟨_,h2,_⟩
    · exact ⟨by rw [removeD,if_pos h1],h2⟩
    · exact ⟨by rw [removeD,if_neg (by omega),h2],h3⟩
    · exact absurd h2 h14
   refine kj<|sj [.p,.p] Z<|mj Z<|aj Z<|nl ?_
   exact vr rfl (tz Z) (⟨by rw [hres.1];rfl,by rw [hres.1];exact hres.2⟩) pulled
end Go.Proofs.YtkpiakgmkpbikaaGreatDoor
