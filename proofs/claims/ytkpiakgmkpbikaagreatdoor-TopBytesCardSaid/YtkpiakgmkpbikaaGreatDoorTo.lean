/- Steps of the proof. -/
import Derived.Test.YtkpiakgmkpbikaaGreatDoorTi
set_option linter.unusedVariables false
namespace Go.Proofs.YtkpiakgmkpbikaaGreatDoor
open ED (Eg egV egC edgeE InE grV)
def curE:Enc Nat where
 k:=1
 tid:=355
 cells:=fun b=>[.pointer (some ⟨b,0,none⟩)]
 val:=fun b=>.pointer (some ⟨b,0,none⟩)
 pos:=by decide
 len:=fun _=>rfl
 one:=fun x v hv=>by simp at hv;subst hv;rfl
 vc:=fun _=>rfl
instance : RowTy Tryz.prog curE 355:=⟨Tryz.sizeOf355,.inr ⟨Tryz.isAgg355,rfl,fun _=>rfl⟩⟩
instance : TySl Tryz.prog 352 curE 8:=⟨Tryz.underlying352,Tryz.t355,.pointer none,by kernel_rfl,by kernel_rfl,rfl,rfl,rfl⟩
abbrev cuO (rb:Nat) (e:Eg) (is:Bool):Obj:=cellsO [.pointer (some ⟨rb,0,none⟩),.int .u32 (e.f:Int),.int .u32 (e.t:Int),.int .u32 (e.w:Int),.bool is] 357
abbrev swO (lv ev:Value) (at_:Nat) (err:Int) (begun:Bool):Obj:=cellsO [lv,ev,.int .i64 (at_:Int),.int .i64 err,.bool begun] 354
def CuG (db:Nat) (Q:Nm→List Rc→Prop) (cb:Nat) (begun:Bool) (l:List Rc) (hl:Hl):Prop:=∃rb e is nm rest fr s,RdT rb db nm rest fr s∧hl=(cb,cuO rb e is)::s ∧
 ((begun=false∧rest=l∧(fr=true→Q nm l))∨(begun=true∧fr=false∧((is=false∧l=[])∨(is=true∧∃r,l=r::rest∧e=upE r))))
inductive Cus (db:Nat) (Q:Nm→List Rc→Prop):List (Nat×Bool×List Rc)→Hl→Prop
 | nil:Cus db Q [] []
 | cons {cb:Nat} {b:Bool} {l:List Rc} {xs:List (Nat×Bool×List Rc)} {s q:Hl} (h:CuG db Q cb b l s) (t:Cus db Q xs q):Cus db Q ((cb,b,l)::xs) (s++q)
theorem Cus.pick {db:Nat} {Q:Nm→List Rc→Prop} {x:Nat×Bool×List Rc} {c:List (Nat×Bool×List Rc)}:∀{a:List (Nat×Bool×List Rc)} {q:Hl},Cus db Q (a++x::c) q→∃s q',CuG db Q x.1 x.2.1 x.2.2 s∧q.Perm (s++q') ∧
 ∀s' b' l',CuG db Q x.1 b' l' s'→∃q'',Cus db Q (a++(x.1,b',l')::c) q''∧q''.Perm (s'++q')
 | [],q,h=>by
  cases h with
  | cons h t=>exact ⟨_,_,h,.refl _,fun s' b' l' h'=>⟨_,.cons h' t,.refl _⟩⟩
 | y::a,q,h=>by
  cases h with
  | @cons _ _ _ _ s1 q1 h t =>
   obtain ⟨s,q',h1,h2,h3⟩:=Cus.pick t
   have key:∀{u v:Hl},u.Perm (v++q')→(s1++u).Perm (v++(s1++q')):=fun {u v} hp=>by
    refine (hp.append_left s1).trans ?_
    rw [←lx,←lx]
    exact List.perm_append_comm.append_right q'
   refine ⟨s,s1++q',h1,key h2,fun s' b' l' h'=>?_⟩
   obtain ⟨q'',h4,h5⟩:=h3 s' b' l' h'
   exact ⟨s1++q'',.cons h h4,key h5⟩
theorem Cus.snoc {db:Nat} {Q:Nm→List Rc→Prop} {cb:Nat} {b:Bool} {l:List Rc}:∀{xs:List (Nat×Bool×List Rc)} {q s:Hl},Cus db Q xs q→CuG db Q cb b l s→∃q',Cus db Q (xs++[(cb,b,l)]) q'∧q'.Perm (q++s)
 | [],q,s,h,h'=>by
  cases h
  exact ⟨s++[],.cons h' .nil,by rw [List.append_nil];exact .refl _⟩
 | y::xs,q,s,h,h'=>by
  cases h with
  | @cons _ _ _ _ s1 q1 h t =>
   obtain ⟨q',h1,h2⟩:=Cus.snoc t h'
   exact ⟨s1++q',.cons h h1,by rw [lx];exact h2.append_left s1⟩
section
variable {F : Fm} {db cb rb : Nat} {C : Cx} {D : Dk} {s1 s2 : Hl} {nm : Nm} {Q : Nm → List Rc → Prop}
theorem moves_z (hC:C.Ok) {l:List Rc} {fr:Bool} {e0:Eg} {is0:Bool} (hR:RdT rb db nm l fr s1) (hl:l.length<50) (hI:InRs l) (hD:DiskAt db D s2) (hw:Wz C D) (hup:D.down=false) (hf:fr=true→∃f,findF D.files nm=some f∧f.now=fileB l) :
 Spec Tryz.prog 275 #[.pointer (some ⟨cb,0,none⟩)] F ((cb,cuO rb e0 is0)::(s1++s2)) fun v s'=>∃e D' h1 h2,v=.int .i64 e∧s'=h1++h2∧DiskAt db D' h2∧Out C none1 (fun _=>CuG db Q cb true l h1) D 0 e D':=by
 refine Spec.of (n:=25) (vs:=[.pointer (some ⟨cb,0,none⟩)]) Tryz.func275 rfl Tryz.ntmps275 rfl ?_
 refine sj [.p] Z<|aj Z<|nl<|sj [.p,.p,.p,.r,.e,.p,.p,.p,.p,.e,.e,.p,.p] Z<|mj Z<|nj Z<|fj Z<|lj Z Z ?_
 refine Rg.callH Z Z Z (mz Z) (fun F' hF'=>next_z (F:=F') hC hR hl hI hD hw hup hf) Z ?_
 rintro _ _ ⟨x,is,e,D1,g1,g2,rfl,rfl,hD1,hO,hRt,hni,hx0⟩
 rw [lx]
 have hxi:InR x:=by
  cases his:is with
  | false=>rw [hx0 his];exact ⟨⟨Int.le_refl _,by decide⟩,Int.le_refl _,by decide⟩
  | true =>
   have he0:e=0:=Classical.byContradiction fun h=>by rw [hni h] at his;cases his
   subst he0
   obtain ⟨t,ht,_⟩:=(hO.good (by decide)).2.2.resolve_left (fun h=>by rw [h.2] at his;cases his)
   exact hI x (by rw [ht];simp)
 refine mj Z<|xj Z Z<|xj Z Z<|xj Z Z<|Rg.alloc Z Z Z Z (fun b3=>?_)
 refine Rg.storeA Z Z Z Z Z Z Z Z<|aj Z<|aj Z<|nl<|sj [.p,.p,.r,.e,.p,.p,.p,.e,.p,.p,.e] Z<|mj Z<|mj Z<|rj Z (Ev.as (recV x) (Ev.ldA Z Z) Z)<|Rg.callP Z Z Z (mz Z) (unpack_spec x hxi) ?_
 rintro _ rfl
 refine mj Z<|nj Z<|fj Z ?_
 refine Rg.storeA (us:=egC (upE x)) Z Z Z Z Z Z Z Z<|nj Z<|fj Z ?_
 refine Rg.store Z Z Z Z Z Z Z Z<|nl<|sj [.p,.p] Z<|mj Z<|aj Z<|nl ?_
 exact vr (hl':=((cb,cuO rb (upE x) is)::g1)++g2) rfl (tz Z) ⟨e,D1,(cb,cuO rb (upE x) is)::g1,g2,rfl,rfl,hD1,hO.wz,hO.2.imp (fun h=>⟨h.1,h.2.1,rb,upE x,is,nm,l.tail,false,g1,hRt h.1,rfl,.inr ⟨rfl,rfl,h.2.2.elim (fun h3=>.inl ⟨h3.2,h3.1⟩) (fun ⟨t,h3,h4⟩=>.inr ⟨h4,x,by rw [h3];rfl,rfl⟩)⟩⟩) id⟩ pulled
def CusP (db:Nat) (Q:Nm→List Rc→Prop) (xs:List (Nat×Bool×List Rc)) (hl:Hl):Prop:=∃q,Cus db Q xs q∧hl.Perm q
theorem CusP.pick {x:Nat×Bool×List Rc} {a c:List (Nat×Bool×List Rc)} {hl:Hl} (h:CusP db Q (a++x::c) hl):∃s q',CuG db Q x.1 x.2.1 x.2.2 s∧hl.Perm (s++q')∧∀s' b' l',CuG db Q x.1 b' l' s'→CusP db Q (a++(x.1,b',l')::c) (s'++q'):=by
 obtain ⟨q,h1,h2⟩:=h
 obtain ⟨s,q',h3,h4,h5⟩:=h1.pick
 refine ⟨s,q',h3,h2.trans h4,fun s' b' l' h'=>?_⟩
 obtain ⟨q'',h6,h7⟩:=h5 s' b' l' h'
 exact ⟨q'',h6,h7.symm⟩
theorem CusP.snoc {b:Bool} {l:List Rc} {xs:List (Nat×Bool×List Rc)} {q s:Hl} (h:CusP db Q xs q) (h':CuG db Q cb b l s):CusP db Q (xs++[(cb,b,l)]) (q++s):=by
 obtain ⟨q0,h1,h2⟩:=h
 obtain ⟨q',h3,h4⟩:=h1.snoc h'
 exact ⟨q',h3,(h2.append_right s).trans h4.symm⟩
def SwAt (db:Nat) (Q:Nm→List Rc→Prop) (n sh pb:Nat) (cs:List (Nat×Bool×List Rc)) (at_:Nat) (begun:Bool) (hl:Hl):Prop:=∃lv ev sL sE sC,Own curE lv (cs.map (·.1)) sL∧Tl intE ev ((bndL n sh).drop 1) sE∧CusP db Q cs sC∧(∀c∈cs,c.2.1=begun)∧hl=(pb,swO lv ev at_ 0 begun)::(sL++(sE++sC))
set_option maxHeartbeats 2000000 in
theorem newSweep_z (hC:C.Ok) (hD:DiskAt db D s2) (hw:Wz C D) (hup:D.down=false) {n sh:Nat} (hn:n≤1048576) (h1:1≤sh) (h2:sh<100) (L:Nat→List Rc) (hf:∀i,i<sh→∃f,findF D.files (shN i)=some f∧f.now=fileB (L i)) (hQ:∀i,i<sh→Q (shN i) (L i)) :
 Spec Tryz.prog 237 #[.pointer (some ⟨db,0,none⟩),.int .i64 (n:Int),.int .i64 (sh:Int)] F s2 fun v s'=>∃p e D' h1 h2,v=.tuple #[.pointer p,.int .i64 e]∧s'=h1++h2∧DiskAt db D' h2∧Out C none1 (fun _=>∃pb cs,p=some ⟨pb,0,none⟩∧cs.map (·.2.2)=(List.range sh).map L∧SwAt db Q n sh pb cs 0 false h1) D 0 e D':=by
 refine Spec.of (n:=55) (vs:=[.pointer (some ⟨db,0,none⟩),.int .i64 (n:Int),.int .i64 (sh:Int)]) Tryz.func237 rfl Tryz.ntmps237 rfl ?_
 refine sj [.p,.p] Z<|aj Z<|aj Z<|nl<|sj [.p,.p,.e,.p,.p,.p,.p,.p] Z<|mj Z<|mj Z<|Rg.callA Z Z Z (mz Z) (bounds_spec n sh hn h1 (by omega)) ?_
 rintro _ s17 ⟨u17,rfl,own17⟩
 obtain ⟨pe,ce,rfl⟩:=own17.shape
 have hbl:(bndL n sh).length=sh+1:=by simp [bndL]
 have hcap:=own17.tl.cap
 have hend:=own17.tl.from (k:=1) (by omega) (by omega)
 obtain ⟨pq,hpq⟩:∃pq,pq=(if ce=1 then pe else pe.map (·.add (1*intE.k))):=⟨_,rfl⟩
 rw [←hpq] at hend
 refine mj Z<|xj Z Z<|xj Z Z<|aj Z<|aj Z<|nl<|wj<|sj [.p,.p] Z<|mj Z<|uj Z (Pv.neq Z Z)<|nl<|cj Z (fun h21=>absurd h21 (by decide)) (fun h21=>?_)
 refine kj<|sj [.p,.p,.p,.e,.p] Z<|mj Z<|uj Z (Pv.as (.slice pq ((bndL n sh).length-1) (ce-1)) (Pv.sl (lv:=some (.int .i64 ((1:Nat):Int))) (hv:=none) 1 (bndL n sh).length rfl rfl rfl (by omega) hcap (fun _=>hcap)) (by rw [hpq];rfl))<|uj Z (Pv.build (c:=#[.slice none 0 0,.slice pq ((bndL n sh).length-1) (ce-1),.int .i64 0,.int .i64 0,.bool false]) Z Z)<|Rg.box Z Z Z Z Z (fun b26=>?_)
 refine aj Z<|nl<|wj<|sj [.p,.p] Z<|mj Z<|mj Z<|nl<|bj ?_
 refine Vc.loop6 (fun (k:Nat) (cs:List (Nat×Bool×List Rc)) (lv:Value) (D':Dk) (sL:Hl) (q:Hl×Hl)=>k≤sh∧cs.map (·.2.2)=(List.range k).map L∧(∀c∈cs,c.2.1=false)∧Own curE lv (cs.map (·.1)) sL∧CusP db Q cs q.1∧DiskAt db D' q.2∧Wz C D'∧Gd none1 D D') (fun k cs lv D' sL q=>[(0,.pointer (some ⟨db,0,none⟩)),(10,.pointer (some ⟨b26,0,none⟩)),(27,.int .i64 (sh:Int)),(28,.int .i64 (k:Int))]) (fun k cs lv D' sL q=>(b26,swO lv (.slice pq ((bndL n sh).length-1) (ce-1)) 0 0 false)::(sL++(s17++(q.1++q.2)))) (fun k cs lv D' sL q=>sh-k) 0 [] (.slice none 0 0) D [] ([],s2) ⟨Nat.zero_le _,rfl,fun c hc=>(by cases hc),.nil,⟨[],.nil,.refl _⟩,hD,hw,.refl hup⟩ (.cons rfl (.cons rfl (.cons rfl (.cons rfl .nil)))) pulled ?_
 rintro k cs lv D' sL ⟨q1,q2⟩ ⟨hk,hcs,hcb,hown,hcu,hD',hw',hG⟩
 simp only at hcu hD' ⊢
 have hlv:=hown.one
 have hcl:cs.length=k:=by have:=congrArg List.length hcs;simpa using this
 refine sj [.p] Z<|uj Z (Pv.lss Z Z)<|nl<|wj<|cj Z (fun h29=>?_) (fun h29=>?_)
 · simp only [dt] at h29
   have hk1:k<sh:=by omega
   obtain ⟨f,hff,hfl⟩:=hf k hk1
   refine kj<|wj<|bj<|sj [.p,.p] Z<|mj Z<|aj Z<|nl<|sj [.p,.p,.e,.e,.p,.p,.p,.p,.p] Z<|mj Z<|mj Z<|Rg.callP Z Z Z (mz Z) (shName_spec k (by omega)) ?_
   rintro _ rfl
   refine Rg.callH Z Z Z (mz Z) (fun F' hF'=>newReader_z (F:=F') (nm:=shN k) hC hD' hw' (by rw [hG.same _ (fun h=>h.elim)];exact hff) hfl) rfl ?_
   rintro _ _ ⟨pr,e,D1,g1,g2,rfl,rfl,hD1,hO1,hR1⟩
   rw [lx]
   refine mj Z<|xj Z Z<|xj Z Z<|aj Z<|aj Z<|nl<|wj<|sj [.p,.p] Z<|mj Z<|uj Z (Pv.neq Z Z)<|nl<|cj Z (fun h39=>?_) (fun h39=>?_)
   · simp only [bne_iff_ne,ne_eq] at h39
     obtain ⟨he7,hB7⟩:=hO1.bad h39
     refine sj [.p,.p,.p] Z<|mj Z<|aj Z<|aj Z<|nl ?_
     exact vr (hl':=sL++g2) rfl (.cons (.tmp rfl) (tz Z)) ⟨none,e,D1,sL,g2,rfl,rfl,hD1,hO1.wz,.inr ⟨he7,hG.dn hB7⟩⟩ pulled
   · simp only [bne_eq_false_iff_eq] at h39
     subst h39
     obtain ⟨_,hG1,_⟩:=hO1.good (by decide)
     obtain ⟨rb,rfl,hR⟩:=hR1 rfl
     refine kj<|tj [.p,.p,.p,.p,.r,.p,.p,.e,.e,.e,.p,.p,.e] Z<|mj Z<|mj Z<|nj Z<|fj Z<|lj Z Z<|mj Z<|uj Z (Pv.build (c:=#[.pointer (some ⟨rb,0,none⟩),.int .u32 0,.int .u32 0,.int .u32 0,.bool false]) Z Z) ?_
     refine Rg.box Z Z Z Z Z (fun b48=>?_)
     refine Rg.bslice1 Z Z Z Z Z Z Z (fun b49=>?_)
     refine Rg.append Z Z Z Z Z hown (ys:=[b48]) (Src.one rfl) (by simp<;>omega) (by simp [maxLen]<;>omega) rfl (fun v50 s50 own50=>?_)
     have h50:=own50.one
     refine nj Z<|fj Z ?_
     refine Rg.store Z Z Z Z Z h50 Z Z<|nl<|dj<|tj [.p,.p] Z<|uj Z (Pv.asI (k+1) (Pv.add rfl rfl (by omega)) (by omega))<|mj Z<|nl ?_
     exact Vc.inv6 (k+1) (cs++[(b48,false,L k)]) v50 D1 s50 (q1++((b48,cuO rb ⟨0,0,0⟩ false)::g1),g2) ⟨⟨by omega,by rw [List.map_append,hcs,List.range_succ,List.map_append];rfl,fun c hc=>(List.mem_append.1 hc).elim (hcb c) (fun h=>by rw [List.mem_singleton] at h;rw [h]),by rw [List.map_append];exact own50,hcu.snoc ⟨rb,⟨0,0,0⟩,false,shN k,L k,_,g1,hR,rfl,.inl ⟨rfl,rfl,fun _=>hQ k hk1⟩⟩,hD1,hO1.wz,hG.trans hG1⟩,by omega⟩ (.cons rfl (.cons rfl (.cons rfl (.cons rfl .nil)))) (by rw [lx];exact pulled)
 · simp only [df] at h29
   have hks:k=sh:=by omega
   rw [hks] at hcs
   refine Vc.exit Z<|sj [.p,.p,.p] Z<|mj Z<|aj Z<|aj Z<|nl ?_
   exact vr (hl':=(b26,swO lv (.slice pq ((bndL n sh).length-1) (ce-1)) 0 0 false)::(sL++(s17++(q1++q2)))) rfl (.cons (.tmp rfl) (tz Z)) ⟨some ⟨b26,0,none⟩,0,D',(b26,swO lv (.slice pq ((bndL n sh).length-1) (ce-1)) 0 0 false)::(sL++(s17++q1)),q2,rfl,by simp only [List.cons_append,lx],hD',hw',.inl ⟨rfl,hG,b26,cs,rfl,hcs,lv,_,sL,s17,q1,hown,hend,hcu,hcb,rfl⟩⟩ pulled
def twL (m:Nat) (l:List Rc):List Rc:=l.takeWhile fun r=>decide ((upE r).f<m)
def dwL (m:Nat) (l:List Rc):List Rc:=l.dropWhile fun r=>decide ((upE r).f<m)
theorem tw_dw (m:Nat) (l:List Rc):twL m l++dwL m l=l:=List.takeWhile_append_dropWhile
def outW (m:Nat) (cs:List (Nat×Bool×List Rc)):List Eg:=cs.flatMap fun c=>(twL m c.2.2).map upE
def nextW (m:Nat) (cs:List (Nat×Bool×List Rc)):List (Nat×Bool×List Rc):=cs.map fun c=>(c.1,true,dwL m c.2.2)
def allW (cs:List (Nat×Bool×List Rc)):List Rc:=cs.flatMap (·.2.2)
theorem allW_mem {cs:List (Nat×Bool×List Rc)} {c:Nat×Bool×List Rc} (h:c∈cs):c.2.2.length≤(allW cs).length:=by
 obtain ⟨a,b,rfl⟩:=List.append_of_mem h
 simp only [allW,List.flatMap_append,List.flatMap_cons,ly]
 omega
theorem allW_take (cs:List (Nat×Bool×List Rc)) (i:Nat):(allW (cs.take i)).length≤(allW cs).length:=by
 have h:allW cs=allW (cs.take i)++allW (cs.drop i):=by rw [allW,allW,allW,←List.flatMap_append,List.take_append_drop]
 rw [h,ly]
 omega
theorem twL_len (m:Nat) (l:List Rc):(twL m l).length≤l.length:=(List.takeWhile_sublist _).length_le
theorem outW_len (m:Nat) (cs:List (Nat×Bool×List Rc)):(outW m cs).length≤(allW cs).length:=by
 induction cs with
 | nil=>exact Nat.zero_le _
 | cons c cs ih =>
  simp only [outW,allW,List.flatMap_cons,ly,List.length_map] at ih ⊢
  have:=twL_len m c.2.2
  omega
set_option maxHeartbeats 4000000 in
theorem window_z (hC:C.Ok) {pb:Nat} {lv ev:Value} {sL sE sC:Hl} {cs:List (Nat×Bool×List Rc)} {b0:Bool} {at_ m:Nat} (hm:m≤1048576) (hlv:Own curE lv (cs.map (·.1)) sL) (hev:ev.oneCell'=true) (hcu:CusP db Q cs sC) (hb:∀c∈cs,c.2.1=b0) (hcl:cs.length<1000) (hl:(allW cs).length<50) (hI:InRs (allW cs)) (hD:DiskAt db D s2) (hw:Wz C D) (hup:D.down=false) (hQ:∀nm l,Q nm l→∃f,findF D.files nm=some f∧f.now=fileB l) :
 Spec Tryz.prog 258 #[.pointer (some ⟨pb,0,none⟩),.int .i64 (m:Int)] F ((pb,swO lv ev at_ 0 b0)::(sL++(sE++(sC++s2)))) fun v s'=>∃u e D' b' h1 h2,v=.tuple #[u,.int .i64 e]∧u.oneCell'=true∧s'=(pb,swO lv ev at_ 0 b')::(sL++(sE++(h1++h2)))∧DiskAt db D' h2∧Out C none1 (fun _=>b'=true∧∃sC' sU,h1=sC'++sU∧CusP db Q (nextW m cs) sC'∧Own edgeE u (outW m cs) sU) D 0 e D':=by
 have hlv1:=hlv.one
 obtain ⟨pl,cl,rfl⟩:=hlv.shape
 rw [List.length_map] at hlv hlv1 ⊢
 refine Spec.of (n:=60) (vs:=[.pointer (some ⟨pb,0,none⟩),.int .i64 (m:Int)]) Tryz.func258 rfl Tryz.ntmps258 rfl ?_
 refine sj [.p,.p] Z<|aj Z<|aj Z<|nl<|wj<|sj [.p,.p,.p,.r,.p,.p] Z<|mj Z<|nj Z<|fj Z<|lj Z Z<|uj Z (Pv.lenS Z)<|mj Z<|nl<|bj ?_
 refine Vc.loop5 (fun (i:Nat) (acc:Value) (sA:Hl) (D':Dk) (q:Hl×Hl)=>i≤cs.length∧Own edgeE acc (outW m (cs.take i)) sA∧CusP db Q (nextW m (cs.take i)++cs.drop i) q.1∧DiskAt db D' q.2∧Wz C D'∧Gd none1 D D') (fun i acc sA D' q=>[(4,acc),(15,.int .i64 (i:Int)),(0,.pointer (some ⟨pb,0,none⟩)),(1,.int .i64 (m:Int)),(13,.slice pl cs.length cl),(14,.int .i64 (cs.length:Int))]) (fun i acc sA D' q=>(pb,swO (.slice pl cs.length cl) ev at_ 0 b0)::(sL++(sE++(q.1++(sA++q.2))))) (fun i acc sA D' q=>cs.length-i) 0 (.slice none 0 0) [] D (sC,s2) ⟨Nat.zero_le _,.nil,hcu,hD,hw,.refl hup⟩ (.cons Z (.cons Z (.cons Z (.cons Z (.cons Z (.cons Z .nil)))))) pulled ?_
 rintro i acc sA D' ⟨q1,q2⟩ ⟨hi,hacc,hcu',hD',hw',hG⟩
 simp only at hcu' hD' ⊢
 have hac1:=hacc.one
 refine sj [.p] Z<|uj Z (Pv.lss Z Z)<|nl<|wj<|cj Z (fun h16=>?_) (fun h16=>?_)
 · simp only [dt] at h16
   have hi1:i<cs.length:=by omega
   obtain ⟨x,hx⟩:∃x,x=cs[i]'hi1:=⟨_,rfl⟩
   have hdr:cs.drop i=x::cs.drop (i+1):=by rw [hx];exact List.drop_eq_getElem_cons hi1
   have htk:cs.take (i+1)=cs.take i++[x]:=by rw [hx];exact List.take_succ_eq_append_getElem hi1
   rw [hdr] at hcu'
   obtain ⟨sx0,qx,hgx,hpx,hput⟩:=hcu'.pick
   have hxm:x∈cs:=by rw [hx];exact List.getElem_mem _
   have hxl:=allW_mem hxm
   have hxb:=hb x hxm
   have hxI:InRs x.2.2:=fun r hr=>hI r (List.mem_flatMap.2 ⟨x,hxm,hr⟩)
   have hol:=outW_len m (cs.take i)
   have hal:=allW_take cs i
   obtain ⟨rb,e0,is0,nm,rest0,fr0,s0,hR0,rfl,hst⟩:=hgx
   obtain ⟨bl,cc,sp,e,rfl,hcapl,hcml⟩:=hlv.block (by rw [List.length_map];omega)
   rw [List.length_map] at e
   simp only [Value.slice.injEq] at e
   obtain ⟨rfl,_,rfl⟩:=e
   refine Vc.perm (((((hpx.append_right (sA++q2)).append_left sE).append_left [(bl,rowS curE (cs.map (·.1)) sp)])).cons _) ?_
   rw [lx,List.cons_append]
   have hgi:(cs.map (·.1))[i]! = x.1:=by rw [getElem!_pos _ i (by rw [List.length_map];exact hi1),List.getElem_map,hx]
   refine kj<|wj<|bj<|sj [.p,.r,.p] Z<|uj Z (Pv.ixA (i) rfl rfl (by omega) (by omega))<|rj Z (Ev.as (.pointer (some ⟨x.1,0,none⟩)) (Ev.ldR (E:=curE) i rfl (Nat.zero_add _) (by rw [List.length_map];exact hi1)) (congrArg (fun b=>Value.pointer (some ⟨b,0,none⟩)) hgi))<|aj Z<|nl<|wj<|sj [.p,.p,.p,.r,.p] Z<|mj Z<|nj Z<|fj Z<|lj Z Z<|uj Z (Pv.not Z) ?_
   refine nl<|Vc.cut3 (fun (D2:Dk) (sx qd:Hl)=>CuG db Q x.1 true x.2.2 sx∧DiskAt db D2 qd∧Wz C D2∧Gd none1 D D2) (fun D2 sx qd=>[(4,acc),(7,.pointer (some ⟨x.1,0,none⟩)),(15,.int .i64 (i:Int)),(0,.pointer (some ⟨pb,0,none⟩)),(1,.int .i64 (m:Int)),(13,.slice (some ⟨bl,0,none⟩) cs.length cl),(14,.int .i64 (cs.length:Int))]) (fun D2 sx qd=>(pb,swO (.slice (some ⟨bl,0,none⟩) cs.length cl) ev at_ 0 b0)::(bl,rowS curE (cs.map (·.1)) sp)::(sE++(sx++(qx++(sA++qd))))) ?_ ?_
   · refine cj Z (fun h23=>?_) (fun h23=>?_)
     · obtain ⟨_,rfl,hfr⟩:=hst.resolve_right (fun h=>by rw [hxb] at h;rw [h.1] at h23;cases h23)
       refine sj [.p,.e,.p] Z<|mj Z<|Rg.callH Z Z Z (mz Z) (fun F' hF'=>moves_z (F:=F') (Q:=Q) (cb:=x.1) (e0:=e0) (is0:=is0) hC hR0 (by omega) hxI hD' hw' hG.up (fun h=>by obtain ⟨f,h1,h2⟩:=hQ _ _ (hfr h);exact ⟨f,by rw [hG.same _ (fun h=>h.elim)];exact h1,h2⟩)) rfl ?_
       rintro _ _ ⟨e,D2,g1,g2,rfl,rfl,hD2,hO2⟩
       rw [lx]
       refine aj Z<|nl<|sj [.p,.p] Z<|mj Z<|uj Z (Pv.neq Z Z)<|nl<|cj Z (fun h27=>?_) (fun h27=>?_)
       · simp only [bne_iff_ne,ne_eq] at h27
         obtain ⟨he7,hB7⟩:=hO2.bad h27
         refine sj [.p,.p,.p] Z<|mj Z<|aj Z<|aj Z<|nl ?_
         exact vr (hl':=(pb,swO (.slice (some ⟨bl,0,none⟩) cs.length cl) ev at_ 0 b0)::(bl,rowS curE (cs.map (·.1)) sp)::(sE++g2)) rfl (.cons (.tmp rfl) (tz Z)) ⟨.slice none 0 0,e,D2,b0,[],g2,rfl,rfl,rfl,hD2,hO2.wz,.inr ⟨he7,hG.dn hB7⟩⟩ pulled
       · simp only [bne_eq_false_iff_eq] at h27
         subst h27
         obtain ⟨_,hG2,hcu2⟩:=hO2.good (by decide)
         refine kj ?_
         exact Vc.inv3 D2 g1 g2 ⟨hcu2,hD2,hO2.wz,hG.trans hG2⟩ (.cons rfl (.cons rfl (.cons rfl (.cons rfl (.cons rfl (.cons rfl (.cons rfl .nil))))))) pulled
     · obtain ⟨_,rfl,hcase⟩:=hst.resolve_left (fun h=>by rw [hxb] at h;rw [h.1] at h23;cases h23)
       refine kj ?_
       exact Vc.inv3 D' ((x.1,cuO rb e0 is0)::s0) q2 ⟨⟨rb,e0,is0,nm,rest0,false,s0,hR0,rfl,.inr ⟨rfl,rfl,hcase⟩⟩,hD',hw',hG⟩ (.cons rfl (.cons rfl (.cons rfl (.cons rfl (.cons rfl (.cons rfl (.cons rfl .nil))))))) pulled
   · clear hR0 hst hD' hw' hG hpx
     rintro D2 sx qd ⟨hcu2,hD2,hw2,hG2⟩
     refine bj ?_
     refine Vc.loop6 (fun (l' taken:List Rc) (acc:Value) (sA:Hl) (D2:Dk) (q:Hl×Hl)=>CuG db Q x.1 true l' q.1∧Own edgeE acc (outW m (cs.take i)++taken.map upE) sA∧twL m x.2.2=taken++twL m l'∧dwL m x.2.2=dwL m l'∧DiskAt db D2 q.2∧Wz C D2∧Gd none1 D D2∧taken.length+l'.length≤x.2.2.length∧InRs l') (fun l' taken acc sA D2 q=>[(4,acc),(7,.pointer (some ⟨x.1,0,none⟩)),(15,.int .i64 (i:Int)),(0,.pointer (some ⟨pb,0,none⟩)),(1,.int .i64 (m:Int)),(13,.slice (some ⟨bl,0,none⟩) cs.length cl),(14,.int .i64 (cs.length:Int))]) (fun l' taken acc sA D2 q=>(pb,swO (.slice (some ⟨bl,0,none⟩) cs.length cl) ev at_ 0 b0)::(bl,rowS curE (cs.map (·.1)) sp)::(sE++(q.1++(qx++(sA++q.2))))) (fun l' taken acc sA D2 q=>l'.length) x.2.2 [] acc sA D2 (sx,qd) ⟨hcu2,by rw [List.map_nil,List.append_nil];exact hacc,rfl,rfl,hD2,hw2,hG2,by simp,hxI⟩ (.cons rfl (.cons rfl (.cons rfl (.cons rfl (.cons rfl (.cons rfl (.cons rfl .nil))))))) pulled ?_
     clear hcu2 hD2 hw2 hG2 hacc hac1
     rintro l' taken acc sA D2 ⟨sx,qd⟩ ⟨hcu2,hacc,htw,hdw,hD2,hw2,hG2,htl,hIl⟩
     simp only at hcu2 hD2 ⊢
     have hac1:=hacc.one
     obtain ⟨pa,ca,rfl⟩:=hacc.shape
     obtain ⟨rb,e,is,nm,rest,fr,s0,hR,rfl,hst⟩:=hcu2
     obtain ⟨_,rfl,hcase⟩:=hst.resolve_left (fun h=>by cases h.1)
     refine wj<|sj [.p,.p,.p,.r,.p,.p,.p,.p,.p,.r,.p,.p,.p,.p] Z<|mj Z<|nj Z<|fj Z<|lj Z Z<|mj Z ?_
     refine Rg.split (t:=33) Z (fun h33=>?_) (fun h33=>?_)
     · obtain ⟨_,r,hlr,he⟩:=hcase.resolve_left (fun h=>by rw [h.1] at h33;cases h33)
       have hInr:InE (upE r):=upE_in r (hIl r (by rw [hlr];simp))
       rw [←he] at hInr
       have hlr2:=congrArg List.length hlr
       rw [List.length_cons] at hlr2
       refine mj Z<|nj Z<|fj Z<|fj Z<|lj Z Z<|uj Z (Pv.asI e.f (Pv.convI rfl) (i64_wrap (by have:=hInr.1;omega)))<|mj Z<|uj Z (Pv.lss Z Z)<|qj Z Z<|nl<|cj Z (fun h42=>?_) (fun h42=>?_)
       · simp only [dt] at h42
         have hfm:(upE r).f<m:=by rw [←he];omega
         have htw1:twL m l'=r::twL m rest:=by rw [hlr];simp only [twL,List.takeWhile_cons,decide_eq_true hfm,if_true]
         have hdw1:dwL m l'=dwL m rest:=by rw [hlr];simp only [dwL,List.dropWhile_cons,decide_eq_true hfm,if_true]
         refine kj<|bj<|sj [.p,.p,.p,.p,.r,.e,.e,.p] Z<|mj Z<|mj Z<|nj Z<|fj Z<|rj Z (Ev.as (egV e) (Ev.ldA Z Z) Z) ?_
         refine Rg.bslice1 Z Z Z Z Z Z Z (fun b48=>?_)
         refine Rg.append Z Z Z Z Z hacc (ys:=[e]) (Src.one rfl) (by simp<;>omega) (by simp [maxLen]<;>omega) rfl (fun v49 s49 own49=>?_)
         refine aj Z<|nl<|sj [.p,.e,.p] Z<|mj Z<|Rg.callH Z Z Z (mz Z) (fun F' hF'=>moves_z (F:=F') (Q:=Q) (cb:=x.1) (e0:=e) (is0:=is) hC hR (by omega) (fun r' h'=>hIl r' (by rw [hlr];simp [h'])) hD2 hw2 hG2.up (fun h=>by cases h)) rfl ?_
         rintro _ _ ⟨e3,D3,g1,g2,rfl,rfl,hD3,hO3⟩
         rw [lx]
         refine aj Z<|nl<|sj [.p,.p] Z<|mj Z<|uj Z (Pv.neq Z Z)<|nl<|cj Z (fun h53=>?_) (fun h53=>?_)
         · simp only [bne_iff_ne,ne_eq] at h53
           obtain ⟨he7,hB7⟩:=hO3.bad h53
           refine sj [.p,.p,.p] Z<|mj Z<|aj Z<|aj Z<|nl ?_
           exact vr (hl':=(pb,swO (.slice (some ⟨bl,0,none⟩) cs.length cl) ev at_ 0 b0)::(bl,rowS curE (cs.map (·.1)) sp)::(sE++g2)) rfl (.cons (.tmp rfl) (tz Z)) ⟨.slice none 0 0,e3,D3,b0,[],g2,rfl,rfl,rfl,hD3,hO3.wz,.inr ⟨he7,hG2.dn hB7⟩⟩ pulled
         · simp only [bne_eq_false_iff_eq] at h53
           subst h53
           obtain ⟨_,hG3,hcu3⟩:=hO3.good (by decide)
           refine kj<|dj ?_
           exact Vc.inv6 rest (taken++[r]) v49 s49 D3 (g1,g2) ⟨⟨hcu3,by rw [List.map_append,←lx,List.map_cons,←he];exact own49,by rw [htw,htw1,lx,List.singleton_append],by rw [hdw,hdw1],hD3,hO3.wz,hG2.trans hG3,by rw [ly,List.length_singleton];omega,fun r' h'=>hIl r' (by rw [hlr];simp [h'])⟩,by omega⟩ (.cons rfl (.cons rfl (.cons rfl (.cons rfl (.cons rfl (.cons rfl (.cons rfl .nil))))))) pulled
       · simp only [df] at h42
         have hfm : ¬(upE r).f<m:=by rw [←he];omega
         have htw0:twL m l'=[]:=by rw [hlr];simp only [twL,List.takeWhile_cons,decide_eq_false hfm];rfl
         have hdw0:dwL m l'=l':=by rw [hlr];simp only [dwL,List.dropWhile_cons,decide_eq_false hfm];rfl
         refine Vc.exit Z<|dj<|tj [.p,.p] Z<|uj Z (Pv.asI (i+1) (Pv.add rfl rfl (by omega)) (by omega))<|mj Z<|nl ?_
         exact Vc.inv5 (i+1) _ sA D2 (((x.1,cuO rb e is)::s0)++qx,qd) ⟨⟨by omega,by rw [htk,show outW m (cs.take i++[x])=outW m (cs.take i)++(twL m x.2.2).map upE by simp [outW],htw,htw0,List.append_nil];exact hacc,by rw [htk,show nextW m (cs.take i++[x])=nextW m (cs.take i)++[(x.1,true,dwL m x.2.2)] by simp [nextW],hdw,hdw0,lx,List.singleton_append];exact hput _ _ _ ⟨rb,e,is,nm,rest,false,s0,hR,rfl,.inr ⟨rfl,rfl,hcase⟩⟩,hD2,hw2,hG2⟩,by omega⟩ (.cons rfl (.cons rfl (.cons rfl (.cons rfl (.cons rfl (.cons rfl .nil)))))) (by rw [lx];exact pulled)
     · obtain ⟨_,hlr⟩:=hcase.resolve_right (fun h=>by rw [h.1] at h33;cases h33)
       have htw0:twL m l'=[]:=by rw [hlr];rfl
       have hdw0:dwL m l'=l':=by rw [hlr];rfl
       iterate 8 (first | refine Rg.skipP rfl rfl rfl ?_ | refine Rg.skipR rfl rfl rfl ?_ | refine Rg.skipE rfl rfl rfl ?_)
       refine pj Z Z<|nl<|Vc.condF Z<|Vc.exit Z<|dj<|tj [.p,.p] Z<|uj Z (Pv.asI (i+1) (Pv.add rfl rfl (by omega)) (by omega))<|mj Z<|nl ?_
       exact Vc.inv5 (i+1) _ sA D2 (((x.1,cuO rb e is)::s0)++qx,qd) ⟨⟨by omega,by rw [htk,show outW m (cs.take i++[x])=outW m (cs.take i)++(twL m x.2.2).map upE by simp [outW],htw,htw0,List.append_nil];exact hacc,by rw [htk,show nextW m (cs.take i++[x])=nextW m (cs.take i)++[(x.1,true,dwL m x.2.2)] by simp [nextW],hdw,hdw0,lx,List.singleton_append];exact hput _ _ _ ⟨rb,e,is,nm,rest,false,s0,hR,rfl,.inr ⟨rfl,rfl,hcase⟩⟩,hD2,hw2,hG2⟩,by omega⟩ (.cons rfl (.cons rfl (.cons rfl (.cons rfl (.cons rfl (.cons rfl .nil)))))) (by rw [lx];exact pulled)
 · simp only [df] at h16
   obtain rfl:i=cs.length:=by omega
   rw [List.take_length] at hacc
   rw [List.take_length,List.drop_length,List.append_nil] at hcu'
   refine Vc.exit Z<|sj [.p,.p,.p,.e] Z<|mj Z<|nj Z<|fj Z ?_
   refine Rg.store Z Z Z Z Z Z Z Z<|nl<|sj [.p,.p,.p] Z<|mj Z<|aj Z<|aj Z<|nl ?_
   exact vr (hl':=(pb,swO (.slice pl cs.length cl) ev at_ 0 true)::(sL++(sE++((q1++sA)++q2)))) rfl (.cons (.tmp rfl) (tz Z)) ⟨acc,0,D',true,q1++sA,q2,rfl,hac1,rfl,hD',hw',.inl ⟨rfl,hG,rfl,q1,sA,rfl,hcu',hacc⟩⟩ (by rw [lx];exact pulled)
set_option maxHeartbeats 2000000 in
theorem sweepNext_z (hC:C.Ok) {n sh pb at_:Nat} (hn:n≤1048576) (h1:1≤sh) (h2:sh<100) {cs:List (Nat×Bool×List Rc)} {b0:Bool} (hS:SwAt db Q n sh pb cs at_ b0 s1) (ha:at_≤sh) (hcl:cs.length<1000) (hl:(allW cs).length<50) (hI:InRs (allW cs)) (hD:DiskAt db D s2) (hw:Wz C D) (hup:D.down=false) (hQ:∀nm l,Q nm l→∃f,findF D.files nm=some f∧f.now=fileB l) :
 Spec Tryz.prog 238 #[.pointer (some ⟨pb,0,none⟩)] F (s1++s2) fun v s'=>∃u is e D' h1 h2,v=.tuple #[u,.bool is,.int .i64 e]∧u.oneCell'=true∧s'=h1++h2∧DiskAt db D' h2∧Out C none1 (fun _=>(at_=sh∧is=false)∨(at_<sh∧is=true∧∃sS sU,h1=sS++sU∧SwAt db Q n sh pb (nextW (bnd n sh (at_+1)) cs) (at_+1) true sS∧Own edgeE u (outW (bnd n sh (at_+1)) cs) sU)) D 0 e D':=by
 obtain ⟨lv,ev,sL,sE,sC,hlv,hend,hcu,hb,rfl⟩:=hS
 have hlv1:=hlv.one
 have hev1:=hend.one
 have hel:((bndL n sh).drop 1).length=sh:=by rw [List.length_drop];simp [bndL]
 obtain ⟨pe,ce,rfl⟩:=hend.shape
 rw [hel] at hend hev1 ⊢
 have harg:Arg intE (frz F sE) (.slice pe sh ce) ((bndL n sh).drop 1):=Arg.tl hend fun b o hb=>.inl hb
 obtain ⟨bE,oE,cE,e,_⟩:=harg.block (by omega)
 rw [hel] at e
 simp only [Value.slice.injEq] at e
 obtain ⟨rfl,_,rfl⟩:=e
 rw [List.cons_append,lx,lx]
 refine Spec.of (n:=61) (vs:=[.pointer (some ⟨pb,0,none⟩)]) Tryz.func238 rfl Tryz.ntmps238 rfl ?_
 refine sj [.p,.p,.p] Z<|aj Z<|aj Z<|aj Z<|nl<|wj<|wj ?_
 refine Vc.draw [] (sd [(0,.pure),(1,.pure),(2,.pure),(3,.read),(4,.pure),(5,.pure),(6,.pure),(7,.pure),(8,.pure),(9,.read),(10,.pure),(11,.pure),(12,.pure),(13,.read),(14,.pure),(15,.pure),(16,.pure)]) mixed (by kernel_rfl)<|mj Z<|nj Z<|fj Z<|lj Z Z<|uj Z (Pv.neq Z Z)<|mj Z ?_
 refine Rg.split (t:=10) rfl (fun h10=>absurd h10 (by decide)) (fun h10=>?_)
 refine mj Z<|nj Z<|fj Z<|lj Z Z<|mj Z<|nj Z<|fj Z<|lj Z Z<|uj Z (Pv.lenS Z)<|uj Z (Pv.eql Z Z)<|pj Z Z<|nl<|cj Z (fun h21=>?_) (fun h21=>?_)
 · simp only [beq_iff_eq] at h21
   have hat:at_=sh:=by omega
   refine wj ?_
   refine Vc.draw [] (sd [(0,.pure),(1,.pure),(2,.pure),(3,.read),(4,.pure),(5,.pure),(6,.pure)]) mixed (by kernel_rfl)<|mj Z<|nj Z<|fj Z<|lj Z Z<|aj Z<|aj Z<|aj Z<|nl ?_
   exact vr (hl':=(pb,swO lv (.slice (some ⟨bE,oE,none⟩) sh ce) at_ 0 b0)::(sL++(sE++(sC++s2)))) rfl (.cons (.tmp rfl) (.cons (.tmp rfl) (tz Z))) ⟨.slice none 0 0,false,0,D,(pb,swO lv (.slice (some ⟨bE,oE,none⟩) sh ce) at_ 0 b0)::(sL++(sE++sC)),s2,rfl,rfl,by simp only [List.cons_append,lx],hD,hw,.inl ⟨rfl,.refl hup,.inl ⟨hat,rfl⟩⟩⟩ pulled
 · simp only [beq_eq_false_iff_ne,ne_eq] at h21
   have hat:at_<sh:=by omega
   have hget:((bndL n sh).drop 1)[at_]! = ((bnd n sh (at_+1):Nat):Int):=by
    rw [getElem!_pos _ at_ (by omega),List.getElem_drop]
    simp only [bndL,List.getElem_map,List.getElem_range]
    rw [Nat.add_comm]
   have hbn:bnd n sh (at_+1)≤n:=by
    have:=bnd_mono (n:=n) (sh:=sh) (i:=at_+1) (j:=sh) (by omega)
    rw [bnd_top (by omega)] at this
    exact this
   refine kj<|wj<|wj ?_
   refine Vc.draw [12,19] (sd [(0,.pure),(1,.pure),(2,.pure),(3,.pure),(4,.pure),(5,.read),(6,.pure),(7,.pure),(8,.pure),(9,.read),(10,.pure),(11,.read),(12,.eff),(13,.pure),(14,.pure),(15,.pure),(16,.pure),(17,.pure),(18,.pure),(19,.eff)]) mixed (by kernel_rfl)<|mj Z<|mj Z<|mj Z<|nj Z<|fj Z<|lj Z Z<|mj Z<|nj Z<|fj Z<|lj Z Z<|uj Z (Pv.ixA (at_) rfl rfl (by omega) (by omega))<|rj Z (Ev.as (.int .i64 ((bnd n sh (at_+1):Nat):Int)) (Ev.ldS (E:=intE) at_ (Arg.srcF (s:=sE) harg) rfl rfl rfl (by omega)) (congrArg (Value.int .i64) hget)) ?_
   refine Rg.callH Z Z Z (mz Z) (fun F' hF'=>window_z (F:=F') (Q:=Q) (sE:=sE) (at_:=at_) (m:=bnd n sh (at_+1)) hC (by omega) hlv hev1 hcu hb hcl hl hI hD hw hup hQ) rfl ?_
   rintro _ _ ⟨u,e,D1,b1,g1,g2,rfl,hu1,rfl,hD1,hO⟩
   rw [List.append_nil]
   refine mj Z<|xj Z Z<|xj Z Z<|aj Z<|nj Z<|fj Z ?_
   refine Rg.store Z Z Z Z Z Z Z Z<|nl<|sj [.p,.p,.p,.r,.p] Z<|mj Z<|nj Z<|fj Z<|lj Z Z<|uj Z (Pv.neq Z Z)<|nl<|cj Z (fun h48=>?_) (fun h48=>?_)
   · simp only [bne_iff_ne,ne_eq] at h48
     obtain ⟨he7,hB7⟩:=hO.bad h48
     refine wj ?_
     refine Vc.draw [] (sd [(0,.pure),(1,.pure),(2,.pure),(3,.read),(4,.pure),(5,.pure),(6,.pure)]) mixed (by kernel_rfl)<|mj Z<|nj Z<|fj Z<|lj Z Z<|aj Z<|aj Z<|aj Z<|nl ?_
     exact vr (hl':=g1++g2) rfl (.cons (.tmp rfl) (.cons (.tmp rfl) (tz Z))) ⟨.slice none 0 0,false,e,D1,g1,g2,rfl,rfl,rfl,hD1,hO.wz,.inr ⟨he7,hB7⟩⟩ pulled
   · simp only [bne_eq_false_iff_eq] at h48
     subst h48
     obtain ⟨_,hG,rfl,sC',sU,rfl,hcu',hU⟩:=hO.good (by decide)
     refine kj<|sj [.p,.p,.p,.r,.p,.p,.p,.e] Z<|mj Z<|nj Z<|fj Z<|lj Z Z<|uj Z (Pv.asI (at_+1) (Pv.add rfl rfl (by omega)) (by omega))<|nj Z<|fj Z ?_
     refine Rg.store Z Z Z Z Z Z Z Z<|nl<|sj [.p,.p,.p,.p] Z<|mj Z<|aj Z<|aj Z<|aj Z<|nl ?_
     exact vr (hl':=(pb,swO lv (.slice (some ⟨bE,oE,none⟩) sh ce) (at_+1) 0 true)::(sL++(sE++(sC'++(sU++g2))))) rfl (.cons (.tmp rfl) (.cons (.tmp rfl) (tz Z))) ⟨u,true,0,D1,((pb,swO lv (.slice (some ⟨bE,oE,none⟩) sh ce) (at_+1) 0 true)::(sL++(sE++sC')))++sU,g2,rfl,hu1,by simp only [List.cons_append,lx],hD1,hO.wz,.inl ⟨rfl,hG,.inr ⟨hat,rfl,_,sU,rfl,⟨lv,.slice (some ⟨bE,oE,none⟩) sh ce,sL,sE,sC',by rw [nextW,List.map_map];exact hlv,hend,hcu',fun c hc=>by obtain ⟨d,_,rfl⟩:=List.mem_map.1 hc;rfl,rfl⟩,hU⟩⟩⟩ (by rw [lx] at *; exact pulled)
end
end Go.Proofs.YtkpiakgmkpbikaaGreatDoor
namespace Go.Proofs.YtkpiakgmkpbikaaGreatDoor
set_option linter.unusedSectionVars false
open Go.MapKept (IsKey run_keyThatStays run_setObj_map)
def updM {κ:Type} [DecidableEq κ] (ms:List (Me κ)) (k:κ) (v:Value) (clock:Nat):List (Me κ) :=
 if (findM ms k).isSome then ms.map fun m=>if m.k=k then ⟨m.k,v,m.born⟩ else m else ms++[⟨k,v,clock⟩]
def updC {κ:Type} [DecidableEq κ] (ms:List (Me κ)) (k:κ) (clock:Nat):Nat:=if (findM ms k).isSome then clock else clock+1
section
variable {P : Program} {κ : Type} [DecidableEq κ] {kv : κ → Value} {kt : TypeId}
variable {n : Nf} {F : Fm} {l : Env} {hl : Hl} {ty : TypeId} {pos : String} {af : Array Edge} {g : Option (Nat × Bool)} {d : Option Tmp}
theorem modify_upd {ms:List (Me κ)} {j:Nat} {m:Me κ} (hn:(ms.map (·.k)).Nodup) (hm:ms[j]? = some m) (v:Value):ms.modify j (fun e=>⟨e.k,v,e.born⟩)=ms.map fun e=>if e.k=m.k then ⟨e.k,v,e.born⟩ else e:=by
 induction ms generalizing j with
 | nil=>simp at hm
 | cons x ms ih =>
  rw [List.map_cons,List.nodup_cons] at hn
  cases j with
  | zero =>
   simp only [List.getElem?_cons_zero,Option.some.injEq] at hm
   subst hm
   rw [List.modify_zero_cons,List.map_cons,if_pos rfl]
   congr 1
   conv=>lhs;rw [←List.map_id ms]
   refine List.map_congr_left fun y hy=>?_
   rw [if_neg fun e=>hn.1 (List.mem_map.2 ⟨y,hy,e⟩)]
   rfl
  | succ j =>
   simp only [List.getElem?_cons_succ] at hm
   have hne:x.k≠m.k:=fun e=>hn.1 (List.mem_map.2 ⟨m,List.mem_of_getElem? hm,e.symm⟩)
   rw [List.modify_succ_cons,ih hn.2 hm,List.map_cons,if_neg hne]
theorem Ev.lookup2 {t e b clock:Nat} {x y:Operand} {ms:List (Me κ)} {k:κ} {z:Value} [ht:TyUnder P t (.map kt e)] [h:KeyTy P kt kv] [hz:TyZero P e z] (hx:ev l x=some (.map (some b))) (hy:ev l y=some (kv k)) [hb:Has F hl b (mapO kv ms clock)]
 (hn:(ms.map (·.k)).Nodup):Ev P n F l hl ⟨d,.lookup t x y true,ty,pos,af,g⟩ (.tuple #[((findM ms k).map (·.v)).getD z,.bool (findM ms k).isSome]):=fun a w hf hs=>by
 have h1:=hb.st hs
 have h2:(getObj b).run P w=.ok (mapO kv ms clock) w:=Go.MapKept.run_getObj_map h1
 rcases run_find (P:=P) (kt:=kt) (kv:=kv) ms k w hn with ⟨h3,_,h4⟩ | ⟨j,m,h3,_,_,h4⟩
 · simp [execOp,hf.ev hx,hf.ev hy,Instr.lookup,run_underlying ht.under,h2,mapO,run_check,h4,hz.zero,h3]
 · simp [execOp,hf.ev hx,hf.ev hy,Instr.lookup,run_underlying ht.under,h2,mapO,run_check,h4,h3]
variable {Qf : Exit → Act → World → Prop} {ks : List KItem} {ops : List Oper} {clr : List Nat} {hs : Hl} {r : Sd} {i : Nat}
theorem Rg.mapUpd {t e b clock:Nat} {x y z:Operand} {ms:List (Me κ)} {k:κ} {v:Value} {put:Obj→Hl} {dk:TypeDesc} [ht:TyUnder P t (.map kt e)] [h:KeyTy P kt kv] (ho:nth ops i=some ⟨d,.mapUpdate t x y z,ty,pos,af,g⟩) (hg:wantB ops l g=some true) (hd:d=none)
 (hx:ev l x=some (.map (some b))) (hy:ev l y=some (kv k)) (hz:ev l z=some v) [hb:Lens hl b (mapO kv ms clock) put] (hik:IsKey dk (kv k)) (hn:(ms.map (·.k)).Nodup) (hclr:clr.contains i=true)
 (hc:Rg P Qf n F ks ops clr (put (mapO kv (updM ms k v clock) (updC ms k clock))) r l (put (mapO kv (updM ms k v clock) (updC ms k clock)))):Rg P Qf n F ks ops clr hs (.st i .eff r) l hl :=
 Rg.run ho hg fun a w hf hh=>by
  subst hd
  have h1:=hh.own b _ hb.mem
  have h2:(getObj b).run P w=.ok (mapO kv ms clock) w:=Go.MapKept.run_getObj_map h1
  rcases run_find (P:=P) (kt:=kt) (kv:=kv) ms k w hn with ⟨h3,_,h4⟩ | ⟨j,m,h3,hm,hk,h4⟩
  · have e1:updM ms k v clock=ms++[⟨k,v,clock⟩]:=by rw [updM,h3];rfl
    have e2:updC ms k clock=clock+1:=by rw [updC,h3];rfl
    rw [e1,e2] at hc
    have h5:(setObj b (mapO kv (ms++[⟨k,v,clock⟩]) (clock+1))).run P w=.ok () (putB w b (mapO kv (ms++[⟨k,v,clock⟩]) (clock+1))):=run_setObj_map _ h1
    simp only [mapO,List.map_append,List.map_cons,List.map_nil] at h5
    exact ⟨putB w b (mapO kv (ms++[⟨k,v,clock⟩]) (clock+1)),l,_,_,.inr ⟨by simp [execOp,hf.ev hx,hf.ev hy,hf.ev hz,Instr.mapUpdate,run_underlying ht.under,h2,mapO,run_check,h4,h5],hf⟩,hb.putB hh _,(hb.putB hh _).st,.inl hclr,hc⟩
  · have e1:updM ms k v clock=ms.map fun e=>if e.k=k then ⟨e.k,v,e.born⟩ else e:=by rw [updM,h3];rfl
    have e2:updC ms k clock=clock:=by rw [updC,h3];rfl
    rw [e1,e2] at hc
    have h6:(ms.map (ent kv)).modify j (fun e=>{ e with key:=kv k,val:=v })=(ms.map fun e=>if e.k=k then ⟨e.k,v,e.born⟩ else e).map (ent kv):=by
     rw [←hk,←modify_upd hn hm v]
     apply List.ext_getElem?
     intro q
     rw [List.getElem?_modify,List.getElem?_map,List.getElem?_map,List.getElem?_modify]
     by_cases hq:j=q
     · subst hq
       rw [hm]
       simp [ent]
     · cases ms[q]? <;> simp [hq]
    have h5:(setObj b (mapO kv (ms.map fun e=>if e.k=k then ⟨e.k,v,e.born⟩ else e) clock)).run P w=.ok () (putB w b (mapO kv (ms.map fun e=>if e.k=k then ⟨e.k,v,e.born⟩ else e) clock)):=run_setObj_map _ h1
    have h7:((ms.map (ent kv)).toArray[j]?).map (·.key)=some (kv k):=by
     rw [List.getElem?_toArray,List.getElem?_map,hm]
     simp [ent,hk]
    have h8:(ms.map (ent kv)).toArray.modify j (fun e=>{ e with key:=kv k,val:=v })=((ms.map fun e=>if e.k=k then ⟨e.k,v,e.born⟩ else e).map (ent kv)).toArray:=by
     rw [←h6]
     simp
    have hkt:=run_keyThatStays (P:=P) (w:=w) hik
    simp only [mapO] at h5
    refine ⟨putB w b (mapO kv (ms.map fun e=>if e.k=k then ⟨e.k,v,e.born⟩ else e) clock),l,_,_,.inr ⟨?_,hf⟩,hb.putB hh _,(hb.putB hh _).st,.inl hclr,hc⟩
    simp only [execOp,hf.ev hx,hf.ev hy,hf.ev hz,Instr.mapUpdate,run_underlying ht.under,h2,mapO,run_check,h4,h7,Option.getD_some,hkt,h8,h5,Sem.run_bind,Sem.run_pure,Result.andThen_ok]
theorem Rg.clearM {t e b clock:Nat} {x:Operand} {ms:List (Me κ)} {put:Obj→Hl} [ht:TyUnder P t (.map kt e)] (ho:nth ops i=some ⟨d,.call { callee:=.builtin .clear,args:=#[x],argTypes:=#[t] },ty,pos,af,g⟩) (hg:wantB ops l g=some true) (hd:d=none)
 (hx:ev l x=some (.map (some b))) [hb:Lens hl b (mapO kv ms clock) put] (hclr:clr.contains i=true)
 (hc:Rg P Qf n F ks ops clr (put (mapO kv [] clock)) r l (put (mapO kv [] clock))):Rg P Qf n F ks ops clr hs (.st i .eff r) l hl :=
 Rg.run ho hg fun a w hf hh=>by
  subst hd
  have h1:=hh.own b _ hb.mem
  have h2:(getObj b).run P w=.ok (mapO kv ms clock) w:=Go.MapKept.run_getObj_map h1
  have h5:(setObj b (mapO kv ([]:List (Me κ)) clock)).run P w=.ok () (putB w b (mapO kv ([]:List (Me κ)) clock)):=run_setObj_map _ h1
  simp only [mapO,List.map_nil] at h5
  exact ⟨putB w b (mapO kv [] clock),l,_,_,.inl ⟨.tuple #[],by simp [execOp,resolve,invoke,builtin,hf.ev hx,Builtin.clear_,run_underlying ht.under,h2,mapO,h5],hf.putNone _⟩,hb.putB hh _,(hb.putB hh _).st,.inl hclr,hc⟩
end
end Go.Proofs.YtkpiakgmkpbikaaGreatDoor
namespace Go.Proofs.YtkpiakgmkpbikaaGreatDoor
def kU (z:Int):Value:=.int .u64 z
instance : KeyTy Tryz.prog 36 kU:=KeyTy.of ⟨.int .u64,Tryz.underlying36,fun _=>rfl⟩ (fun a b h=>by simpa [kU] using h)
def recM (m:Me Int):Rc:=⟨m.k,match m.v with | .int _ z=>z | _=>0⟩
structure MpR (ms:List (Me Int)) (mc:Nat) (rs:List Rc):Prop where
 rs:rs=ms.map recM
 vals:∀m∈ms,m.v=.int .u64 (recM m).val
 nk:(ms.map (·.k)).Nodup
 nb:(ms.map (·.born)).Nodup
 old:∀m∈ms,m.born<mc
def updR (rs:List Rc) (k v:Int):List Rc:=if rs.any (fun r=>decide (r.key=k))=true then rs.map (fun r=>if r.key=k then ⟨r.key,v⟩ else r) else rs++[⟨k,v⟩]
theorem recM_key (m:Me Int):(recM m).key=m.k:=rfl
theorem find_any0 (k:Int):∀ms:List (Me Int),(findM ms k).isSome=(ms.map recM).any fun r=>decide (r.key=k)
 | []=>rfl
 | m::ms=>by
  have ih:=find_any0 k ms
  unfold findM at ih ⊢
  rw [List.find?_cons,List.map_cons,List.any_cons,recM_key]
  by_cases e:m.k=k
  · rw [decide_eq_true e];rfl
  · rw [decide_eq_false e,Bool.false_or];exact ih
theorem find_any {ms:List (Me Int)} {mc:Nat} {rs:List Rc} (h:MpR ms mc rs) (k:Int):(findM ms k).isSome=rs.any fun r=>decide (r.key=k):=by
 rw [h.rs];exact find_any0 k ms
theorem MpR.upd {ms:List (Me Int)} {mc:Nat} {rs:List Rc} (h:MpR ms mc rs) (k v:Int):MpR (updM ms k (.int .u64 v) mc) (updC ms k mc) (updR rs k v):=by
 have hfa:=find_any h k
 by_cases hs:(findM ms k).isSome=true
 · have e1:updM ms k (.int .u64 v) mc=ms.map fun m=>if m.k=k then ⟨m.k,.int .u64 v,m.born⟩ else m:=by rw [updM,if_pos hs]
   have e2:updC ms k mc=mc:=by rw [updC,if_pos hs]
   have e3:updR rs k v=rs.map (fun r=>if r.key=k then ⟨r.key,v⟩ else r):=by rw [updR,if_pos (by rw [←hfa];exact hs)]
   have hk:(ms.map fun m=>if m.k=k then (⟨m.k,.int .u64 v,m.born⟩:Me Int) else m).map (·.k)=ms.map (·.k):=by
    rw [List.map_map];refine List.map_congr_left fun m _=>?_
    simp only [Function.comp];split<;>rfl
   have hb:(ms.map fun m=>if m.k=k then (⟨m.k,.int .u64 v,m.born⟩:Me Int) else m).map (·.born)=ms.map (·.born):=by
    rw [List.map_map];refine List.map_congr_left fun m _=>?_
    simp only [Function.comp];split<;>rfl
   rw [e1,e2,e3]
   refine ⟨?_,fun m hm=>?_,by rw [hk];exact h.nk,by rw [hb];exact h.nb,fun m hm=>?_⟩
   · rw [h.rs,List.map_map,List.map_map]
     refine List.map_congr_left fun m _=>?_
     simp only [Function.comp]
     by_cases e:m.k=k
     · rw [if_pos e,if_pos (by rw [recM_key];exact e)];rfl
     · rw [if_neg e,if_neg (by rw [recM_key];exact e)]
   · obtain ⟨x,hx,rfl⟩:=List.mem_map.1 hm
     by_cases e:x.k=k
     · rw [if_pos e];rfl
     · rw [if_neg e];exact h.vals x hx
   · obtain ⟨x,hx,rfl⟩:=List.mem_map.1 hm
     have:=h.old x hx
     split<;>exact this
 · have e1:updM ms k (.int .u64 v) mc=ms++[⟨k,.int .u64 v,mc⟩]:=by rw [updM,if_neg hs]
   have e2:updC ms k mc=mc+1:=by rw [updC,if_neg hs]
   have e3:updR rs k v=rs++[⟨k,v⟩]:=by rw [updR,if_neg (by rw [←hfa];exact hs)]
   have hno:findM ms k=none:=by cases hf:findM ms k with | none=>rfl | some m=>rw [hf] at hs;exact absurd rfl hs
   rw [e1,e2,e3]
   refine ⟨?_,fun m hm=>?_,?_,?_,fun m hm=>?_⟩
   · rw [List.map_append,h.rs];rfl
   · rcases List.mem_append.1 hm with hm | hm
     · exact h.vals m hm
     · rw [List.mem_singleton] at hm;subst hm;rfl
   · rw [List.map_append,List.nodup_append]
     exact ⟨h.nk,by simp,fun a ha b hb=>by
      simp at hb
      subst hb
      obtain ⟨x,hx,rfl⟩:=List.mem_map.1 ha
      exact findM_none.1 hno x hx⟩
   · rw [List.map_append,List.nodup_append]
     exact ⟨h.nb,by simp,fun a ha b hb=>by
      simp at hb
      subst hb
      obtain ⟨x,hx,rfl⟩:=List.mem_map.1 ha
      have:=h.old x hx
      omega⟩
   · rcases List.mem_append.1 hm with hm | hm
     · have:=h.old m hm;omega
     · rw [List.mem_singleton] at hm;subst hm;exact Nat.lt_succ_self _
theorem MpR.find {ms:List (Me Int)} {mc:Nat} {rs:List Rc} (h:MpR ms mc rs) {k:Int} {m:Me Int} (hf:findM ms k=some m):∃v,m.v=.int .u64 v∧(⟨k,v⟩:Rc)∈rs:=by
 have hm:m∈ms:=List.mem_of_find?_eq_some hf
 have hk:m.k=k:=by have:=List.find?_some hf;simpa using this
 refine ⟨(recM m).val,h.vals m hm,?_⟩
 rw [h.rs]
 exact List.mem_map.2 ⟨m,hm,by rw [←hk];rfl⟩
theorem MpR.keys {ms:List (Me Int)} {mc:Nat} {rs:List Rc} (h:MpR ms mc rs):(rs.map (·.key)).Nodup:=by
 have:=h.nk
 rw [h.rs,List.map_map]
 exact this
theorem tot_upd {how k o v:Int} {rs:List Rc} (hn:(rs.map (·.key)).Nodup) (hm:(⟨k,o⟩:Rc)∈rs) (hN:NN rs) (hv:0≤v) (j:Int):tot how j (updR rs k (comb how o v))=tot how j (rs++[⟨k,v⟩]):=by
 have hany:rs.any (fun r=>decide (r.key=k))=true:=List.any_eq_true.2 ⟨_,hm,by simp⟩
 obtain ⟨a,b,rfl⟩:=List.append_of_mem hm
 have ho:=hN ⟨k,o⟩ hm
 simp only at ho
 rw [List.map_append,List.map_cons,List.nodup_append] at hn
 obtain ⟨_,hn2,hn3⟩:=hn
 rw [List.nodup_cons] at hn2
 have ha:∀x∈a,x.key≠k:=fun x hx=>hn3 x.key (List.mem_map.2 ⟨x,hx,rfl⟩) k (by simp)
 have hb:∀x∈b,x.key≠k:=fun x hx e=>hn2.1 (List.mem_map.2 ⟨x,hx,e⟩)
 have ea:a.map (fun r=>if r.key=k then (⟨r.key,comb how o v⟩:Rc) else r)=a:=by
  conv=>rhs;rw [←List.map_id a]
  exact List.map_congr_left fun x hx=>by rw [if_neg (ha x hx)];rfl
 have eb:b.map (fun r=>if r.key=k then (⟨r.key,comb how o v⟩:Rc) else r)=b:=by
  conv=>rhs;rw [←List.map_id b]
  exact List.map_congr_left fun x hx=>by rw [if_neg (hb x hx)];rfl
 have e1:updR (a++⟨k,o⟩::b) k (comb how o v)=a++⟨k,comb how o v⟩::b:=by
  rw [updR,if_pos hany,List.map_append,List.map_cons,ea,eb,if_pos rfl]
 have hNab:NN (a++b):=fun x hx=>hN x (by rcases List.mem_append.1 hx with h | h<;>simp [h])
 have hc:0≤comb how o v:=comb_nn ho hv
 have p1:(a++(⟨k,comb how o v⟩:Rc)::b).Perm ((a++b)++[⟨k,comb how o v⟩]):=List.perm_middle.trans (List.perm_append_comm (l₁:=[(⟨k,comb how o v⟩:Rc)]) (l₂:=a++b))
 have p2:((a++(⟨k,o⟩:Rc)::b)++[(⟨k,v⟩:Rc)]).Perm (((a++b)++[(⟨k,o⟩:Rc)])++[(⟨k,v⟩:Rc)]):=((List.perm_middle (l₁:=a) (l₂:=b) (a:=(⟨k,o⟩:Rc))).trans (List.perm_append_comm (l₁:=[(⟨k,o⟩:Rc)]) (l₂:=a++b))).append_right _
 have n1:NN (a++(⟨k,comb how o v⟩:Rc)::b):=fun x hx=>by
  rcases List.mem_append.1 (p1.mem_iff.1 hx) with h | h
  · exact hNab x h
  · rw [List.mem_singleton] at h;subst h;exact hc
 have n2:NN ((a++(⟨k,o⟩:Rc)::b)++[⟨k,v⟩]):=fun x hx=>by
  rcases List.mem_append.1 hx with h | h
  · exact hN x h
  · rw [List.mem_singleton] at h;subst h;exact hv
 rw [e1,tot_perm p1 n1,tot_perm p2 n2,tot_snoc,tot_snoc,tot_snoc]
 by_cases e:k=j
 · subst e
   have h0:tot how k (a++b)=none:=tot_none fun x hx=>by
    rcases List.mem_append.1 hx with h | h
    · exact ha x h
    · exact hb x h
   simp only [if_pos,h0,addO]
 · simp only [if_neg e]
theorem sortedG_same {how:Int} (h0:how≠0) {l m:List Rc} (hl:NN l) (hm:NN m) (h:∀k,tot how k l=tot how k m):sortedG how l=sortedG how m:=by
 obtain ⟨a1,a2,a3,_⟩:=sortedG_spec h0 hl
 obtain ⟨b1,b2,b3,_⟩:=sortedG_spec h0 hm
 exact keys_unique a1 b1 a3 b3 fun k=>by rw [a2,b2,h]
def boxB:Nm:=[98,111,120]
def boxN (k:Nat):Nm:=boxB++[46]++dig k
def BoxT:Nm→Prop:=fun x=>∃k,1≤k∧k<100∧x=boxN k
theorem boxN_inj {i j:Nat} (hi:i<100) (hj:j<100) (h:boxN i=boxN j):i=j:=dig_inj hi hj (by simpa [boxN] using h)
abbrev bxO (db B:Nat) (how:Int) (mb:Nat) (fv:Value) (nx:Nat):Obj:=cellsO [.pointer (some ⟨db,0,none⟩),kS boxB,.int .i64 (B:Int),.int .i64 how,.map (some mb),fv,.int .i64 (nx:Int)] 325
def namesB (nx:Nat):List Nm:=(List.range nx).map fun i=>boxN (i+1)
def BoxAt (bb db B:Nat) (how:Int) (now:List Rc) (nx:Nat) (hl:Hl):Prop:=∃mb ms mc fv sF,MpR ms mc now∧Own strE fv (namesB nx) sF∧hl=(bb,bxO db B how mb fv nx)::(mb,mapO kU ms mc)::sF
section
variable {F : Fm} {bb db B nx : Nat} {how : Int} {C : Cx} {D : Dk} {s1 s2 : Hl} {now : List Rc}
theorem boxNew_spec (hB:1≤B) (hh:how=1∨how=2) :
 Spec Tryz.prog 205 #[.pointer (some ⟨db,0,none⟩),kS boxB,.int .i64 (B:Int),.int .i64 how] F [] fun v s=>∃bb,v=.tuple #[.pointer (some ⟨bb,0,none⟩),.int .i64 0]∧BoxAt bb db B how [] 0 s:=by
 refine Spec.of (n:=27) (vs:=[.pointer (some ⟨db,0,none⟩),kS boxB,.int .i64 (B:Int),.int .i64 how]) Tryz.func205 rfl Tryz.ntmps205 rfl ?_
 refine sj [.p,.p] Z<|aj Z<|aj Z<|nl<|wj<|sj [.p,.p,.p,.p,.p,.p,.p,.p,.p,.p] Z<|mj Z<|uj Z (Pv.lss Z Z)<|mj Z<|Rg.split (t:=12) rfl (fun h12=>absurd h12 (by simp;omega)) (fun h12=>?_)
 refine mj Z<|uj Z (Pv.neq Z Z)<|mj Z<|Rg.split (t:=15) Z (fun h15=>?_) (fun h15=>?_)
 · refine mj Z<|uj Z (Pv.neq Z Z)<|qj Z Z<|pj Z Z<|nl<|cj Z (fun h19=>absurd h19 (by rcases hh with rfl | rfl<;>first | decide | simp at h15)) (fun h19=>?_)
   refine kj<|sj [.p,.p,.p,.p,.e,.p,.e,.p,.p] Z<|mj Z<|mj Z<|mj Z<|mj Z<|Rg.makeMap kU Z Z Z (fun b24=>?_)
   refine uj Z (Pv.build (c:=#[.pointer (some ⟨db,0,none⟩),kS boxB,.int .i64 (B:Int),.int .i64 how,.map (some b24),.slice none 0 0,.int .i64 0]) Z Z)<|Rg.box Z Z Z Z Z (fun b26=>?_)
   refine aj Z<|aj Z<|nl ?_
   exact vr rfl (.cons (.tmp rfl) (tz Z)) (⟨b26,rfl,b24,[],0,.slice none 0 0,[],⟨rfl,fun m hm=>(by cases hm),.nil,.nil,fun m hm=>(by cases hm)⟩,.nil,rfl⟩) pulled
 · iterate 2 (first | refine Rg.skipP rfl rfl rfl ?_ | refine Rg.skipR rfl rfl rfl ?_ | refine Rg.skipE rfl rfl rfl ?_)
   refine pj Z Z<|pj Z Z<|nl<|cj Z (fun h19=>absurd h19 (by rcases hh with rfl | rfl<;>first | decide | simp at h15)) (fun h19=>?_)
   refine kj<|sj [.p,.p,.p,.p,.e,.p,.e,.p,.p] Z<|mj Z<|mj Z<|mj Z<|mj Z<|Rg.makeMap kU Z Z Z (fun b24=>?_)
   refine uj Z (Pv.build (c:=#[.pointer (some ⟨db,0,none⟩),kS boxB,.int .i64 (B:Int),.int .i64 how,.map (some b24),.slice none 0 0,.int .i64 0]) Z Z)<|Rg.box Z Z Z Z Z (fun b26=>?_)
   refine aj Z<|aj Z<|nl ?_
   exact vr rfl (.cons (.tmp rfl) (tz Z)) (⟨b26,rfl,b24,[],0,.slice none 0 0,[],⟨rfl,fun m hm=>(by cases hm),.nil,.nil,fun m hm=>(by cases hm)⟩,.nil,rfl⟩) pulled
theorem memory_spec (hS:BoxAt bb db B how now nx s1) (hF:∀b o,(b,o)∈s1→F.at_ b o) (hl:now.length<1000) (hN:NR now) :
 Spec Tryz.prog 259 #[.pointer (some ⟨bb,0,none⟩)] F [] fun v s=>Own recE v (sortL now) s:=by
 obtain ⟨mb,ms,mc,fv,sF,hM,own,rfl⟩:=hS
 have hf1:=own.one
 have hml:ms.length=now.length:=by rw [hM.rs,List.length_map]
 have hnd:=me_nodup hM.nb
 have f1:Fat F bb (bxO db B how mb fv nx):=⟨hF _ _ (by simp)⟩
 have f2:Fat F mb (mapO kU ms mc):=⟨hF _ _ (by simp)⟩
 refine Spec.of (n:=34) (vs:=[.pointer (some ⟨bb,0,none⟩)]) Tryz.func259 rfl Tryz.ntmps259 rfl ?_
 refine sj [.p] Z<|aj Z<|nl<|sj [.p,.p,.p,.r,.r,.e,.p] Z<|mj Z<|nj Z<|fj Z<|lj Z Z<|rj Z (Ev.lenM (kv:=kU) (ms:=ms) (clock:=mc) Z) ?_
 refine Rg.make0 recE rfl rfl rfl rfl rfl (by simp [maxLen]<;>omega) (fun b11 sp11 own11=>?_)
 refine aj Z<|nl<|wj<|sj [.p,.p,.p,.r,.e] Z<|mj Z<|nj Z<|fj Z<|lj Z Z ?_
 refine Rg.range Z Z Z Z (fun b16=>?_)
 refine nl<|bj ?_
 refine Vc.loop5 (fun (dn rs:List (Me Int)) (seen:Array Nat) (acc:Value) (sA:Hl)=>ms.Perm (dn++rs)∧(∀e∈ms,seen.contains e.born=true↔e∈dn)∧Own recE acc (dn.map recM) sA) (fun dn rs seen acc sA=>[(3,acc),(16,.pointer (some ⟨b16,0,none⟩))]) (fun dn rs seen acc sA=>(b16,.mapIter (some mb) mc seen mc)::sA) (fun dn rs seen acc sA=>rs.length) [] ms #[] _ _ ⟨.refl _,fun e he=>by simp,own11⟩ (.cons rfl (.cons rfl .nil)) pulled ?_
 rintro dn rs seen acc sA ⟨hp,hseen,hacc⟩
 have hpl:=hp.length_eq
 rw [ly] at hpl
 have hac1:=hacc.one
 refine sj [.e,.p] Z<|Rg.next Z Z Z Z (hM.old) (Nat.le_refl _) Z (fun all17=>?_) (fun m17 mem17 new17=>?_)
 · have hrs:rs=[]:=List.eq_nil_iff_forall_not_mem.2 fun e he=>by
    have hees:e∈ms:=hp.mem_iff.2 (List.mem_append_right _ he)
    have hd:=(hseen e hees).1 (all17 e hees)
    exact (List.nodup_append.1 (hp.nodup_iff.1 hnd)).2.2 e hd e he rfl
   subst hrs
   rw [List.append_nil] at hp
   have hpr:(dn.map recM).Perm now:=by rw [hM.rs];exact (hp.map recM).symm
   refine xj Z Z<|nl<|wj<|Vc.condF Z<|Vc.exit Z<|sj [.p,.e,.p,.p,.p,.p] Z<|mj Z<|Rg.callA Z Z Z (mz Z) (sorted_spec (Arg.own hacc frz_sb) (by rw [List.length_map];omega) (fun r hr=>hN r (hpr.mem_iff.1 hr)) 0) ?_
   rintro _ s30 ⟨u30,er,rfl,h30⟩
   obtain ⟨_,rfl,own30⟩:=h30.resolve_right (fun h=>by cases h.1)
   rw [sortedG_zero,sortL_congr hpr] at own30
   refine mj Z<|xj Z Z<|xj Z Z<|aj Z<|nl<|sj [.p,.p] Z<|mj Z<|aj Z<|nl ?_
   exact vr (hl':=s30) rfl (tz Z) own30 pulled
 · have hers:m17∈rs:=by
    rcases List.mem_append.1 (hp.mem_iff.1 mem17) with h | h
    · rw [(hseen m17 mem17).2 h] at new17;cases new17
    · exact h
   obtain ⟨A,R,rfl⟩:=List.append_of_mem hers
   simp only [ly,List.length_cons] at hpl
   have hmv:=hM.vals m17 mem17
   refine xj Z Z<|nl<|wj<|Vc.condT Z<|kj<|bj<|sj [.r,.p,.p,.p,.p] Z<|rj Z (Ev.as (.tuple #[.int .u64 m17.k,.int .u64 (recM m17).val]) (Ev.entry m17 rfl mem17 hM.nb) (by rw [hmv];rfl))<|xj Z Z<|xj Z Z<|aj Z<|aj Z<|nl<|tj [.p,.p,.p,.p,.e,.e,.p] Z<|mj Z ?_
   refine mj Z<|mj Z<|uj Z (Pv.build (c:=#[.int .u64 m17.k,.int .u64 (recM m17).val]) Z Z)<|Rg.bslice1 Z Z Z Z Z Z Z (fun b26=>?_)
   refine Rg.append Z Z Z Z Z hacc (ys:=[recM m17]) (Src.one rfl) (by simp<;>omega) (by simp [maxLen]<;>omega) rfl (fun v27 s27 own27=>?_)
   refine aj Z<|nl<|dj ?_
   exact Vc.inv5 (dn++[m17]) (A++R) (seen.push m17.born) v27 s27 ⟨⟨hp.trans (by rw [lx];exact (List.perm_middle (l₁:=A) (l₂:=R)).append_left dn),me_seen hM.nb mem17 hseen,by rw [List.map_append];exact own27⟩,by simp⟩ (.cons rfl (.cons rfl .nil)) pulled
structure BxF (D:Dk) (fs:List (List Rc)):Prop where
 has:∀i,i<fs.length→findF D.files (boxN (i+1))=some ⟨fileB fs[i]!,fileB fs[i]!⟩
 non:∀k,fs.length<k→k<100→findF D.files (boxN k)=none
theorem namesB_succ (nx:Nat):namesB (nx+1)=namesB nx++[boxN (nx+1)]:=by simp [namesB,List.range_succ]
theorem namesB_len (nx:Nat):(namesB nx).length=nx:=by simp [namesB]
theorem BxF.snoc {D D':Dk} {fs:List (List Rc)} {row:List Rc} (h:BxF D fs) (hl:fs.length+1<100) (hG:Gd (· = boxN (fs.length+1)) D D') (hf:findF D'.files (boxN (fs.length+1))=some ⟨fileB row,fileB row⟩):BxF D' (fs++[row]) where
 has:=fun i hi=>by
  rw [ly,List.length_singleton] at hi
  by_cases e:i=fs.length
  · subst e
    rw [hf,getElem!_pos (fs++[row]) fs.length (by simp),List.getElem_append_right (Nat.le_refl _)]
    simp
  · rw [hG.same _ fun h=>e (by have:=boxN_inj (by omega) (by omega) h;omega),h.has i (by omega),getElem!_pos (fs++[row]) i (by simp;omega),List.getElem_append_left (by omega),←getElem!_pos fs i (by omega)]
 non:=fun k hk1 hk2=>by
  rw [ly,List.length_singleton] at hk1
  rw [hG.same _ fun h=>by have:=boxN_inj hk2 (by omega) h;omega]
  exact h.non k (by omega) hk2
set_option maxHeartbeats 2000000 in
theorem spill_z (hC:C.Ok) (hS:BoxAt bb db B how now nx s1) (hl:now.length<50) (hI:InRs now) (hcap:16*now.length+6≤C.cap) (hnx:nx+1<100) (hD:DiskAt db D s2) (hw:Wz C D) (hk:boxN (nx+1)∈C.S) (hno:findF D.files (boxN (nx+1))=none) :
 Spec Tryz.prog 285 #[.pointer (some ⟨bb,0,none⟩)] F (s1++s2) fun v s'=>∃e D' h1 h2,v=.int .i64 e∧s'=h1++h2∧DiskAt db D' h2∧(e=0→BoxAt bb db B how [] (nx+1) h1)∧(e≠0→BoxAt bb db B how now nx h1)∧Out C (· = boxN (nx+1)) (fun D'=>findF D'.files (boxN (nx+1))=some ⟨fileB (sortL now),fileB (sortL now)⟩) D 0 e D':=by
 obtain ⟨mb,ms,mc,fv,sF,hM,own,rfl⟩:=hS
 have hf1:=own.one
 have hnl:=namesB_len nx
 rw [List.cons_append,List.cons_append]
 refine Spec.of (n:=57) (vs:=[.pointer (some ⟨bb,0,none⟩)]) Tryz.func285 rfl Tryz.ntmps285 rfl ?_
 refine sj [.p] Z<|aj Z<|nl<|wj ?_
 refine Vc.draw [] (sd [(0,.pure),(1,.pure),(2,.pure),(3,.read),(4,.pure),(5,.pure),(6,.pure),(7,.pure),(8,.read),(9,.pure),(10,.eff),(11,.pure),(12,.pure)]) mixed (by kernel_rfl)<|mj Z<|nj Z<|fj Z<|lj Z Z<|uj Z (Pv.addK rfl rfl (by decide))<|mj Z<|nj Z<|fj Z<|lj Z Z<|uj Z (Pv.asI (nx+1) (Pv.add rfl rfl (by omega)) (by omega)) ?_
 refine Rg.callP Z Z Z (mz Z) (itoa_spec (nx+1) hnx) ?_
 rintro _ rfl
 refine uj Z (Pv.addK rfl rfl (by have:=dig_len (nx+1);simp [boxB];omega))<|aj Z<|nl<|wj<|wj ?_
 refine Vc.drawS [7] (sd [(0,.pure),(1,.pure),(2,.pure),(3,.read),(4,.pure),(5,.pure),(6,.eff),(7,.eff),(8,.pure)]) [(bb,bxO db B how mb fv nx)] pulled mixed (by kernel_rfl)<|mj Z<|nj Z<|fj Z<|lj Z Z<|mj Z<|mj Z ?_
 refine Rg.callHN (pre:=[]) rfl rfl rfl (mz Z) (fun F' hF'=>memory_spec (F:=F') (s1:=(bb,bxO db B how mb fv nx)::(mb,mapO kU ms mc)::sF) ⟨mb,ms,mc,fv,sF,hM,own,rfl⟩ (fun b o hb=>hF' b o (.inl (by simp at hb ⊢; rcases hb with h | h | h<;>simp [h]))) (by omega) hI.nr) ?_
 rintro v23 s23 own23
 refine Rg.callH Z Z Z (mz Z) (fun F' hF'=>write_z (F:=F') (nm:=boxN (nx+1)) hC hD hw hk hno (Arg.own own23 fun b o hb=>hF' b o (.inl (by simp [hb]))) (fun r hr=>hI r ((sortL_perm now).mem_iff.1 hr)) (by rw [sortL_length];exact hl) (by rw [sortL_length];exact hcap)) rfl ?_
 rintro _ g ⟨e,D1,rfl,hD1,hO⟩
 refine aj Z<|nl<|sj [.p,.p] Z<|mj Z<|uj Z (Pv.neq Z Z)<|nl<|cj Z (fun h26=>?_) (fun h26=>?_)
 · simp only [bne_iff_ne,ne_eq] at h26
   obtain ⟨he7,hB7⟩:=hO.bad h26
   subst he7
   refine wj<|sj [.p,.p] Z<|mj Z<|uj Z (Pv.neq Z Z)<|nl<|cj Z (fun h28=>?_) (fun h28=>absurd h28 (by decide))
   refine tj [.p,.p,.p,.r,.p,.e] Z<|mj Z<|nj Z<|fj Z<|lj Z Z<|mj Z ?_
   refine Rg.callH Z Z Z (mz Z) (fun F' hF'=>remove_zx (F:=F') hC hD1 hO.wz (boxN (nx+1))) Z ?_
   rintro _ g2 ⟨e3,D3,rfl,hD3,hw3,hO3⟩
   have hB3:Dn none1 D1 D3:=(hO3.resolve_left (fun h=>by have:=h.2.1.up0;rw [hB7.dn] at this;cases this)).2
   refine nl<|sj [.p,.p] Z<|mj Z<|aj Z<|nl ?_
   exact vr (hl':=((bb,bxO db B how mb fv nx)::(mb,mapO kU ms mc)::sF)++g2) rfl (tz Z) ⟨7,D3,(bb,bxO db B how mb fv nx)::(mb,mapO kU ms mc)::sF,g2,rfl,rfl,hD3,fun h=>(by cases h),fun _=>⟨mb,ms,mc,fv,sF,hM,own,rfl⟩,hw3,.inr ⟨rfl,hB7.after hB3.any⟩⟩ pulled
 · simp only [bne_eq_false_iff_eq] at h26
   subst h26
   obtain ⟨_,hG,hf⟩:=hO.good (by decide)
   refine kj<|sj [.p,.p,.p,.r,.p,.p,.p,.e] Z<|mj Z<|nj Z<|fj Z<|lj Z Z<|uj Z (Pv.asI (nx+1) (Pv.add rfl rfl (by omega)) (by omega))<|nj Z<|fj Z ?_
   refine Rg.store Z Z Z Z Z Z Z Z<|nl<|sj [.p,.p,.p,.p,.r,.p,.e,.e,.p,.p,.e] Z<|mj Z<|mj Z<|nj Z<|fj Z<|lj Z Z<|mj Z ?_
   refine Rg.bslice1 Z Z Z Z Z Z Z (fun b49=>?_)
   refine Rg.append Z Z Z Z Z own (ys:=[boxN (nx+1)]) (Src.one rfl) (by simp<;>omega) (by simp [maxLen]<;>omega) rfl (fun v50 s50 own50=>?_)
   have h50:=own50.one
   refine nj Z<|fj Z ?_
   refine Rg.store Z Z Z Z Z h50 Z Z<|nl<|sj [.p,.p,.p,.r,.e] Z<|mj Z<|nj Z<|fj Z<|lj Z Z ?_
   refine Rg.clearM (kv:=kU) (ms:=ms) (clock:=mc) Z Z Z Z Z<|nl<|sj [.p] Z<|aj Z<|nl ?_
   exact vr (hl':=((bb,bxO db B how mb v50 (nx+1))::(mb,mapO kU [] mc)::s50)++g) rfl (tz Z) ⟨0,D1,(bb,bxO db B how mb v50 (nx+1))::(mb,mapO kU [] mc)::s50,g,rfl,rfl,hD1,fun _=>⟨mb,[],mc,v50,s50,⟨rfl,fun m hm=>(by cases hm),.nil,.nil,fun m hm=>(by cases hm)⟩,by rw [namesB_succ];exact own50,rfl⟩,fun h=>absurd rfl h,hO.wz,.inl ⟨rfl,hG,hf⟩⟩ pulled
end
theorem InRs.nn {l:List Rc} (h:InRs l):NN l:=fun r hr=>(h r hr).2.1
theorem tot_put {how:Int} {now now' F msgs:List Rc} {r:Rc} (h:∀k,tot how k (now++F)=tot how k msgs) (h':∀k,tot how k now'=tot how k (now++[r])) (n1:NN now) (n2:NN now') (n3:NN F) (n4:0≤r.val) (k:Int):tot how k (now'++F)=tot how k (msgs++[r]):=by
 have nr:NN [r]:=fun x hx=>by rw [List.mem_singleton] at hx;subst hx;exact n4
 rw [tot_append n2 n3,h' k,←tot_append (n1.app nr) n3]
 have hp:((now++[r])++F).Perm ((now++F)++[r]):=by
  rw [lx,lx]
  exact List.perm_append_comm.append_left now
 rw [tot_perm hp ((n1.app nr).app n3),tot_snoc,tot_snoc,h k]
structure BoxI (how:Int) (D:Dk) (now:List Rc) (fs:List (List Rc)) (msgs:List Rc):Prop where
 files:BxF D fs
 tot:∀k,Go.Proofs.YtkpiakgmkpbikaaGreatDoor.tot how k (now++fs.flatten)=Go.Proofs.YtkpiakgmkpbikaaGreatDoor.tot how k msgs
 inN:InRs now
 inF:InRs fs.flatten
 len:now.length+fs.flatten.length≤msgs.length
 fl:fs.length≤fs.flatten.length
theorem BoxI.same {how:Int} {D D':Dk} {now:List Rc} {fs:List (List Rc)} {msgs:List Rc} (h:BoxI how D now fs msgs) {T:Nm→Prop} (hG:Gd T D D') (hT:∀k,T (boxN k)→False):BoxI how D' now fs msgs :=
 ⟨⟨fun i hi=>by rw [hG.same _ (hT _)];exact h.files.has i hi,fun k h1 h2=>by rw [hG.same _ (hT _)];exact h.files.non k h1 h2⟩,h.tot,h.inN,h.inF,h.len,h.fl⟩
theorem updR_len {rs:List Rc} {k v:Int}:(updR rs k v).length≤rs.length+1:=by
 unfold updR;split<;>simp
theorem updR_in {rs:List Rc} {k v:Int} (h:InRs rs) (hk:0≤k∧k<18446744073709551616) (hv:0≤v∧v<18446744073709551616):InRs (updR rs k v):=fun r hr=>by
 unfold updR at hr
 split at hr
 · obtain ⟨x,hx,rfl⟩:=List.mem_map.1 hr
   split
   · exact ⟨(h x hx).1,hv⟩
   · exact h x hx
 · rcases List.mem_append.1 hr with hr | hr
   · exact h r hr
   · rw [List.mem_singleton] at hr;subst hr;exact ⟨hk,hv⟩
theorem updR_new {rs:List Rc} {k v:Int} (h:∀x∈rs,x.key≠k):updR rs k v=rs++[⟨k,v⟩]:=by
 unfold updR
 rw [if_neg]
 intro e
 obtain ⟨x,hx,he⟩:=List.any_eq_true.1 e
 exact h x hx (by simpa using he)
structure PutS where
 now:List Rc
 fs:List (List Rc)
 D:Dk
 h1:Hl
 h2:Hl
section
variable {F : Fm} {bb db B : Nat} {how : Int} {C : Cx} {D : Dk} {s1 s2 : Hl} {now msgs : List Rc} {fs : List (List Rc)}
set_option maxHeartbeats 2000000 in
theorem boxPut_z (hC:C.Ok) (hh:how=1∨how=2) (hB:1≤B) (hS:BoxAt bb db B how now fs.length s1) (hI:BoxI how D now fs msgs) (hl:msgs.length<49) (hcap:16*msgs.length+6≤C.cap) {r:Rc} (hr:InR r) (hk:∀k,1≤k→k≤msgs.length→boxN k∈C.S) (hD:DiskAt db D s2) (hw:Wz C D) (hup:D.down=false) :
 Spec Tryz.prog 263 #[.pointer (some ⟨bb,0,none⟩),recV r] F (s1++s2) fun v s'=>∃e D' h1 h2,v=.int .i64 e∧s'=h1++h2∧DiskAt db D' h2∧(∃now' nx',BoxAt bb db B how now' nx' h1)∧Out C BoxT (fun D'=>∃now' fs',BoxAt bb db B how now' fs'.length h1∧BoxI how D' now' fs' (msgs++[r])) D 0 e D':=by
 have hS0:=hS
 obtain ⟨mb,ms,mc,fv,sF,hM,own,rfl⟩:=hS
 have hf1:=own.one
 have hml:ms.length=now.length:=by rw [hM.rs,List.length_map]
 have hilen:=hI.len
 have hifl:=hI.fl
 obtain ⟨vv,bx,heq,hcase⟩:∃vv bx,(Value.tuple #[((findM ms r.key).map (·.v)).getD (.int .u64 0),.bool (findM ms r.key).isSome]:Value)=.tuple #[.int .u64 vv,.bool bx]∧((bx=true∧(⟨r.key,vv⟩:Rc)∈now)∨(bx=false∧∀x∈now,x.key≠r.key)):=by
  cases hf:findM ms r.key with
  | none =>
   refine ⟨0,false,rfl,.inr ⟨rfl,fun x hx=>?_⟩⟩
   rw [hM.rs] at hx
   obtain ⟨m,hm,rfl⟩:=List.mem_map.1 hx
   exact findM_none.1 hf m hm
  | some m =>
   obtain ⟨v,hv,hm⟩:=hM.find hf
   exact ⟨v,true,by rw [Option.map_some,Option.getD_some,hv];rfl,.inl ⟨rfl,hm⟩⟩
 rw [List.cons_append,List.cons_append]
 refine Spec.of (n:=56) (vs:=[.pointer (some ⟨bb,0,none⟩),recV r]) Tryz.func263 rfl Tryz.ntmps263 rfl ?_
 refine sj [.e,.p] Z<|Rg.box Z Z Z Z Z (fun b3=>?_)
 refine aj Z<|nl<|wj ?_
 refine Vc.draw [] (sd [(0,.pure),(1,.pure),(2,.pure),(3,.read),(4,.pure),(5,.read),(6,.read),(7,.pure),(8,.pure),(9,.pure),(10,.pure),(11,.pure)]) mixed (by kernel_rfl)<|mj Z<|nj Z<|fj Z<|lj Z Z<|fj Z<|lj Z Z<|rj Z (Ev.as (.tuple #[.int .u64 vv,.bool bx]) (Ev.lookup2 (kv:=kU) (k:=r.key) Z Z hM.nk) heq)<|mj Z<|xj Z Z<|xj Z Z<|aj Z<|aj Z<|nl<|wj ?_
 refine sj [.p] Z<|mj Z<|nl<|cj Z (fun h18=>?_) (fun h18=>?_)
 · have hmem:=(hcase.resolve_right (fun h=>by rw [h.1] at h18;cases h18)).2
   have hvv:=(hI.inN _ hmem).2
   simp only at hvv
   refine wj ?_
   refine Vc.draw [14] (sd [(0,.pure),(1,.pure),(2,.pure),(3,.read),(4,.pure),(5,.read),(6,.pure),(7,.pure),(8,.pure),(9,.read),(10,.pure),(11,.pure),(12,.read),(13,.eff),(14,.eff)]) mixed (by kernel_rfl)<|mj Z<|nj Z<|fj Z<|lj Z Z<|fj Z<|lj Z Z<|mj Z<|nj Z<|fj Z<|lj Z Z<|mj Z<|fj Z<|lj Z Z ?_
   refine Rg.callP Z Z Z (mz Z) (combine_spec _ how vv r.val hvv.1 hr.2.1) ?_
   rintro _ rfl
   refine Rg.mapUpd (kv:=kU) (dk:=.int .u64) (k:=r.key) (v:=.int .u64 (comb how vv r.val)) Z Z Z Z Z Z Z hM.nk Z<|nl<|sj [.p] Z<|aj Z<|nl ?_
   exact vr (hl':=((bb,bxO db B how mb fv fs.length)::(mb,mapO kU (updM ms r.key (.int .u64 (comb how vv r.val)) mc) (updC ms r.key mc))::sF)++s2) rfl (tz Z) ⟨0,D,_,s2,rfl,rfl,hD,⟨_,_,mb,_,_,fv,sF,hM.upd r.key (comb how vv r.val),own,rfl⟩,hw,.inl ⟨rfl,.refl hup,_,fs,⟨mb,_,_,fv,sF,hM.upd r.key (comb how vv r.val),own,rfl⟩,hI.files,tot_put hI.tot (fun k=>tot_upd hM.keys hmem hI.inN.nn hr.2.1 k) hI.inN.nn (updR_in hI.inN hr.1 (comb_in hvv hr.2)).nn hI.inF.nn hr.2.1,updR_in hI.inN hr.1 (comb_in hvv hr.2),hI.inF,by rw [ly,List.length_singleton];have:=updR_len (rs:=now) (k:=r.key) (v:=comb how vv r.val);omega,hI.fl⟩⟩ pulled
 · have hno:=(hcase.resolve_left (fun h=>by rw [h.1] at h18;cases h18)).2
   refine kj<|wj<|wj ?_
   refine Vc.draw [] (sd [(0,.pure),(1,.pure),(2,.pure),(3,.read),(4,.read),(5,.pure),(6,.pure),(7,.pure),(8,.read),(9,.pure)]) mixed (by kernel_rfl)<|mj Z<|nj Z<|fj Z<|lj Z Z<|rj Z (Ev.lenM (kv:=kU) (ms:=ms) (clock:=mc) Z)<|mj Z<|nj Z<|fj Z<|lj Z Z<|uj Z (Pv.geq Z Z)<|nl<|Vc.cut1 (fun (R:PutS)=>BoxAt bb db B how R.now R.fs.length R.h1∧BoxI how R.D R.now R.fs msgs∧(∀x∈R.now,x.key≠r.key)∧DiskAt db R.D R.h2∧Wz C R.D∧Gd BoxT D R.D) (fun R=>[(0,.pointer (some ⟨bb,0,none⟩)),(3,.pointer (some ⟨b3,0,none⟩))]) (fun R=>(b3,cellsO [.int .u64 r.key,.int .u64 r.val] 293)::(R.h1++R.h2)) ?_ ?_
   · refine cj Z (fun h42=>?_) (fun h42=>?_)
     · simp only [dt] at h42
       have hnk:fs.length+1≤msgs.length:=by omega
       refine sj [.p,.e,.p] Z<|mj Z<|Rg.callH Z Z Z (mz Z) (fun F' hF'=>spill_z (F:=F') (s1:=(bb,bxO db B how mb fv fs.length)::(mb,mapO kU ms mc)::sF) hC hS0 (by omega) hI.inN (by omega) (by omega) hD hw (hk _ (by omega) hnk) (hI.files.non _ (by omega) (by omega))) rfl ?_
       rintro _ _ ⟨e,D1,g1,g2,rfl,rfl,hD1,hb0,hb1,hO⟩
       rw [lx]
       refine aj Z<|nl<|sj [.p,.p] Z<|mj Z<|uj Z (Pv.neq Z Z)<|nl<|cj Z (fun h46=>?_) (fun h46=>?_)
       · simp only [bne_iff_ne,ne_eq] at h46
         obtain ⟨he7,hB7⟩:=hO.bad h46
         refine sj [.p,.p] Z<|mj Z<|aj Z<|nl ?_
         exact vr (hl':=g1++g2) rfl (tz Z) ⟨e,D1,g1,g2,rfl,rfl,hD1,⟨_,_,hb1 h46⟩,hO.wz,.inr ⟨he7,hB7.mono fun x hx=>⟨_,by omega,by omega,hx⟩⟩⟩ pulled
       · simp only [bne_eq_false_iff_eq] at h46
         subst h46
         obtain ⟨_,hG,hf⟩:=hO.good (by decide)
         have hfl:=hI.files.snoc (by omega) hG hf
         refine kj ?_
         exact Vc.inv1 (⟨[],fs++[sortL now],D1,g1,g2⟩:PutS) ⟨by simp only [ly,List.length_singleton];exact hb0 rfl,⟨hfl,fun k=>by
          rw [List.nil_append,List.flatten_append,←hI.tot k]
          refine tot_perm ?_ (hI.inF.nn.app (fun x hx=>hI.inN.nn x ((sortL_perm now).mem_iff.1 (by simpa using hx))))
          rw [show [sortL now].flatten=sortL now by simp]
          exact List.perm_append_comm.trans ((sortL_perm now).append_right _),fun x hx=>(by cases hx),fun x hx=>by
          rw [List.flatten_append,List.mem_append] at hx
          exact hx.elim (hI.inF x) (fun h=>hI.inN x ((sortL_perm now).mem_iff.1 (by simpa using h))),by
          rw [List.flatten_append,ly,show [sortL now].flatten=sortL now by simp,sortL_length,List.length_nil];omega,by
          rw [List.flatten_append,ly,ly,show [sortL now].flatten=sortL now by simp,sortL_length,List.length_singleton];omega⟩,fun x hx=>(by cases hx),hD1,hO.wz,hG.mono fun x hx=>⟨_,by omega,by omega,hx⟩⟩ (.cons rfl (.cons rfl .nil)) pulled
     · refine kj ?_
       exact Vc.inv1 (⟨now,fs,D,(bb,bxO db B how mb fv fs.length)::(mb,mapO kU ms mc)::sF,s2⟩:PutS) ⟨hS0,hI,hno,hD,hw,.refl hup⟩ (.cons rfl (.cons rfl .nil)) pulled
   · clear hS0 hI hno hD hcase heq hM own hf1 hml hilen hifl
     rintro ⟨now,fs,D1,h1,h2⟩ ⟨hS,hI,hno,hD1,hw1,hG1⟩
     simp only at hS hI hno hD1 hw1 hG1 ⊢
     obtain ⟨mb,ms,mc,fv,sF,hM,own,rfl⟩:=hS
     have hf1:=own.one
     have hilen:=hI.len
     refine wj ?_
     refine Vc.draw [8] (sd [(0,.pure),(1,.pure),(2,.pure),(3,.read),(4,.pure),(5,.read),(6,.pure),(7,.read),(8,.eff)]) mixed (by kernel_rfl)<|mj Z<|nj Z<|fj Z<|lj Z Z<|fj Z<|lj Z Z<|fj Z<|lj Z Z ?_
     refine Rg.mapUpd (kv:=kU) (dk:=.int .u64) (k:=r.key) (v:=.int .u64 r.val) Z Z Z Z Z Z Z hM.nk Z<|nl<|sj [.p] Z<|aj Z<|nl ?_
     exact vr (hl':=((bb,bxO db B how mb fv fs.length)::(mb,mapO kU (updM ms r.key (.int .u64 r.val) mc) (updC ms r.key mc))::sF)++h2) rfl (tz Z) ⟨0,D1,_,h2,rfl,rfl,hD1,⟨_,_,mb,_,_,fv,sF,hM.upd r.key r.val,own,rfl⟩,hw1,.inl ⟨rfl,hG1,_,fs,⟨mb,_,_,fv,sF,hM.upd r.key r.val,own,rfl⟩,hI.files,tot_put hI.tot (fun k=>by rw [updR_new hno]) hI.inN.nn (updR_in hI.inN hr.1 hr.2).nn hI.inF.nn hr.2.1,updR_in hI.inN hr.1 hr.2,hI.inF,by rw [ly,List.length_singleton];have:=updR_len (rs:=now) (k:=r.key) (v:=r.val);omega,hI.fl⟩⟩ pulled
set_option maxHeartbeats 2000000 in
theorem boxAll_z (hC:C.Ok) (hh:how=1∨how=2) (hS:BoxAt bb db B how now fs.length s1) (hI:BoxI how D now fs msgs) (hl:msgs.length<50) (hIm:InRs msgs) (hD:DiskAt db D s2) (hw:Wz C D) (hup:D.down=false) :
 Spec Tryz.prog 239 #[.pointer (some ⟨bb,0,none⟩)] F (s1++s2) fun v s'=>∃u e D' h1 h2,v=.tuple #[u,.int .i64 e]∧u.oneCell'=true∧s'=s1++(h1++h2)∧DiskAt db D' h2∧Out C none1 (fun _=>Own recE u (sortedG how msgs) h1) D 0 e D':=by
 have hS0:=hS
 obtain ⟨mb,ms,mc,fv,sF,hM,own,rfl⟩:=hS
 have hf1:=own.one
 have hnb:=namesB_len fs.length
 have hilen:=hI.len
 have hifl:=hI.fl
 obtain ⟨pf,cf,rfl⟩:=own.shape
 rw [hnb] at own hf1 hS0 ⊢
 have hok:okHow how=true:=by rcases hh with rfl | rfl<;>rfl
 have h0:how≠0:=by rcases hh with rfl | rfl<;>decide
 rw [List.cons_append,List.cons_append]
 refine Spec.of (n:=46) (vs:=[.pointer (some ⟨bb,0,none⟩)]) Tryz.func239 rfl Tryz.ntmps239 rfl ?_
 refine sj [.p,.p] Z<|aj Z<|aj Z<|nl<|sj [.p,.e,.e,.p] Z<|mj Z<|Rg.callA Z Z Z (mz Z) (memory_spec hS0 (fun b o hb=>.inl (by simp at hb ⊢; rcases hb with h | h | h<;>simp [h])) (by omega) hI.inN.nr) ?_
 rintro v10 s10 own10
 obtain ⟨p10,c10,rfl⟩:=own10.shape
 refine Rg.bslice1R (E:=slRE) (e:=289) (⟨p10,(sortL now).length,c10⟩:Sv) Z Z Z Z Z Z Z Z (fun b11 own11=>?_)
 refine aj Z<|nl<|wj<|sj [.p,.p,.p,.r,.p,.p] Z<|mj Z<|nj Z<|fj Z<|lj Z Z<|uj Z (Pv.lenS Z)<|mj Z<|nl<|bj ?_
 refine Vc.loop6 (fun (k:Nat) (acc:Value) (vs:List Sv) (D':Dk) (sA:Hl) (q:Hl×Hl)=>k≤fs.length∧Own slRE acc vs sA∧OwnsR vs (sortL now::fs.take k) q.1∧DiskAt db D' q.2∧Wz C D'∧Gd none1 D D') (fun k acc vs D' sA q=>[(4,acc),(17,.int .i64 (k:Int)),(0,.pointer (some ⟨bb,0,none⟩)),(15,.slice pf fs.length cf),(16,.int .i64 (fs.length:Int))]) (fun k acc vs D' sA q=>(bb,bxO db B how mb (.slice pf fs.length cf) fs.length)::(mb,mapO kU ms mc)::(sF++(sA++(q.1++q.2)))) (fun k acc vs D' sA q=>fs.length-k) 0 _ _ D _ (s10,s2) ⟨Nat.zero_le _,own11,by have:=OwnsR.snoc (s:=(⟨p10,(sortL now).length,c10⟩:Sv)) OwnsR.nil own10;rw [List.append_nil] at this;exact this,hD,hw,.refl hup⟩ (.cons rfl (.cons rfl (.cons rfl (.cons rfl (.cons rfl .nil))))) pulled ?_
 rintro k acc vs D' sA ⟨q1,q2⟩ ⟨hk,hacc,howns,hD',hw',hG⟩
 simp only at howns hD' ⊢
 have hvl:=howns.len
 rw [List.length_cons,List.length_take] at hvl
 have hac1:=hacc.one
 refine sj [.p] Z<|uj Z (Pv.lss Z Z)<|nl<|wj<|cj Z (fun h18=>?_) (fun h18=>?_)
 · simp only [dt] at h18
   have hk1:k<fs.length:=by omega
   obtain ⟨bf,capf,spf,e,rfl,_,_⟩:=own.block (by rw [hnb];omega)
   rw [hnb] at e
   simp only [Value.slice.injEq] at e
   obtain ⟨rfl,_,rfl⟩:=e
   have hnm:(namesB fs.length)[k]! = boxN (k+1):=by rw [getElem!_pos _ k (by rw [hnb];exact hk1)];simp [namesB]
   have hfk:=hI.files.has k hk1
   have hfm:fs[k]! ∈ fs:=by rw [getElem!_pos fs k hk1];exact List.getElem_mem _
   have hfl2:=(List.sublist_flatten_of_mem hfm).length_le
   refine kj<|wj<|bj<|sj [.p,.r,.p] Z<|uj Z (Pv.ixA (k) rfl rfl (by omega) (by omega))<|rj Z (Ev.as (kS (boxN (k+1))) (Ev.ldR (E:=strE) k rfl (Nat.zero_add _) (by rw [hnb];exact hk1)) (congrArg kS hnm))<|aj Z<|nl<|sj [.p,.p,.p,.r,.p,.e,.p,.p,.p,.p,.p] Z<|mj Z<|nj Z<|fj Z<|lj Z Z<|mj Z ?_
   refine Rg.callH Z Z Z (mz Z) (fun F' hF'=>readR_z (F:=F') (nm:=boxN (k+1)) (l:=fs[k]!) hC hD' hw' (by rw [hG.same _ (fun h=>h.elim)];exact hfk) rfl (by omega) (fun r hr=>hI.inF r (List.mem_flatten.2 ⟨_,hfm,hr⟩))) rfl ?_
   rintro _ _ ⟨u,e,D1,g1,g2,rfl,rfl,hD1,hO1⟩
   rw [lx]
   refine mj Z<|xj Z Z<|xj Z Z<|aj Z<|aj Z<|nl<|wj<|sj [.p,.p] Z<|mj Z<|uj Z (Pv.neq Z Z)<|nl<|cj Z (fun h31=>?_) (fun h31=>?_)
   · simp only [bne_iff_ne,ne_eq] at h31
     obtain ⟨he7,hB7⟩:=hO1.bad h31
     refine sj [.p,.p,.p] Z<|mj Z<|aj Z<|aj Z<|nl ?_
     exact vr (hl':=((bb,bxO db B how mb (.slice (some ⟨bf,0,none⟩) fs.length cf) fs.length)::(mb,mapO kU ms mc)::[(bf,rowS strE (namesB fs.length) spf)])++([]++g2)) rfl (.cons (.tmp rfl) (tz Z)) ⟨.slice none 0 0,e,D1,[],g2,rfl,rfl,rfl,hD1,hO1.wz,.inr ⟨he7,hG.dn hB7⟩⟩ pulled
   · simp only [bne_eq_false_iff_eq] at h31
     subst h31
     obtain ⟨_,hG1,ownu⟩:=hO1.good (by decide)
     obtain ⟨pu,cu,rfl⟩:=ownu.shape
     refine kj<|tj [.p,.p,.e,.e,.p] Z<|mj Z<|mj Z<|Rg.bslice1 Z Z Z Z Z Z Z (fun b35=>?_)
     refine Rg.append Z Z Z Z Z hacc (Src.one (y:=(⟨pu,fs[k]!.length,cu⟩:Sv)) rfl) (by simp<;>omega) (by simp [maxLen]<;>omega) rfl (fun v36 s36 own36=>?_)
     refine aj Z<|nl<|dj<|tj [.p,.p] Z<|uj Z (Pv.asI (k+1) (Pv.add rfl rfl (by omega)) (by omega))<|mj Z<|nl ?_
     exact Vc.inv6 (k+1) v36 _ D1 s36 (g1++q1,g2) ⟨⟨by omega,own36,by have:=howns.snoc (s:=(⟨pu,fs[k]!.length,cu⟩:Sv)) ownu;rw [List.take_succ_eq_append_getElem hk1,←getElem!_pos fs k hk1];exact this,hD1,hO1.wz,hG.trans hG1⟩,by omega⟩ (.cons rfl (.cons rfl (.cons rfl (.cons rfl (.cons rfl .nil))))) (by rw [lx g1 q1];exact pulled)
 · simp only [df] at h18
   obtain rfl:k=fs.length:=by omega
   rw [List.take_length] at howns
   refine Vc.exit Z<|sj [.p,.p,.p,.p,.r,.e,.p,.p,.p,.p] Z<|mj Z<|mj Z<|nj Z<|fj Z<|lj Z Z ?_
   refine Rg.callA Z Z Z (mz Z) (merge_spec (ls:=vs) (xss:=sortL now::fs) ⟨Arg.own hacc frz_sb,howns.len,howns.arg frz_sb⟩ (by simp only [List.length_cons];omega) (by rw [List.flatten_cons,ly,sortL_length];omega) (fun r hr=>by rw [List.flatten_cons,List.mem_append] at hr;exact hr.elim (fun h=>(hI.inN r ((sortL_perm now).mem_iff.1 h)).2) (fun h=>(hI.inF r h).2)) how) ?_
   rintro _ s43 ⟨u43,er,rfl,h43⟩
   obtain ⟨_,rfl,own43⟩:=h43.resolve_right (fun h=>by rw [hok] at h;cases h.1)
   have hsame:sortedG how (sortL now::fs).flatten=sortedG how msgs:=sortedG_same h0 (fun r hr=>by rw [List.flatten_cons,List.mem_append] at hr;exact hr.elim (fun h=>(hI.inN r ((sortL_perm now).mem_iff.1 h)).2.1) (fun h=>(hI.inF r h).2.1)) hIm.nn fun k=>by
    rw [List.flatten_cons,←hI.tot k]
    exact tot_perm ((sortL_perm now).append_right _) (NN.app (fun r hr=>(hI.inN r ((sortL_perm now).mem_iff.1 hr)).2.1) hI.inF.nn)
   rw [hsame] at own43
   have h43c:=own43.one
   refine xj Z Z<|xj Z Z<|aj Z<|aj Z<|nl ?_
   exact vr (hl':=((bb,bxO db B how mb (.slice pf fs.length cf) fs.length)::(mb,mapO kU ms mc)::sF)++(s43++q2)) rfl (.cons (.tmp rfl) (tz Z)) ⟨u43,0,D',s43,q2,rfl,h43c,rfl,hD',hw',.inl ⟨rfl,hG,own43⟩⟩ pulled
def DnK (D D':Dk):Prop:=∀(T:Nm→Prop) (D0:Dk),Dn T D0 D→Dn T D0 D'
set_option maxHeartbeats 2000000 in
theorem boxClear_z (hC:C.Ok) {nx:Nat} (hS:BoxAt bb db B how now nx s1) (hf:D.down=false→∃fs,fs.length=nx∧nx<100∧BxF D fs) (hD:DiskAt db D s2) (hw:Wz C D) :
 Spec Tryz.prog 209 #[.pointer (some ⟨bb,0,none⟩)] F (s1++s2) fun v s'=>∃e D',v=.int .i64 e∧DiskAt db D' s'∧Wz C D'∧((D.down=false∧((e=0∧Gd BoxT D D'∧∀k,1≤k→k<100→findF D'.files (boxN k)=none)∨(e=7∧Dn BoxT D D')))∨(D.down=true∧DnK D D')):=by
 obtain ⟨mb,ms,mc,fv,sF,hM,own,rfl⟩:=hS
 have hf1:=own.one
 have hnb:=namesB_len nx
 rw [List.cons_append,List.cons_append]
 refine Spec.of (n:=36) (vs:=[.pointer (some ⟨bb,0,none⟩)]) Tryz.func209 rfl Tryz.ntmps209 rfl ?_
 refine sj [.p] Z<|aj Z<|nl<|sj [.p,.p,.p,.r,.e] Z<|mj Z<|nj Z<|fj Z<|lj Z Z ?_
 refine Rg.clearM (kv:=kU) (ms:=ms) (clock:=mc) Z Z Z Z Z<|nl<|wj<|bj ?_
 refine Vc.loop5 (fun (j:Nat) (fv:Value) (sF:Hl) (D':Dk) (q:Hl)=>j≤nx∧Tl strE fv ((namesB nx).drop j) sF∧DiskAt db D' q∧Wz C D'∧((D'=D∧j=0)∨(Gd BoxT D D'∧(∀k,1≤k→k≤j→findF D'.files (boxN k)=none)∧(∀k,nx<k→k<100→findF D'.files (boxN k)=none)∧∀k,j<k→k≤nx→findF D'.files (boxN k)≠none))) (fun j fv sF D' q=>[(0,.pointer (some ⟨bb,0,none⟩))]) (fun j fv sF D' q=>(bb,bxO db B how mb fv nx)::(mb,mapO kU [] mc)::(sF++q)) (fun j fv sF D' q=>nx-j) 0 fv sF D s2 ⟨Nat.zero_le _,own.tl,hD,hw,.inl ⟨Z,Z⟩⟩ (.cons Z .nil) pulled ?_
 clear hf1 own
 rintro j fv sF D' q ⟨hj,htl,hD',hw',hst⟩
 have hf1:=htl.one
 have hdl:((namesB nx).drop j).length=nx-j:=by rw [List.length_drop,hnb]
 obtain ⟨pf,cf,rfl⟩:=htl.shape
 rw [hdl] at htl hf1 ⊢
 have harg:Arg strE (frz F sF) (.slice pf (nx-j) cf) ((namesB nx).drop j):=Arg.tl htl fun b o hb=>.inl hb
 refine wj<|sj [.p,.p,.p,.r,.p,.p] Z<|mj Z<|nj Z<|fj Z<|lj Z Z<|uj Z (Pv.lenS Z)<|uj Z (Pv.gtr Z Z)<|nl<|cj Z (fun h13=>?_) (fun h13=>?_)
 · simp only [dt] at h13
   have hj1:j<nx:=by omega
   obtain ⟨bf,of,cf',e,_⟩:=harg.block (by omega)
   rw [hdl] at e
   simp only [Value.slice.injEq] at e
   obtain ⟨rfl,_,rfl⟩:=e
   have hcap:=htl.cap
   rw [hdl] at hcap
   have hn0:((namesB nx).drop j)[0]! = boxN (j+1):=by
    rw [getElem!_pos _ 0 (by omega),List.getElem_drop]
    simp [namesB]
   have hfrom:=htl.from (k:=1) (by omega) (by omega)
   rw [List.drop_drop,show strE.k=1 from rfl] at hfrom
   refine kj<|bj<|wj<|wj ?_
   refine Vc.draw [10] (sd [(0,.pure),(1,.pure),(2,.pure),(3,.read),(4,.pure),(5,.pure),(6,.pure),(7,.read),(8,.pure),(9,.read),(10,.eff),(11,.pure)]) mixed (by kernel_rfl)<|mj Z<|nj Z<|fj Z<|lj Z Z<|mj Z<|nj Z<|fj Z<|lj Z Z<|uj Z (Pv.ixA (0) rfl rfl (by omega) (by omega))<|rj Z (Ev.as (kS (boxN (j+1))) (Ev.ldS (E:=strE) 0 (Arg.srcF (s:=sF) harg) rfl rfl rfl (by omega)) (congrArg kS hn0)) ?_
   refine Rg.callH Z Z Z (mz Z) (fun F' hF'=>remove_zx (F:=F') hC hD' hw' (boxN (j+1))) Z ?_
   rintro _ g ⟨e,D1,rfl,hD1,hw1,hO⟩
   refine aj Z<|nl<|sj [.p,.p] Z<|mj Z<|uj Z (Pv.neq Z Z)<|nl<|cj Z (fun h26=>?_) (fun h26=>?_)
   · simp only [bne_iff_ne,ne_eq] at h26
     refine sj [.p,.p] Z<|mj Z<|aj Z<|nl ?_
     exact Vc.ret (Vc.retsH rfl (tz Z) (⟨e,D1,rfl,hD1,hw1,by
      rcases hst with ⟨rfl,rfl⟩ | ⟨hGd,hno⟩
      · cases hdn:D'.down with
        | false =>
         obtain ⟨fs,hfl,_,hbf⟩:=hf hdn
         refine .inl ⟨rfl,?_⟩
         rcases hO with ⟨he,hG,hnone⟩ | ⟨he,hB⟩
         · rcases he with he | ⟨_,he⟩
           · exact absurd he h26
           · rw [hbf.has 0 (by omega)] at he;cases he
         · exact .inr ⟨he,hB.any⟩
        | true =>
         refine .inr ⟨rfl,fun T D0 h=>?_⟩
         rcases hO with ⟨he,hG,hnone⟩ | ⟨he,hB⟩
         · have:=hG.up0;rw [hdn] at this;cases this
         · exact h.after hB.any
      · refine .inl ⟨hGd.up0,?_⟩
        rcases hO with ⟨he,hG,hnone⟩ | ⟨he,hB⟩
        · rcases he with he | ⟨_,he⟩
          · exact absurd he h26
          · exact absurd he (hno.2.2 (j+1) (by omega) (by omega))
        · exact .inr ⟨he,hGd.dn hB.any⟩⟩) pulled)
   · simp only [bne_eq_false_iff_eq] at h26
     subst h26
     obtain ⟨_,hG,hnone⟩:=hO.resolve_right (fun h=>by cases h.1)
     obtain ⟨_,_,hnx,_⟩:=hf (hst.elim (fun h=>by rw [←h.1];exact hG.up0) (fun h=>h.1.up0))
     have hG':Gd BoxT D' D1:=hG.mono fun x hx=>⟨j+1,by omega,by omega,hx⟩
     refine kj<|tj [.p,.p,.p,.p,.r,.p,.p,.p,.e] Z<|mj Z<|mj Z<|nj Z<|fj Z<|lj Z Z<|uj Z (Pv.sl (lv:=some (.int .i64 ((1:Nat):Int))) (hv:=none) 1 (nx-j) rfl rfl rfl (by omega) hcap (fun _=>hcap))<|nj Z<|fj Z ?_
     refine Rg.store Z Z Z Z Z Z Z Z<|nl<|dj ?_
     exact Vc.inv5 (j+1) _ sF D1 g ⟨⟨by omega,hfrom,hD1,hw1,.inr (by
      have hne:∀k,k<100→k≠j+1→boxN k≠boxN (j+1):=fun k h1 h2 h3=>h2 (boxN_inj h1 (by omega) h3)
      rcases hst with ⟨rfl,rfl⟩ | ⟨hGd,hno,hno2,hyes⟩
      · obtain ⟨fs,hfl,_,hbf⟩:=hf hG.up0
        refine ⟨hG',fun k h1 h2=>by rw [show k=0+1 by omega];exact hnone,fun k h1 h2=>?_,fun k h1 h2=>?_⟩
        · rw [hG.same _ (hne k h2 (by omega))];exact hbf.non k (by omega) h2
        · rw [hG.same _ (hne k (by omega) (by omega))]
          have:=hbf.has (k-1) (by omega)
          rw [show k-1+1=k by omega] at this
          rw [this];exact fun h=>by cases h
      · refine ⟨hGd.trans hG',fun k h1 h2=>?_,fun k h1 h2=>?_,fun k h1 h2=>?_⟩
        · by_cases e:k=j+1
          · rw [e];exact hnone
          · rw [hG.same _ (hne k (by omega) e)];exact hno k h1 (by omega)
        · rw [hG.same _ (hne k h2 (by omega))];exact hno2 k h1 h2
        · rw [hG.same _ (hne k (by omega) (by omega))];exact hyes k (by omega) h2)⟩,by omega⟩ (.cons rfl .nil) pulled
 · simp only [df] at h13
   obtain rfl:j=nx:=by omega
   refine Vc.exit Z<|sj [.p] Z<|aj Z<|nl ?_
   exact Vc.ret (Vc.retsH rfl (tz Z) (⟨0,D',rfl,hD',hw',by
    rcases hst with ⟨rfl,rfl⟩ | ⟨hGd,hno,hno2,_⟩
    · cases hdn:D'.down with
      | false =>
       obtain ⟨fs,hfl,_,hbf⟩:=hf hdn
       exact .inl ⟨rfl,.inl ⟨rfl,.refl hdn,fun k h1 h2=>hbf.non k (by omega) h2⟩⟩
      | true=>exact .inr ⟨rfl,fun T D0 h=>h⟩
    · exact .inl ⟨hGd.up0,.inl ⟨rfl,hGd,fun k h1 h2=>by
       by_cases e:k≤j
       · exact hno k h1 e
       · exact hno2 k (by omega) h2⟩⟩⟩) pulled)
end
end Go.Proofs.YtkpiakgmkpbikaaGreatDoor
