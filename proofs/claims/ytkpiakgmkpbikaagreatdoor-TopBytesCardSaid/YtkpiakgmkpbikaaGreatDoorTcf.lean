/- Steps of the proof. -/
import Derived.Test.YtkpiakgmkpbikaaGreatDoorTbq
import Derived.Conc.MuLone
import Derived.KernelRfl
set_option linter.unusedVariables false
namespace Go.Proofs.YtkpiakgmkpbikaaGreatDoor
theorem stN_slT (j:Nat):stN j≠slT:=by simp [stN,slT]
theorem stN_slN (j i:Nat):stN j≠slN i:=by simp [stN,slN]
theorem stT_slT:stT≠slT:=by decide
theorem stT_slN (i:Nat):stT≠slN i:=by simp [stT,slN]
def DoesT (at_:Nat) (x:Nm):Prop:=x=stT∨x=stN at_∨x=slT
section
variable {F : Fm} {db eb : Nat} {B : Int} {C : Cx} {D : Dk} {s : Hl} {m : Ma} {dd : Bool} {p : Prg}
set_option maxHeartbeats 4000000 in
theorem does_z {a b:Value} {c:Cf} {n:Nat} (h:CfA F a b c) (hi:InC c n) (hn:n≤100) (at_:Nat) (hat:at_<100) (hm:OkM (Ma.next ⟨m.seq,m.n,m.sh,at_,p⟩)) (hC:C.Ok) (hk:slT∈C.S) (hk2:slN ((m.seq+1) % 2)∈C.S) (hk3:stT∈C.S) (hk4:stN at_∈C.S) (hcap:1000≤C.cap) (hD:DiskAt db D s) (hw:Wz C D) :
 Spec Tryz.prog 195 #[.pointer (some ⟨eb,0,none⟩),prV p,.int .i64 (at_:Int),cfV a b] F ((eb,enO db B m true dd)::s) fun v s'=>∃e D' m2 g,v=.int .i64 e∧s'=(eb,enO db B m2 true dd)::g∧DiskAt db D' g∧Wz C D' ∧
  ((e=0∧m2=Ma.next ⟨m.seq,m.n,m.sh,at_,p⟩∧Gd (fun x=>DoesT at_ x∨x=slN ((m.seq+1) % 2)) D D'∧findF D'.files stT=none∧findF D'.files slT=none∧findF D'.files (stN at_)=some ⟨stB at_ c,stB at_ c⟩∧findF D'.files (slN ((m.seq+1) % 2))=some ⟨maB m2,maB m2⟩)∨(e=7∧m2=m∧Dn (DoesT at_) D D')):=by
 obtain ⟨pv,cv,e1⟩:=h.va.shape
 obtain ⟨pl,cl,e2⟩:=h.la.shape
 subst e1;subst e2
 refine Spec.of (n:=32) (vs:=[.pointer (some ⟨eb,0,none⟩),prV p,.int .i64 (at_:Int),cfV (.slice pv c.vals.length cv) (.slice pl c.live.length cl)]) Tryz.func195 rfl Tryz.ntmps195 rfl ?_
 refine sj [.e,.e,.p] Z<|Rg.box Z Z Z Z Z (fun b5=>?_)
 refine Rg.box Z Z Z Z Z (fun b7=>?_)
 refine aj Z<|nl<|wj ?_
 refine Vc.draw [6] (sd [(0,.pure),(1,.pure),(2,.pure),(3,.read),(4,.pure),(5,.read),(6,.eff),(7,.pure)]) mixed (by kernel_rfl)<|mj Z<|nj Z<|fj Z<|lj Z Z<|mj Z<|rj Z (Ev.as (cfV (.slice pv c.vals.length cv) (.slice pl c.live.length cl)) (Ev.ldA Z Z) Z) ?_
 refine Rg.callH Z Z Z (mz Z) (fun F' hF'=>keep_z (F:=F') (h.mono fun b o h=>hF' b o (.inr h)) hi hn at_ hat hC hk3 hk4 hcap hD hw) Z ?_
 rintro _ g ⟨e,D1,rfl,hD1,hw1,hO1⟩
 refine aj Z<|nl<|wj<|sj [.p,.p] Z<|mj Z<|uj Z (Pv.neq Z Z)<|nl<|cj Z (fun h19=>?_) (fun h19=>?_)
 · simp only [bne_iff_ne,ne_eq] at h19
   obtain ⟨he7,hB⟩:=hO1.resolve_left fun h=>h19 h.1
   refine sj [.p,.p] Z<|mj Z<|aj Z<|nl ?_
   exact vr rfl (tz Z) (⟨e,D1,m,g,rfl,rfl,hD1,hw1,.inr ⟨he7,rfl,hB.mono fun x hx=>.inl hx⟩⟩) pulled
 · simp only [bne_eq_false_iff_eq] at h19
   subst h19
   obtain ⟨_,hG1,hT1,hS1⟩:=hO1.resolve_right fun h=>by cases h.1
   refine kj<|sj [.p,.p,.p,.r,.e,.e] Z<|mj Z<|nj Z<|fj Z<|rj Z (Ev.as (maV m) (Ev.ldA Z Z) Z) ?_
   refine Rg.alloc Z Z Z Z (fun b10=>?_)
   refine Rg.storeA (us:=maC m) Z Z Z Z Z Z Z Z<|nl<|wj ?_
   refine Vc.drawS [5] (sd [(0,.pure),(1,.read),(2,.pure),(3,.eff),(4,.pure),(5,.eff)]) [(b5,cellsO (prC p) 24)] pulled mixed (by kernel_rfl)<|mj Z<|rj Z (Ev.as (prV p) (Ev.ldA Z Z) Z)<|fj Z ?_
   refine Rg.storeN Z Z Z Z Z Z Z<|fj Z ?_
   refine Rg.storeA (us:=prC p) Z Z Z Z Z Z Z Z<|nl<|sj [.p,.r,.e,.p] Z<|mj Z<|rj Z (Ev.as (maV ⟨m.seq,m.n,m.sh,at_,p⟩) (Ev.ldA Z Z) Z)<|Rg.callH Z Z Z (mz Z) (fun F' hF'=>saves_z (F:=F') (B:=B) (m:=m) (is:=true) (dd:=dd) (m':=⟨m.seq,m.n,m.sh,at_,p⟩) hm hC hk hk2 (by omega) hD1 hw1) rfl ?_
   rintro _ _ ⟨e2,D2,m2,is2,g2,rfl,rfl,hD2,hor,hw2,hP⟩
   have his:is2=true:=hor.elim (fun h=>h.2.2) (fun h=>h.2.2)
   subst his
   refine aj Z<|nl ?_
   exact Vc.ret (Vc.retsH rfl (tz Z) (⟨e2,D2,m2,g2,rfl,rfl,hD2,hw2,by
    rcases hP with ⟨h0,hG2,hT2,hS2⟩ | ⟨h7,hB⟩
    · obtain ⟨_,hm2,_⟩:=hor.resolve_right fun h=>by have:=h.1;omega
      refine .inl ⟨h0,hm2,(hG1.mono fun x hx=>.inl (hx.imp id .inl)).trans (hG2.mono fun x hx=>hx.imp (fun h=>.inr (.inr h)) id),?_,hT2,?_,by rw [hm2];exact hS2⟩
      · rw [hG2.same _ (fun h=>h.elim stT_slT (stT_slN _))];exact hT1
      · rw [hG2.same _ (fun h=>h.elim (stN_slT _) (stN_slN _ _))];exact hS1
    · obtain ⟨_,hm2,_⟩:=hor.resolve_left fun h=>by have:=h.1;omega
      exact .inr ⟨h7,hm2,(hG1.mono fun x hx=>hx.imp id .inl).dn (hB.mono fun x hx=>.inr (.inr hx))⟩⟩) pulled)
end
section
variable {F : Fm} {db eb : Nat} {B : Int} {C : Cx} {D : Dk} {s : Hl} {m : Ma} {dd : Bool} {p : Prg}
set_option maxHeartbeats 4000000 in
theorem beginsA_z {c:Cf} {n:Nat} (hi:InC c n) (hn:n≤100) (j:Nat) (hj:j<100) (hst:m.step=(j:Int)) {f:Fl} (hf:findF D.files (stN j)=some f) (hfn:f.now=stB j c) (hC:C.Ok) (hD:DiskAt db D s) (hw:Wz C D) :
 Spec Tryz.prog 192 #[.pointer (some ⟨eb,0,none⟩),prV p] F ((eb,enO db B m true dd)::s) fun v s'=>∃x y e D' s1 g,v=.tuple #[cfV x y,.int .i64 e]∧x.oneCell'=true∧y.oneCell'=true∧s'=(eb,enO db B m true dd)::(s1++g)∧DiskAt db D' g∧Out C none1 (fun _=>CfO (cfV x y) c s1) D 0 e D':=by
 refine Spec.of (n:=45) (vs:=[.pointer (some ⟨eb,0,none⟩),prV p]) Tryz.func192 rfl Tryz.ntmps192 rfl ?_
 refine sj [.e,.e,.p] Z<|Rg.box Z Z Z Z Z (fun b3=>?_)
 refine Rg.alloc Z Z Z Z (fun b4=>?_)
 refine aj Z<|nl<|wj<|sj [.p,.p,.p,.p,.r,.p] Z<|mj Z<|nj Z<|fj Z<|fj Z<|rj Z (Ev.as (.int .i64 (j:Int)) (Ev.ld rfl rfl) (by rw [hst]))<|uj Z (Pv.geq Z Z)<|nl<|cj Z (fun h13=>?_) (fun h13=>absurd h13 (by simp))
 refine wj ?_
 refine Vc.draw [9,12] (sd [(0,.pure),(1,.pure),(2,.pure),(3,.read),(4,.pure),(5,.pure),(6,.pure),(7,.pure),(8,.read),(9,.eff),(10,.pure),(11,.pure),(12,.eff),(13,.pure)]) mixed (by kernel_rfl)<|mj Z<|nj Z<|fj Z<|lj Z Z<|mj Z<|nj Z<|fj Z<|fj Z<|rj Z (Ev.as (.int .i64 (j:Int)) (Ev.ld rfl rfl) (by rw [hst])) ?_
 refine Rg.callH Z Z Z (mz Z) (fun F' hF'=>state_z (F:=F') hi hn j hj hf hfn hC hD hw) Z ?_
 rintro _ _ ⟨x,y,e,D1,s1,s2,rfl,hx1,hy1,rfl,hD1,hO1⟩
 rw [lx]
 refine xj Z Z<|xj Z Z<|Rg.storeA (us:=[x,y]) rfl rfl rfl rfl rfl (by simp [hx1,hy1]) rfl rfl<|aj Z<|nl ?_
 exact vr rfl (.cons (.cellA rfl rfl) (tz Z)) (⟨x,y,e,D1,s1,s2,rfl,hx1,hy1,rfl,hD1,hO1⟩) pulled
def DoesP (C:Cx) (m:Ma) (p:Prg) (at_:Nat) (c:Cf) (D:Dk) (e:Int) (D':Dk) (m2:Ma):Prop:=Wz C D' ∧
 ((e=0∧m2=Ma.next ⟨m.seq,m.n,m.sh,at_,p⟩∧Gd (fun x=>DoesT at_ x∨x=slN ((m.seq+1) % 2)) D D'∧findF D'.files stT=none∧findF D'.files slT=none∧findF D'.files (stN at_)=some ⟨stB at_ c,stB at_ c⟩∧findF D'.files (slN ((m.seq+1) % 2))=some ⟨maB m2,maB m2⟩)∨(e=7∧m2=m∧Dn (DoesT at_) D D'))
set_option maxHeartbeats 4000000 in
theorem beginsB_z {n:Nat} (hmn:m.n=n) (hn:n≤100) (hp:p.start<4294967296) (hr:rightP p (n:Int)=true) (hi:InC (startC p n) n) (hst:m.step = -1) (hm:OkM (Ma.next ⟨m.seq,m.n,m.sh,((0:Nat):Int),p⟩)) (hC:C.Ok) (hk:slT∈C.S) (hk2:slN ((m.seq+1) % 2)∈C.S) (hk3:stT∈C.S) (hk4:stN 0∈C.S) (hcap:1000≤C.cap) (hD:DiskAt db D s) (hw:Wz C D) :
 Spec Tryz.prog 192 #[.pointer (some ⟨eb,0,none⟩),prV p] F ((eb,enO db B m true dd)::s) fun v s'=>∃x y e D' m2 s1 g,v=.tuple #[cfV x y,.int .i64 e]∧x.oneCell'=true∧y.oneCell'=true∧s'=(eb,enO db B m2 true dd)::(s1++g)∧DiskAt db D' g∧CfO (cfV x y) (startC p n) s1∧DoesP C m p 0 (startC p n) D e D' m2:=by
 refine Spec.of (n:=45) (vs:=[.pointer (some ⟨eb,0,none⟩),prV p]) Tryz.func192 rfl Tryz.ntmps192 rfl ?_
 refine sj [.e,.e,.p] Z<|Rg.box Z Z Z Z Z (fun b3=>?_)
 refine Rg.alloc Z Z Z Z (fun b4=>?_)
 refine aj Z<|nl<|wj<|sj [.p,.p,.p,.p,.r,.p] Z<|mj Z<|nj Z<|fj Z<|fj Z<|rj Z (Ev.as (.int .i64 (-1)) (Ev.ld rfl rfl) (by rw [hst]))<|uj Z (Pv.geq Z Z)<|nl<|cj Z (fun h13=>absurd h13 (by decide)) (fun h13=>?_)
 refine kj<|wj ?_
 refine Vc.draw [12] (.st 0 .read (.st 1 .pure (.st 2 .pure (.st 3 .pure (.st 4 .pure (.st 5 .read (.st 6 .pure (.two 7 (sd [(8,.pure),(9,.pure),(10,.pure),(11,.eff),(12,.eff),(13,.pure)]) 11 (sd [(7,.eff),(8,.pure),(9,.pure),(10,.pure),(12,.eff),(13,.pure)]))))))))) mixed (by kernel_rfl)<|rj Z (Ev.as (prV p) (Ev.ldA Z Z) Z)<|mj Z<|nj Z<|fj Z<|fj Z<|rj Z (Ev.as (.int .i64 (n:Int)) (Ev.ld rfl rfl) (by rw [hmn]))<|uj Z (Pv.build (c:=#[.int .i64 (n:Int),.slice none 0 0]) Z Z) ?_
 refine Rg.two ?_ ?_
 · refine Rg.callA Z Z Z (mz Z) (tstart_spec hp n (by omega) hr) ?_
   rintro v34 s34 ⟨u34,rfl,x,y,q1,q2,rfl,o1,o2,rfl⟩
   have hx1:=o1.one
   have hy1:=o2.one
   rw [lx]
   refine mj Z<|xj Z Z<|xj Z Z<|Rg.alloc Z Z Z Z (fun b6=>?_)
   refine Rg.storeA (us:=[x,y]) rfl rfl rfl rfl rfl (by simp [hx1,hy1]) rfl rfl<|aj Z<|nl<|wj<|sj [.p,.p] Z<|mj Z<|uj Z (Pv.eql Z Z)<|nl<|cj Z (fun h38=>?_) (fun h38=>absurd h38 (by decide))
   refine tj [.p,.r,.r,.e,.p] Z<|mj Z<|rj Z (Ev.as (prV p) (Ev.ldA Z Z) Z)<|rj Z (Ev.as (cfV x y) (Ev.ldA Z Z) Z)<|Rg.callH Z Z Z (mz Z) (fun F' hF'=>does_z (F:=F') (B:=B) (m:=m) (dd:=dd) (p:=p) (s:=s) ⟨Arg.own o1 fun b o h=>hF' b o (.inl (by simp [h])),Arg.own o2 fun b o h=>hF' b o (.inl (by simp [h])),by rw [hi.vl,hi.ll],by rw [hi.vl];omega⟩ hi hn 0 (by omega) hm hC hk hk2 hk3 hk4 hcap hD hw) rfl ?_
   rintro _ _ ⟨e,D1,m2,g,rfl,rfl,hD1,hP⟩
   refine aj Z<|nl<|sj [.r,.p,.e,.p] Z<|rj Z (Ev.as (cfV x y) (Ev.ldA Z Z) Z)<|mj Z<|Rg.storeA (us:=[x,y]) rfl rfl rfl rfl rfl (by simp [hx1,hy1]) rfl rfl<|aj Z<|nl ?_
   exact vr (hl':=(eb,enO db B m2 true dd)::(q1++(q2++g))) rfl (.cons (.cellA rfl rfl) (tz Z)) ⟨x,y,e,D1,m2,q1++q2,g,rfl,hx1,hy1,by rw [lx],hD1,⟨x,y,q1,q2,rfl,o1,o2,rfl⟩,hP⟩ pulled
 · refine Rg.alloc Z Z Z Z (fun b6=>?_)
   refine Rg.callA Z Z Z (mz Z) (tstart_spec hp n (by omega) hr) ?_
   rintro v34 s34 ⟨u34,rfl,x,y,q1,q2,rfl,o1,o2,rfl⟩
   have hx1:=o1.one
   have hy1:=o2.one
   rw [lx]
   refine mj Z<|xj Z Z<|xj Z Z<|Rg.storeA (us:=[x,y]) rfl rfl rfl rfl rfl (by simp [hx1,hy1]) rfl rfl<|aj Z<|nl<|wj<|sj [.p,.p] Z<|mj Z<|uj Z (Pv.eql Z Z)<|nl<|cj Z (fun h38=>?_) (fun h38=>absurd h38 (by decide))
   refine tj [.p,.r,.r,.e,.p] Z<|mj Z<|rj Z (Ev.as (prV p) (Ev.ldA Z Z) Z)<|rj Z (Ev.as (cfV x y) (Ev.ldA Z Z) Z)<|Rg.callH Z Z Z (mz Z) (fun F' hF'=>does_z (F:=F') (B:=B) (m:=m) (dd:=dd) (p:=p) (s:=s) ⟨Arg.own o1 fun b o h=>hF' b o (.inl (by simp [h])),Arg.own o2 fun b o h=>hF' b o (.inl (by simp [h])),by rw [hi.vl,hi.ll],by rw [hi.vl];omega⟩ hi hn 0 (by omega) hm hC hk hk2 hk3 hk4 hcap hD hw) rfl ?_
   rintro _ _ ⟨e,D1,m2,g,rfl,rfl,hD1,hP⟩
   refine aj Z<|nl<|sj [.r,.p,.e,.p] Z<|rj Z (Ev.as (cfV x y) (Ev.ldA Z Z) Z)<|mj Z<|Rg.storeA (us:=[x,y]) rfl rfl rfl rfl rfl (by simp [hx1,hy1]) rfl rfl<|aj Z<|nl ?_
   exact vr (hl':=(eb,enO db B m2 true dd)::(q1++(q2++g))) rfl (.cons (.cellA rfl rfl) (tz Z)) ⟨x,y,e,D1,m2,q1++q2,g,rfl,hx1,hy1,by rw [lx],hD1,⟨x,y,q1,q2,rfl,o1,o2,rfl⟩,hP⟩ pulled
end
open ED (Eg)
structure SlotsM (D:Dk) (m:Ma):Prop where
 ok:OkM m
 here:findF D.files (slN (m.seq % 2))=some ⟨maB m,maB m⟩
 other:∃o,SlotI D ((m.seq+1) % 2) o∧∀x,o=some x→x.seq<m.seq
def SlotsN (D:Dk):Prop:=findF D.files (slN 0)=none∧findF D.files (slN 1)=none
def SlotsO (D:Dk):Option Ma→Prop
 | none=>SlotsN D
 | some m=>SlotsM D m
theorem SlotsO.slots {D:Dk} {mo:Option Ma} (h:SlotsO D mo):∃o0 o1,SlotI D 0 o0∧SlotI D 1 o1∧pickM o0 o1=mo:=by
 cases mo with
 | none=>exact ⟨none,none,⟨(fun _ h=>by cases h),h.1⟩,⟨(fun _ h=>by cases h),h.2⟩,rfl⟩
 | some m =>
  obtain ⟨hok,hh,o,ho,hlt⟩:=h
  have hm:OkO (some m):=fun x hx=>by cases hx;exact hok
  rcases Nat.mod_two_eq_zero_or_one m.seq with e | e
  · rw [e] at hh
    rw [show (m.seq+1) % 2=1 by omega] at ho
    refine ⟨some m,o,⟨hm,hh⟩,ho,?_⟩
    cases o with
    | none=>rfl
    | some x =>
     have:=hlt x rfl
     show (if m.seq<x.seq then some x else some m)=some m
     rw [if_neg (by omega)]
  · rw [e] at hh
    rw [show (m.seq+1) % 2=0 by omega] at ho
    refine ⟨o,some m,ho,⟨hm,hh⟩,?_⟩
    cases o with
    | none=>rfl
    | some x =>
     have:=hlt x rfl
     show (if x.seq<m.seq then some m else some x)=some m
     rw [if_pos (by omega)]
theorem SlotsM.next {D D':Dk} {m m2:Ma} (h:SlotsM D m) (hok:OkM m2) (hs:m2.seq=m.seq+1) (hn:findF D'.files (slN ((m.seq+1) % 2))=some ⟨maB m2,maB m2⟩) (ho:findF D'.files (slN (m.seq % 2))=findF D.files (slN (m.seq % 2))):SlotsM D' m2:=by
 refine ⟨hok,by rw [hs];exact hn,some m,⟨(fun x hx=>by cases hx;exact h.ok),?_⟩,(fun x hx=>by cases hx;omega)⟩
 rw [hs,show (m.seq+1+1) % 2=m.seq % 2 by omega,ho]
 exact h.here
theorem SlotsM.first {D D':Dk} {m2:Ma} (h:SlotsN D) (hok:OkM m2) (hs:m2.seq=1) (hn:findF D'.files (slN 1)=some ⟨maB m2,maB m2⟩) (ho:findF D'.files (slN 0)=findF D.files (slN 0)):SlotsM D' m2:=by
 refine ⟨hok,by rw [hs];exact hn,none,⟨(fun x hx=>by cases hx),?_⟩,(fun x hx=>by cases hx)⟩
 rw [hs]
 exact ho.trans h.1
theorem kept_set {a b:Option Fl} {f:List UInt8} (h:Kept a b) (ha:a=some ⟨f,f⟩):b=some ⟨f,f⟩:=by
 subst ha
 obtain ⟨f',rfl,hf⟩:=h
 rw [hf rfl]
theorem kept_none {a b:Option Fl} (h:Kept a b) (ha:a=none):b=none:=by subst ha;exact h
theorem SlotI.kept {D D':Dk} {i:Nat} {o:Option Ma} (h:SlotI D i o) (hk:Kept (findF D.files (slN i)) (findF D'.files (slN i))):SlotI D' i o:=by
 refine ⟨h.1,?_⟩
 cases o with
 | none=>exact kept_none hk h.2
 | some m=>exact kept_set hk h.2
theorem SlotsO.kept {D D':Dk} {mo:Option Ma} (h:SlotsO D mo) (hk:∀i,i<2→Kept (findF D.files (slN i)) (findF D'.files (slN i))):SlotsO D' mo:=by
 cases mo with
 | none=>exact ⟨kept_none (hk 0 (by omega)) h.1,kept_none (hk 1 (by omega)) h.2⟩
 | some m =>
  obtain ⟨hok,hh,o,ho,hlt⟩:=h
  exact ⟨hok,kept_set (hk _ (by omega)) hh,o,ho.kept (hk _ (by omega)),hlt⟩
theorem SlotsO.same {D D':Dk} {mo:Option Ma} (h:SlotsO D mo) (hk:∀i,i<2→findF D'.files (slN i)=findF D.files (slN i)):SlotsO D' mo :=
 h.kept fun i hi=>by rw [hk i hi];exact Kept.refl _
def conf (p:Prg) (n:Nat) (es:List Eg):Nat→Cf
 | 0=>startC p n
 | j+1=>stepT p es (conf p n es j)
structure Lasts (n sh:Nat) (es:List Eg) (D:Dk) (m:Ma):Prop where
 hn:m.n=n
 hsh:m.sh=sh
 shards:∀i,i<sh→ShOk n sh es D i
 steps:∀j:Nat,(j:Int)≤m.step→findF D.files (stN j)=some ⟨stB j (conf m.p n es j),stB j (conf m.p n es j)⟩
theorem Lasts.kept {n sh:Nat} {es:List Eg} {D D':Dk} {m:Ma} (h:Lasts n sh es D m) (h1:∀i,i<sh→Kept (findF D.files (shN i)) (findF D'.files (shN i))) (h2:∀j:Nat,(j:Int)≤m.step→Kept (findF D.files (stN j)) (findF D'.files (stN j))):Lasts n sh es D' m :=
 ⟨h.hn,h.hsh,fun i hi=>kept_set (h1 i hi) (h.shards i hi),fun j hj=>kept_set (h2 j hj) (h.steps j hj)⟩
end Go.Proofs.YtkpiakgmkpbikaaGreatDoor
namespace Go.Proofs.YtkpiakgmkpbikaaGreatDoor
section
variable {F : Fm} {db eb : Nat} {B : Int} {m : Ma} {is dd : Bool}
theorem status_spec (f1:Fat F eb (enO db B m is dd)):Spec Tryz.prog 169 #[.pointer (some ⟨eb,0,none⟩)] F [] fun v _=>v=.tuple #[.bool is,.int .i64 (if is=true then m.step else -1),prV (if is=true then m.p else ⟨0,0⟩)]:=by
 refine Spec.of (n:=21) (vs:=[.pointer (some ⟨eb,0,none⟩)]) Tryz.func169 rfl Tryz.ntmps169 rfl ?_
 refine sj [.p,.p,.e] Z<|aj Z<|aj Z<|Rg.alloc Z Z Z Z (fun b4=>?_)
 refine nl<|wj<|sj [.p,.p,.p,.r,.p] Z<|mj Z<|nj Z<|fj Z<|lj Z Z<|uj Z (Pv.not Z)<|nl<|cj Z (fun h9=>?_) (fun h9=>?_)
 · simp only [Bool.not_eq_true'] at h9
   subst h9
   refine sj [.p,.p,.p,.e] Z<|uj Z (Pv.build (c:=#[.int .i64 0,.int .u32 0]) Z Z)<|aj Z<|aj Z<|Rg.storeA (us:=[.int .i64 0,.int .u32 0]) Z Z Z Z Z Z Z Z<|nl<|Vc.ret (Vc.rets Z (.cons (.tmp Z) (.cons (.tmp Z) (.cons (.cellA Z Z) (.nil)))) ?_)
   rfl
 · simp only [Bool.not_eq_false'] at h9
   subst h9
   refine kj<|wj ?_
   refine Vc.draw [12] (sd [(0,.pure),(1,.pure),(2,.pure),(3,.pure),(4,.read),(5,.pure),(6,.pure),(7,.pure),(8,.pure),(9,.read),(10,.pure),(11,.pure),(12,.eff)]) mixed (by kernel_rfl)<|mj Z<|nj Z<|fj Z<|fj Z<|lj Z Z<|mj Z<|nj Z<|fj Z<|fj Z<|rj Z (Ev.as (prV m.p) (Ev.ldA Z Z) Z)<|aj Z<|aj Z ?_
   refine Rg.storeA (us:=prC m.p) Z Z Z Z Z Z Z Z<|nl<|Vc.ret (Vc.rets Z (.cons (.tmp Z) (.cons (.tmp Z) (.cons (.cellA Z Z) (.nil)))) ?_)
   rfl
end
section
variable {F : Fm} {db eb : Nat} {B : Int} {C : Cx} {D : Dk} {s : Hl} {m : Ma}
set_option maxHeartbeats 4000000 in
theorem query_z {c:Cf} {n:Nat} (hi:InC c n) (hn:n≤100) (hmn:m.n=n) (j at_ v:Nat) (hst:m.step=(j:Int)) (hat:at_≤j) (hj:j<100) (hv:v<n) {f:Fl} (hf:findF D.files (stN at_)=some f) (hfn:f.now=stB at_ c) (hC:C.Ok) (hD:DiskAt db D s) (hw:Wz C D) :
 Spec Tryz.prog 180 #[.pointer (some ⟨eb,0,none⟩),.int .i64 (at_:Int),.int .i64 (v:Int)] F ((eb,enO db B m true false)::s) fun w s'=>∃(val:Int) (b:Bool) (e:Int) (D':Dk) (dd:Bool) (g:Hl),w=.tuple #[.int .u64 val,.bool b,.int .i64 e]∧s'=(eb,enO db B m true dd)::g∧DiskAt db D' g∧(e=0→dd=false)∧Out C none1 (fun _=>val=c.vals[v]! ∧ b=c.live[v]!) D 0 e D':=by
 have hvl:=hi.vl
 have hll:=hi.ll
 refine Spec.of (n:=80) (vs:=[.pointer (some ⟨eb,0,none⟩),.int .i64 (at_:Int),.int .i64 (v:Int)]) Tryz.func180 rfl Tryz.ntmps180 rfl ?_
 refine sj [.p,.p,.p] Z<|aj Z<|aj Z<|aj Z<|nl<|wj<|bj<|sj [.p,.p,.p,.r,.p,.p,.p,.p,.r,.p,.p,.p,.p,.p,.p,.p,.r,.p,.p,.p] Z<|mj Z<|nj Z<|fj Z<|lj Z Z<|mj Z ?_
 refine Rg.split (t:=16) rfl (fun h16=>absurd h16 (by decide)) (fun h16=>?_)
 refine mj Z<|nj Z<|fj Z<|lj Z Z<|uj Z (Pv.not Z)<|pj Z Z<|mj Z ?_
 refine Rg.split (t:=23) rfl (fun h23=>absurd h23 (by decide)) (fun h23=>?_)
 refine mj Z<|nj Z<|fj Z<|fj Z<|rj Z (Ev.as (.int .i64 (j:Int)) (Ev.ld rfl rfl) (by rw [hst]))<|uj Z (Pv.lss Z Z)<|pj Z Z<|aj Z<|nl<|cj Z (fun h11=>absurd h11 (by simp only [dt];omega)) (fun h11=>?_)
 refine sj [.p,.p,.p,.p,.p,.p,.p,.p,.r,.p,.p,.p,.p,.p,.p,.p,.p,.p,.p,.p,.p,.r,.p,.p,.p] Z<|mj Z<|uj Z (Pv.lss Z Z)<|mj Z<|Rg.split (t:=34) rfl (fun h34=>absurd h34 (by simp only [dt];omega)) (fun h34=>?_)
 refine mj Z<|mj Z<|nj Z<|fj Z<|fj Z<|rj Z (Ev.as (.int .i64 (j:Int)) (Ev.ld rfl rfl) (by rw [hst]))<|uj Z (Pv.gtr Z Z)<|pj Z Z<|mj Z ?_
 refine Rg.split (t:=43) rfl (fun h43=>absurd h43 (by simp only [dt];omega)) (fun h43=>?_)
 refine mj Z<|uj Z (Pv.lss Z Z)<|pj Z Z<|mj Z<|Rg.split (t:=47) rfl (fun h47=>absurd h47 (by simp only [dt];omega)) (fun h47=>?_)
 refine mj Z<|mj Z<|nj Z<|fj Z<|fj Z<|rj Z (Ev.as (.int .i64 (n:Int)) (Ev.ld rfl rfl) (by rw [hmn]))<|uj Z (Pv.geq Z Z)<|pj Z Z<|aj Z<|nl<|cj Z (fun h31=>absurd h31 (by simp only [dt];omega)) (fun h31=>?_)
 refine kj<|dj<|sj [.p,.p,.p,.r,.p,.e,.p,.p,.p,.e,.e,.p] Z<|mj Z<|nj Z<|fj Z<|lj Z Z<|mj Z ?_
 refine Rg.callH Z Z Z (mz Z) (fun F' hF'=>state_z (F:=F') hi hn at_ (by omega) hf hfn hC hD hw) rfl ?_
 rintro _ _ ⟨x,y,e,D1,s1,s2,rfl,hx1,hy1,rfl,hD1,hO1⟩
 rw [lx]
 refine mj Z<|xj Z Z<|xj Z Z<|Rg.alloc Z Z Z Z (fun b9=>?_)
 refine Rg.storeA (us:=[x,y]) rfl rfl rfl rfl rfl (by simp [hx1,hy1]) rfl rfl<|aj Z<|nl<|wj<|sj [.p,.p] Z<|mj Z<|uj Z (Pv.neq Z Z)<|nl<|cj Z (fun h66=>?_) (fun h66=>?_)
 · simp only [bne_iff_ne,ne_eq] at h66
   obtain ⟨he7,hB⟩:=hO1.bad h66
   subst he7
   refine sj [.p,.p,.e,.p,.p,.p] Z<|mj Z<|mj Z<|Rg.callH Z Z Z (mz Z) (fun F' hF'=>told_spec (F:=F') (db:=db) (B:=B) (m:=m) (is:=true) (dd:=false) 7 (by decide)) rfl ?_
   rintro _ _ ⟨rfl,rfl⟩
   refine aj Z<|aj Z<|aj Z<|nl ?_
   exact vr rfl (.cons (.tmp rfl) (.cons (.tmp rfl) (tz Z))) (⟨0,false,7,D1,(false||decide (7=7)),s2,rfl,rfl,hD1,(fun h=>by cases h),hO1.1,.inr ⟨rfl,hB⟩⟩) pulled
 · simp only [bne_eq_false_iff_eq] at h66
   subst h66
   obtain ⟨_,hG1,a,b,q1,q2,hab,o1,o2,rfl⟩:=hO1.good (by decide)
   injection hab with hab
   injection hab with hab
   injection hab with ha hab
   injection hab with hb _
   subst ha;subst hb
   obtain ⟨b1,c1,sp1,e1,_⟩:=o1.block (by omega)
   obtain ⟨b2,c2,sp2,e2,_⟩:=o2.block (by omega)
   subst e1;subst e2
   refine kj<|wj ?_
   refine Vc.draw [] (sd [(0,.pure),(1,.read),(2,.pure),(3,.pure),(4,.read),(5,.pure),(6,.read),(7,.pure),(8,.pure),(9,.read),(10,.pure),(11,.pure),(12,.pure)]) mixed (by kernel_rfl)<|fj Z<|lj Z Z<|mj Z<|uj Z (Pv.ixA (v) rfl rfl (by omega) (by omega))<|rj Z (Ev.as (.int .u64 c.vals[v]!) (Ev.ldS (E:=u64E) v (Src.own (rest:=[]) o1 (fun x hx=>by simp [hx])) rfl rfl rfl (by omega)) rfl)<|fj Z<|lj Z Z<|mj Z<|uj Z (Pv.ixA (v) rfl rfl (by omega) (by omega))<|rj Z (Ev.as (.bool c.live[v]!) (Ev.ldS (E:=boolE) v (Src.own (rest:=[]) o2 (fun x hx=>by simp [hx])) rfl rfl rfl (by omega)) rfl)<|aj Z<|aj Z<|aj Z<|nl ?_
   exact vr rfl (.cons (.tmp rfl) (.cons (.tmp rfl) (tz Z))) (⟨c.vals[v]!,c.live[v]!,0,D1,false,s2,rfl,rfl,hD1,(fun _=>rfl),hO1.1,.inl ⟨rfl,hG1,rfl,rfl⟩⟩) pulled
end
section
variable {F : Fm} {db : Nat} {C : Cx} {D : Dk} {s : Hl}
set_option maxHeartbeats 600000 in
theorem open_z (hA:AtoiN F) (hN:NmsOk C) {mo:Option Ma} (hS:SlotsO D mo) (hsh:(mo.getD ma0).sh<100) {B:Int} (hB:1≤B) (hC:C.Ok) (hD:DiskAt db D s) (hw:Wz C D) (hup:D.down=false) :
 Spec Tryz.prog 31 #[.pointer (some ⟨db,0,none⟩),.int .i64 B] F s fun v s'=>∃u e D' s1 g,v=.tuple #[u,.int .i64 e]∧s'=s1++g∧DiskAt db D' g∧Wz C D'∧((e=0∧(∃eb,u=.pointer (some ⟨eb,0,none⟩)∧s1=[(eb,enO db B (mo.getD ma0) mo.isSome false)])∧Gd (fun k=>¬Stays k (mo.getD ma0) mo.isSome) D D'∧∀k,¬Stays k (mo.getD ma0) mo.isSome→findF D'.files k=none)∨(e=7∧u=.pointer none∧s1=[]∧Dn (fun k=>¬Stays k (mo.getD ma0) mo.isSome) D D')):=by
 obtain ⟨o0,o1,h0,h1,hp⟩:=hS.slots
 subst hp
 refine Spec.of (n:=32) (vs:=[.pointer (some ⟨db,0,none⟩),.int .i64 B]) Tryz.func31 rfl Tryz.ntmps31 rfl ?_
 refine sj [.p,.p] Z<|aj Z<|aj Z<|nl<|wj<|sj [.p,.p] Z<|mj Z<|uj Z (Pv.lss Z Z)<|nl<|cj Z (fun h11=>absurd h11 (by simp only [dt];omega)) (fun h11=>?_)
 refine kj<|wj<|sj [.p,.e,.p] Z<|mj Z<|Rg.callH Z Z Z (mz Z) (fun F' hF'=>sweep_z (F:=F') (fun F2 hF2=>hA F2 fun b o h=>hF2 b o (hF' b o (.inr h))) hN h0 h1 hsh hC hD hw hup) Z ?_
 rintro _ g ⟨e,D1,rfl,hD1,hw1,hO1⟩
 refine aj Z<|nl<|sj [.p,.p] Z<|mj Z<|uj Z (Pv.neq Z Z)<|nl<|cj Z (fun h15=>?_) (fun h15=>?_)
 · simp only [bne_iff_ne,ne_eq] at h15
   obtain ⟨he7,hB1⟩:=hO1.resolve_left fun h=>h15 h.1
   subst he7
   refine sj [.p,.p,.p] Z<|mj Z<|aj Z<|aj Z<|nl ?_
   exact vr (hl':=g) rfl (.cons (.tmp rfl) (tz Z)) ⟨_,7,D1,[],g,rfl,rfl,hD1,hw1,.inr ⟨rfl,rfl,rfl,hB1⟩⟩ pulled
 · simp only [bne_eq_false_iff_eq] at h15
   subst h15
   obtain ⟨_,hG1,hno⟩:=hO1.resolve_right fun h=>by cases h.1
   have g0:SlotI D1 0 o0:=h0.same (hG1.same _ fun h=>h (.inl rfl))
   have g1:SlotI D1 1 o1:=h1.same (hG1.same _ fun h=>h (.inr (.inl rfl)))
   refine kj<|sj [.p,.e,.p,.p,.p,.p,.e,.e,.p,.p] Z<|mj Z<|Rg.callH Z Z Z (mz Z) (fun F' hF'=>load_z (F:=F') g0 g1 hC hD1 hw1 hG1.up) Z ?_
   rintro _ g2 ⟨m,bb,e2,D2,rfl,hD2,hO2⟩
   refine mj Z<|xj Z Z<|xj Z Z<|xj Z Z<|Rg.alloc Z Z Z Z (fun b7=>?_)
   refine Rg.storeA (us:=maC m) Z Z Z Z Z Z Z Z<|aj Z<|aj Z<|nl<|wj<|sj [.p,.p] Z<|mj Z<|uj Z (Pv.neq Z Z)<|nl<|cj Z (fun h24=>?_) (fun h24=>?_)
   · simp only [bne_iff_ne,ne_eq] at h24
     obtain ⟨he7,hB2⟩:=hO2.bad h24
     subst he7
     refine sj [.p,.p,.p] Z<|mj Z<|aj Z<|aj Z<|nl ?_
     exact vr (hl':=g2) rfl (.cons (.tmp rfl) (tz Z)) ⟨_,7,D2,[],g2,rfl,rfl,hD2,hO2.1,.inr ⟨rfl,rfl,rfl,hG1.dn hB2.any⟩⟩ pulled
   · simp only [bne_eq_false_iff_eq] at h24
     subst h24
     obtain ⟨_,hG2,hm,hbb⟩:=hO2.good (by decide)
     subst hm;subst hbb
     generalize (pickM o0 o1).getD ma0=mm at hsh hG1 hno ⊢
     generalize (pickM o0 o1).isSome=ib at hG1 hno ⊢
     refine kj<|sj [.p,.p,.r,.p,.p,.e,.p,.p] Z<|mj Z<|mj Z<|rj Z (Ev.as (maV mm) (Ev.ldA Z Z) Z)<|mj Z<|uj Z (Pv.build (c:=#[.pointer (some ⟨db,0,none⟩),.int .i64 B,.int .u64 (mm.seq:Int),.int .i64 (mm.n:Int),.int .i64 (mm.sh:Int),.int .i64 mm.step,.int .i64 mm.p.kind,.int .u32 (mm.p.start:Int),.bool ib,.bool false]) rfl (by kernel_rfl))<|Rg.box Z Z Z Z Z (fun b31=>?_)
     refine aj Z<|aj Z<|nl ?_
     exact vr rfl (.cons (.tmp rfl) (tz Z)) (⟨_,0,D2,[(b31,enO db B mm ib false)],g2,rfl,rfl,hD2,hO2.1,.inl ⟨rfl,⟨b31,rfl,rfl⟩,hG1.trans hG2.any,fun k hk=>by rw [hG2.same k id];exact hno k hk⟩⟩) pulled
end
open ED (Eg egV egC edgeE InE grV)
structure Ends (p:Prg) (n:Nat) (es:List Eg) (most d:Nat):Prop where
 le:d≤most
 loud:∀i,i<d→quietC (conf p n es i)=false
 quiet:d<most→quietC (conf p n es d)=true
structure EI (p:Prg) (n sh:Nat) (es:List Eg) (d:Nat) (D:Dk) (m:Ma):Prop where
 slots:SlotsM D m
 lasts:Lasts n sh es D m
 seq:(m.seq:Int)=m.step+2
 how:m.step = -1∨(m.p=p∧∃j:Nat,j≤d∧m.step=(j:Int))
theorem Ends.go {p:Prg} {n:Nat} {es:List Eg} {most d j:Nat} (h:Ends p n es most d) (hj:j≤d) (hm:j<most) (hq:quietC (conf p n es j)=false):j+1≤d:=by
 rcases Nat.lt_or_ge j d with h1 | h1
 · exact h1
 · have e:j=d:=by omega
   subst e
   rw [h.quiet hm] at hq
   cases hq
theorem Ends.stop {p:Prg} {n:Nat} {es:List Eg} {most d j:Nat} (h:Ends p n es most d) (hj:j≤d) (hs : ¬j<most∨quietC (conf p n es j)=true):j=d:=by
 have:=h.le
 rcases Nat.lt_or_ge j d with h1 | h1
 · rcases hs with hs | hs
   · omega
   · rw [h.loud j h1] at hs;cases hs
 · omega
theorem slN_inj {i j:Nat} (hi:i<100) (hj:j<100) (h:slN i=slN j):i=j:=dig_inj hi hj (List.append_cancel_left (show [115,108,111,116,46]++dig i=[115,108,111,116,46]++dig j from h))
theorem slN_does (i at_:Nat) (hi:i<100) : ¬DoesT at_ (slN i):=by
 rintro (h | h | h)
 · exact stT_slN i h.symm
 · exact stN_slN _ _ h.symm
 · exact slT_ne i hi h.symm
theorem shN_does (i at_:Nat) : ¬DoesT at_ (shN i):=by
 rintro (h | h | h)
 · simp [shN,stT] at h
 · simp [shN,stN] at h
 · simp [shN,slT] at h
theorem shN_slN (i j:Nat):shN i≠slN j:=by simp [shN,slN]
theorem stN_does {i at_:Nat} (hi:i<100) (ha:at_<100) (hne:i≠at_) : ¬DoesT at_ (stN i):=by
 rintro (h | h | h)
 · exact stT_stN hi h.symm
 · exact hne (stN_inj hi ha h)
 · exact stN_slT _ h
theorem EI.does {C:Cx} {p:Prg} {n sh d at_:Nat} {es:List Eg} {D D':Dk} {m m2:Ma} {e:Int} (h:EI p n sh es d D m) (ha:(at_:Int)=m.step+1) (had:at_≤d) (hd:d<100) (hok:OkM (Ma.next ⟨m.seq,m.n,m.sh,(at_:Int),p⟩)) (hP:DoesP C m p at_ (conf p n es at_) D e D' m2) :
 EI p n sh es d D' m2∧(e=0→m2.step=(at_:Int)∧m2.p=p):=by
 have hsq:=h.seq
 rcases hP.2 with ⟨h0,rfl,hG,_,_,hst,hsl⟩ | ⟨h7,rfl,hB⟩
 · refine ⟨⟨h.slots.next hok rfl hsl (hG.same _ fun hx=>hx.elim (slN_does _ _ (by omega)) fun hx=>by have:=slN_inj (by omega) (by omega) hx;omega),⟨h.lasts.hn,h.lasts.hsh,fun i hi=>?_,fun j hj=>?_⟩,?_,.inr ⟨rfl,at_,had,rfl⟩⟩,fun _=>⟨rfl,rfl⟩⟩
   · have:=h.lasts.shards i hi
     unfold ShOk at this ⊢
     rw [hG.same _ fun hx=>hx.elim (shN_does _ _) (shN_slN _ _)]
     exact this
   · have hj':(j:Int)≤(at_:Int):=hj
     show findF D'.files (stN j)=some ⟨stB j (conf p n es j),stB j (conf p n es j)⟩
     by_cases e1:j=at_
     · rw [e1];exact hst
     · have hj1:(j:Int)≤m.step:=by omega
       rcases h.how with hm | ⟨hp,_⟩
       · omega
       · rw [hG.same _ fun hx=>hx.elim (stN_does (by omega) (by omega) e1) (stN_slN _ _)]
         have:=h.lasts.steps j hj1
         rwa [hp] at this
   · show ((m.seq+1:Nat):Int)=(at_:Int)+2
     omega
 · refine ⟨⟨SlotsO.kept (mo:=some m2) h.slots fun i hi=>hB.kept _ (slN_does _ _ (by omega)),h.lasts.kept (fun i hi=>hB.kept _ (shN_does _ _)) (fun j hj=>hB.kept _ (stN_does (by omega) (by omega) (by omega))),h.seq,h.how⟩,fun h0=>by omega⟩
def RunsT (d:Nat) (x:Nm):Prop:=x=stT∨x=slT∨x=slN 0∨x=slN 1∨∃j,j≤d∧x=stN j
structure RunS (C:Cx) (d:Nat):Prop where
 slT:slT∈C.S
 sl:∀i,i<2→slN i∈C.S
 stT:stT∈C.S
 st:∀j,j≤d→stN j∈C.S
 cap:1000≤C.cap
theorem EI.ok {p:Prg} {n sh d at_:Nat} {es:List Eg} {D:Dk} {m:Ma} (h:EI p n sh es d D m) (hat:at_<100) (hms:m.step<100) (hp:p.start<4294967296) (hr:rightP p (n:Int)=true):OkM (Ma.next ⟨m.seq,m.n,m.sh,(at_:Int),p⟩):=by
 have hok:=h.slots.ok
 have hsq:=h.seq
 refine ⟨?_,hok.n,hok.sh,hp,.inr ⟨by show (0:Int)≤(at_:Int);omega,by show (at_:Int)≤_;omega,by show rightP p (m.n:Int)=true;rw [h.lasts.hn];exact hr⟩⟩
 show 1≤m.seq+1∧m.seq+1<9223372036854775808
 omega
theorem EI.kept {p:Prg} {n sh d:Nat} {es:List Eg} {D D':Dk} {m:Ma} (h:EI p n sh es d D m) (hk:∀k,Kept (findF D.files k) (findF D'.files k)):EI p n sh es d D' m :=
 ⟨SlotsO.kept (mo:=some m) h.slots fun i hi=>hk _,h.lasts.kept (fun i hi=>hk _) (fun j hj=>hk _),h.seq,h.how⟩
theorem does_runs {d at_ q:Nat} (ha:at_≤d) (x:Nm) (h:DoesT at_ x∨x=slN (q % 2)):RunsT d x:=by
 rcases h with (h | h | h) | h
 · exact .inl h
 · exact .inr (.inr (.inr (.inr ⟨at_,ha,h⟩)))
 · exact .inr (.inl h)
 · rcases Nat.mod_two_eq_zero_or_one q with e | e
   · rw [e] at h;exact .inr (.inr (.inl h))
   · rw [e] at h;exact .inr (.inr (.inr (.inl h)))
section
variable {F : Fm} {db eb : Nat} {B : Int} {C : Cx} {D : Dk} {s : Hl} {m : Ma} {dd : Bool} {p : Prg} {n sh d : Nat} {es : List Eg}
theorem begin_z (hE:EI p n sh es d D m) (hd:d≤50) (hp:p.start<4294967296) (hr:rightP p (n:Int)=true) (hn:n≤100) (hin:∀j,InC (conf p n es j) n) (hS:RunS C d) (hC:C.Ok) (hD:DiskAt db D s) (hw:Wz C D) :
 Spec Tryz.prog 192 #[.pointer (some ⟨eb,0,none⟩),prV p] F ((eb,enO db B m true dd)::s) fun v s'=>∃x y e D' m2 s1 g,v=.tuple #[cfV x y,.int .i64 e]∧x.oneCell'=true∧y.oneCell'=true∧s'=(eb,enO db B m2 true dd)::(s1++g)∧DiskAt db D' g∧Wz C D'∧EI p n sh es d D' m2 ∧
  ((e=0∧Gd (RunsT d) D D'∧∃j:Nat,j≤d∧m2.step=(j:Int)∧m2.p=p∧CfO (cfV x y) (conf p n es j) s1)∨(e=7∧Dn (RunsT d) D D')):=by
 rcases hE.how with hst | ⟨hmp,j,hj,hst⟩
 · have hok:=hE.ok (at_:=0) (by omega) (by omega) hp hr
   refine (beginsB_z hE.lasts.hn hn hp hr (hin 0) hst hok hC hS.slT (hS.sl _ (by omega)) hS.stT (hS.st 0 (by omega)) hS.cap hD hw).mono ?_
   rintro v s ⟨x,y,e,D',m2,s1,g,hv,hx,hy,hs,hD',hc,hP⟩
   obtain ⟨hE2,hz⟩:=hE.does (at_:=0) (by omega) (by omega) (by omega) hok hP
   refine ⟨x,y,e,D',m2,s1,g,hv,hx,hy,hs,hD',hP.1,hE2,?_⟩
   rcases hP.2 with ⟨h0,_,hG,_⟩ | ⟨h7,_,hB⟩
   · exact .inl ⟨h0,hG.mono (does_runs (by omega)),0,by omega,(hz h0).1,(hz h0).2,hc⟩
   · exact .inr ⟨h7,hB.mono fun x hx=>does_runs (q:=0) (Nat.zero_le d) x (.inl hx)⟩
 · have hf:=hE.lasts.steps j (by omega)
   rw [hmp] at hf
   refine (beginsA_z (hin j) hn j (by omega) hst hf rfl hC hD hw).mono ?_
   rintro v s ⟨x,y,e,D',s1,g,hv,hx,hy,hs,hD',hO⟩
   refine ⟨x,y,e,D',m,s1,g,hv,hx,hy,hs,hD',hO.1,hE.kept fun k=>?_,?_⟩
   · rcases hO.2 with ⟨_,hG,_⟩ | ⟨_,hB⟩
     · rw [hG.same k id];exact Kept.refl _
     · exact hB.kept k id
   · exact hO.2.imp (fun h=>⟨h.1,h.2.1.any,j,hj,hst,hmp,h.2.2⟩) fun h=>⟨h.1,h.2.any⟩
end
theorem slN_boxT (i:Nat) : ¬BoxT (slN i):=by rintro ⟨k,_,_,h⟩;simp [slN,boxN,boxB] at h
theorem shN_boxT (i:Nat) : ¬BoxT (shN i):=by rintro ⟨k,_,_,h⟩;simp [shN,boxN,boxB] at h
theorem stN_boxT (i:Nat) : ¬BoxT (stN i):=by rintro ⟨k,_,_,h⟩;simp [stN,boxN,boxB] at h
theorem EI.box {p:Prg} {n sh d:Nat} {es:List Eg} {D D':Dk} {m:Ma} (h:EI p n sh es d D m) (hk:∀k,¬BoxT k→Kept (findF D.files k) (findF D'.files k)):EI p n sh es d D' m :=
 ⟨SlotsO.kept (mo:=some m) h.slots fun i hi=>hk _ (slN_boxT i),h.lasts.kept (fun i hi=>hk _ (shN_boxT i)) (fun j hj=>hk _ (stN_boxT j)),h.seq,h.how⟩
theorem CfO.arg2 {x y:Value} {c:Cf} {s:Hl} {n:Nat} (h:CfO (cfV x y) c s) (hi:InC c n) {F:Fm} (hF:∀b o,(b,o)∈s→F.at_ b o):CfA F x y c:=by
 obtain ⟨a,b,e,ha⟩:=h.args hi hF
 simp only [cfV,Value.agg.injEq,Array.mk.injEq,List.cons.injEq,and_true] at e
 rw [e.1,e.2]
 exact ha
def GoT (d:Nat) (x:Nm):Prop:=RunsT d x∨BoxT x
theorem BxF.same0 {D D':Dk} (h:BxF D []) (hk:∀k,1≤k→k<100→findF D'.files (boxN k)=findF D.files (boxN k)):BxF D' [] :=
 ⟨fun i hi=>(by cases hi),fun k h1 h2=>by rw [hk k (by simp at h1;omega) h2];exact h.non k h1 h2⟩
theorem boxN_runs (d k:Nat) : ¬RunsT d (boxN k):=by
 rintro (h | h | h | h | ⟨j,_,h⟩)
 · simp [boxN,boxB,stT] at h
 · simp [boxN,boxB,slT] at h
 · simp [boxN,boxB,slN] at h
 · simp [boxN,boxB,slN] at h
 · simp [boxN,boxB,stN] at h
structure GoS where
 x:Value
 y:Value
 e:Int
 D:Dk
 m:Ma
 s1:Hl
 g:Hl
structure GoP (C:Cx) (p:Prg) (n sh:Nat) (es:List Eg) (most d:Nat):Prop where
 ends:Ends p n es most d
 hd:d≤8
 hp:p.start<4294967296
 hr:rightP p (n:Int)=true
 hn:n≤100
 hin:∀j,InC (conf p n es j) n
 hS:RunS C d
 hb:∀k,1≤k→k≤es.length→boxN k∈C.S
 h1:1≤sh
 h2:sh<100
 hG:OkG n es
 hG2:InG n es
 hl:es.length<49
section
variable {F : Fm} {db eb B : Nat} {C : Cx} {D : Dk} {s : Hl} {m : Ma} {dd : Bool} {p : Prg} {n sh d most : Nat} {es : List Eg}
set_option maxHeartbeats 4000000 in
theorem goes_z (hP:GoP C p n sh es most d) (hB:1≤B) (hC:C.Ok) (hE:EI p n sh es d D m) (hbx:BxF D []) (hD:DiskAt db D s) (hw:Wz C D) :
 Spec Tryz.prog 186 #[.pointer (some ⟨eb,0,none⟩),prV p,.int .i64 (most:Int)] F ((eb,enO db (B:Int) m true dd)::s) fun v s'=>∃e D' m2 g,v=.int .i64 e∧s'=(eb,enO db (B:Int) m2 true dd)::g∧DiskAt db D' g∧Wz C D'∧EI p n sh es d D' m2 ∧
  ((e=0∧Gd (GoT d) D D'∧m2.step=(d:Int)∧m2.p=p∧BxF D' [])∨(e=7∧Dn (GoT d) D D')):=by
 obtain ⟨hEn,hd8,hp,hr,hn,hin,hS,hb,h1,h2,hG,hG2,hl⟩:=hP
 have hcap:=hS.cap
 refine Spec.of (n:=63) (vs:=[.pointer (some ⟨eb,0,none⟩),prV p,.int .i64 (most:Int)]) Tryz.func186 rfl Tryz.ntmps186 rfl ?_
 refine sj [.e,.p] Z<|Rg.box Z Z Z Z Z (fun b4=>?_)
 refine aj Z<|nl<|sj [.p,.r,.e,.p,.p,.p,.e,.e,.p] Z<|mj Z<|rj Z (Ev.as (prV p) (Ev.ldA Z Z) Z)<|Rg.callH Z Z Z (mz Z) (fun F' hF'=>begin_z (F:=F') (B:=(B:Int)) (dd:=dd) hE (by omega) hp hr hn hin hS hC hD hw) rfl ?_
 rintro _ _ ⟨x0,y0,e0,D1,m1,s1,g1,rfl,hx0,hy0,rfl,hD1,hw1,hE1,hO1⟩
 refine mj Z<|xj Z Z<|xj Z Z<|Rg.alloc Z Z Z Z (fun b7=>?_)
 refine Rg.storeA (us:=[x0,y0]) rfl rfl rfl rfl rfl (by simp [hx0,hy0]) rfl rfl<|aj Z<|nl<|wj<|bj ?_
 refine Vc.loop1 (fun (S:GoS)=>S.x.oneCell'=true∧S.y.oneCell'=true∧DiskAt db S.D S.g∧Wz C S.D∧EI p n sh es d S.D S.m∧((S.e=0∧Gd (GoT d) D S.D∧BxF S.D []∧∃j:Nat,j≤d∧S.m.step=(j:Int)∧S.m.p=p∧CfO (cfV S.x S.y) (conf p n es j) S.s1)∨(S.e=7∧Dn (GoT d) D S.D))) (fun S=>[(0,.pointer (some ⟨eb,0,none⟩)),(2,.int .i64 (most:Int)),(4,.pointer (some ⟨b4,0,none⟩)),(7,.pointer (some ⟨b7,0,none⟩)),(8,.int .i64 S.e)]) (fun S=>(b4,cellsO (prC p) 24)::(b7,cellsO [S.x,S.y] 84)::(eb,enO db (B:Int) S.m true dd)::(S.s1++S.g)) (fun S=>if S.e=0 then d+1-S.m.step.toNat else 0) (⟨x0,y0,e0,D1,m1,s1,g1⟩:GoS) ⟨hx0,hy0,hD1,hw1,hE1,hO1.imp (fun h=>⟨h.1,h.2.1.mono fun x hx=>.inl hx,hbx.same0 fun k _ _=>h.2.1.same _ (boxN_runs d k),h.2.2⟩) (fun h=>⟨h.1,h.2.mono fun x hx=>.inl hx⟩)⟩ (.cons Z (.cons Z (.cons Z (.cons Z (.cons Z .nil))))) pulled ?_
 rintro ⟨x,y,e,D',m',sc,g⟩ ⟨hx,hy,hD',hw',hE',hO'⟩
 simp only at hx hy hD' hw' hE' hO' ⊢
 refine wj<|sj [.p,.p,.p,.p,.p,.p,.p,.r,.p,.p,.p,.p,.r,.e,.p,.p] Z<|mj Z<|uj Z (Pv.eql Z Z)<|mj Z<|Rg.split (t:=17) Z (fun h17=>?_) (fun h17=>?_)
 · simp only [beq_iff_eq] at h17
   subst h17
   obtain ⟨_,hG',hbx',j,hj,hst,hmp,hcf⟩:=hO'.resolve_right fun h=>by cases h.1
   refine mj Z<|nj Z<|fj Z<|fj Z<|rj Z (Ev.as (.int .i64 (j:Int)) (Ev.ld rfl rfl) (by rw [hst]))<|mj Z<|uj Z (Pv.lss Z Z)<|qj Z Z<|mj Z ?_
   refine Rg.split (t:=26) Z (fun h26=>?_) (fun h26=>?_)
   · have hjm:j<most:=by simpa using h26
     refine rj Z (Ev.as (cfV x y) (Ev.ldA Z Z) Z)<|Rg.callP Z Z Z (mz Z) (tquiet_spec (hcf.arg2 (hin j) fun b o h=>Or.inl (by simp [h]))) ?_
     rintro _ rfl
     refine uj Z (Pv.not Z)<|qj Z Z<|nl<|cj Z (fun h30=>?_) (fun h30=>?_)
     · have hq:quietC (conf p n es j)=false:=by simpa using h30
       have hj1:=hEn.go hj hjm hq
       refine kj<|bj<|wj ?_
       refine Vc.draw [15,19] (sd [(0,.pure),(1,.pure),(2,.pure),(3,.read),(4,.read),(5,.pure),(6,.pure),(7,.pure),(8,.pure),(9,.read),(10,.read),(11,.pure),(12,.pure),(13,.pure),(14,.read),(15,.eff),(16,.pure),(17,.pure),(18,.pure),(19,.eff),(20,.pure)]) mixed (by kernel_rfl)<|mj Z<|nj Z<|fj Z<|lj Z Z<|rj Z (Ev.as (prV p) (Ev.ldA Z Z) Z)<|mj Z<|nj Z<|fj Z<|fj Z<|rj Z (Ev.as (.int .i64 (sh:Int)) (Ev.ld rfl rfl) (by rw [hE'.lasts.hsh]))<|rj Z (Ev.as (cfV x y) (Ev.ldA Z Z) Z)<|mj Z<|nj Z<|fj Z ?_
       refine lj Z Z<|Rg.callH Z Z Z (mz Z) (fun F' hF'=>advance_z (F:=F') (B:=B) hC hp hr hB hbx' (hcf.arg2 (hin j) fun b o h=>hF' b o (.inl (by simp [h]))) (hin j) hq h1 h2 hG hG2 hl (by omega) hb hE'.lasts.shards hD' hw' hG'.up) rfl ?_
       rintro _ _ ⟨x2,y2,e2,D2,q1,q2,rfl,hx2,hy2,rfl,hD2,hO2⟩
       rw [lx]
       refine mj Z<|xj Z Z<|xj Z Z<|Rg.storeA (us:=[x2,y2]) rfl rfl rfl rfl rfl (by simp [hx2,hy2]) rfl rfl<|aj Z<|nl<|sj [.p,.p] Z<|mj Z<|uj Z (Pv.eql Z Z)<|nl<|cj Z (fun h51=>?_) (fun h51=>?_)
       · simp only [beq_iff_eq] at h51
         subst h51
         obtain ⟨_,hG2',hcf2,hbx2⟩:=hO2.good (by decide)
         have hE2:EI p n sh es d D2 m':=hE'.box fun k hk=>by rw [hG2'.same k hk];exact Kept.refl _
         have hok:=hE2.ok (at_:=j+1) (by omega) (by omega) hp hr
         refine Vc.draw [9] (sd [(0,.pure),(1,.read),(2,.pure),(3,.pure),(4,.pure),(5,.pure),(6,.read),(7,.pure),(8,.read),(9,.eff),(10,.pure)]) mixed (by kernel_rfl)<|mj Z<|rj Z (Ev.as (prV p) (Ev.ldA Z Z) Z)<|mj Z<|nj Z<|fj Z<|fj Z<|rj Z (Ev.as (.int .i64 (j:Int)) (Ev.ld rfl rfl) (by rw [hst]))<|uj Z (Pv.asI (j+1) (Pv.add rfl rfl (by omega)) (by omega))<|rj Z (Ev.as (cfV x2 y2) (Ev.ldA Z Z) Z) ?_
         refine Rg.callH Z Z Z (mz Z) (fun F' hF'=>does_z (F:=F') (B:=(B:Int)) (m:=m') (dd:=dd) (p:=p) (hcf2.arg2 (hin (j+1)) fun b o h=>hF' b o (.inl (by simp [h]))) (hin (j+1)) hn (j+1) (by omega) hok hC hS.slT (hS.sl _ (by omega)) hS.stT (hS.st _ hj1) hS.cap hD2 hO2.wz) rfl ?_
         rintro _ _ ⟨e3,D3,m3,g3,rfl,rfl,hD3,hP3⟩
         obtain ⟨hE3,hz3⟩:=hE2.does (at_:=j+1) (by rw [hst];omega) hj1 (by omega) hok hP3
         refine aj Z<|nl<|dj ?_
         exact Vc.inv1 (⟨x2,y2,e3,D3,m3,q1,g3⟩:GoS) ⟨⟨hx2,hy2,hD3,hP3.1,hE3,by
          have hG4:Gd (GoT d) D D2:=hG'.trans (hG2'.mono fun x hx=>.inr hx)
          rcases hP3.2 with ⟨h0,_,hG5,_⟩ | ⟨h7,_,hB5⟩
          · have hG6:=hG5.mono (does_runs hj1)
            exact .inl ⟨h0,hG4.trans (hG6.mono fun x hx=>.inl hx),hbx2.same0 (fun k _ _=>hG6.same _ (boxN_runs d k)),j+1,hj1,(hz3 h0).1,(hz3 h0).2,hcf2⟩
          · exact .inr ⟨h7,hG4.dn (hB5.mono fun x hx=>.inl (does_runs (q:=0) hj1 x (.inl hx)))⟩⟩,by
          show (if e3=0 then d+1-m3.step.toNat else 0)<(if (0:Int)=0 then d+1-m'.step.toNat else 0)
          rw [if_pos (show (0:Int)=0 from rfl),hst,Int.toNat_natCast]
          split
          · next h0=>rw [(hz3 h0).1,Int.toNat_natCast];omega
          · omega⟩ (.cons rfl (.cons rfl (.cons rfl (.cons rfl (.cons rfl .nil))))) pulled
       · simp only [beq_eq_false_iff_ne,ne_eq] at h51
         obtain ⟨he7,hB2⟩:=hO2.bad h51
         refine kj<|dj ?_
         exact Vc.inv1 (⟨x2,y2,e2,D2,m',q1,q2⟩:GoS) ⟨⟨hx2,hy2,hD2,hO2.wz,hE'.box (fun k hk=>hB2.kept k hk),.inr ⟨he7,hG'.dn (hB2.mono fun x hx=>.inr hx)⟩⟩,by
          show (if e2=0 then d+1-m'.step.toNat else 0)<(if (0:Int)=0 then d+1-m'.step.toNat else 0)
          rw [if_pos (show (0:Int)=0 from rfl),hst,Int.toNat_natCast,if_neg h51]
          omega⟩ (.cons rfl (.cons rfl (.cons rfl (.cons rfl (.cons rfl .nil))))) pulled
     · refine Vc.exit Z<|sj [.p,.p] Z<|mj Z<|aj Z<|nl ?_
       exact vr rfl (tz Z) (⟨0,D',m',g,rfl,rfl,hD',hw',hE',.inl ⟨rfl,hG',by rw [hst,hEn.stop hj (.inr (by simpa using h30))],hmp,hbx'⟩⟩) pulled
   · have hjd:=hEn.stop hj (.inl (by simpa using h26))
     iterate 3 (first | refine Rg.skipP rfl rfl rfl ?_ | refine Rg.skipR rfl rfl rfl ?_ | refine Rg.skipE rfl rfl rfl ?_)
     refine pj Z Z<|nl<|Vc.condF Z<|Vc.exit Z<|sj [.p,.p] Z<|mj Z<|aj Z<|nl ?_
     exact vr rfl (tz Z) (⟨0,D',m',g,rfl,rfl,hD',hw',hE',.inl ⟨rfl,hG',by rw [hst,hjd],hmp,hbx'⟩⟩) pulled
 · iterate 7 (first | refine Rg.skipP rfl rfl rfl ?_ | refine Rg.skipR rfl rfl rfl ?_ | refine Rg.skipE rfl rfl rfl ?_)
   refine pj Z Z<|mj Z ?_
   iterate 3 (first | refine Rg.skipP rfl rfl rfl ?_ | refine Rg.skipR rfl rfl rfl ?_ | refine Rg.skipE rfl rfl rfl ?_)
   refine pj Z Z<|nl<|Vc.condF Z<|Vc.exit Z<|sj [.p,.p] Z<|mj Z<|aj Z<|nl ?_
   exact Vc.ret (Vc.retsH rfl (tz Z) (⟨e,D',m',g,rfl,rfl,hD',hw',hE',.inr (by
    rcases hO' with h | h
    · have:=h.1;simp [this] at h17
    · exact h)⟩) pulled)
end
section
variable {F : Fm} {db eb B : Nat} {C : Cx} {D : Dk} {s : Hl} {m : Ma} {p : Prg} {n sh d most : Nat} {es : List Eg}
theorem told7_spec {Bi:Int} {is dd:Bool}:Spec Tryz.prog 185 #[.pointer (some ⟨eb,0,none⟩),.int .i64 7] F [(eb,enO db Bi m is dd)] fun v s'=>v=.int .i64 7∧s'=[(eb,enO db Bi m is true)] :=
 (told_spec (F:=F) (db:=db) (eb:=eb) (B:=Bi) (m:=m) (is:=is) (dd:=dd) 7 (by decide)).mono fun v s' ⟨h1,h2⟩=>⟨h1,by rw [h2];simp⟩
theorem told0_spec {Bi:Int} {is dd:Bool}:Spec Tryz.prog 185 #[.pointer (some ⟨eb,0,none⟩),.int .i64 0] F [(eb,enO db Bi m is dd)] fun v s'=>v=.int .i64 0∧s'=[(eb,enO db Bi m is dd)] :=
 (told_spec (F:=F) (db:=db) (eb:=eb) (B:=Bi) (m:=m) (is:=is) (dd:=dd) 0 (by decide)).mono fun v s' ⟨h1,h2⟩=>⟨h1,by rw [h2];simp⟩
theorem run_no {Bi:Int} {is dd:Bool} (h:is=false∨dd=true) {mo:Int}:Spec Tryz.prog 178 #[.pointer (some ⟨eb,0,none⟩),prV p,.int .i64 mo] F [(eb,enO db Bi m is dd)] fun v s'=>v=.tuple #[.int .i64 0,.int .i64 9]∧s'=[(eb,enO db Bi m is dd)]:=by
 refine Spec.of (n:=67) (vs:=[.pointer (some ⟨eb,0,none⟩),prV p,.int .i64 mo]) Tryz.func178 rfl Tryz.ntmps178 rfl ?_
 refine sj [.e,.p,.p] Z<|Rg.box Z Z Z Z Z (fun b4=>?_)
 refine aj Z<|aj Z<|nl<|wj<|bj<|wj ?_
 refine Vc.draw [] (sd [(0,.pure),(1,.pure),(2,.pure),(3,.read),(4,.pure),(5,.pure),(6,.pure),(7,.pure),(8,.read),(9,.pure),(10,.pure),(11,.pure),(12,.pure),(13,.pure),(14,.pure),(15,.pure),(16,.read),(17,.pure),(18,.pure),(19,.pure),(20,.pure),(21,.pure),(22,.pure),(23,.read),(24,.read),(25,.pure),(26,.pure),(27,.pure),(28,.pure)]) mixed (by kernel_rfl)<|mj Z<|nj Z<|fj Z<|lj Z Z<|mj Z ?_
 refine Rg.split (t:=14) Z (fun h14=>?_) (fun h14=>?_)
 · iterate 5 (first | refine Rg.skipP rfl rfl rfl ?_ | refine Rg.skipR rfl rfl rfl ?_ | refine Rg.skipE rfl rfl rfl ?_)
   refine qj Z Z<|mj Z ?_
   iterate 15 (first | refine Rg.skipP rfl rfl rfl ?_ | refine Rg.skipR rfl rfl rfl ?_ | refine Rg.skipE rfl rfl rfl ?_)
   refine qj Z Z<|aj Z<|nl<|cj Z (fun h9=>?_) (fun h9=>absurd h9 (by (intro h9;rcases h with h | h<;>simp_all)))
   refine sj [.p,.p] Z<|aj Z<|aj Z<|nl ?_
   exact vr rfl (.cons (.tmp rfl) (tz Z)) (⟨rfl,rfl⟩) pulled
 · refine mj Z<|nj Z<|fj Z<|lj Z Z<|uj Z (Pv.not Z)<|pj Z Z<|mj Z ?_
   refine Rg.split (t:=21) rfl (fun h21=>?_) (fun h21=>absurd h21 (by (intro h21;rcases h with h | h<;>simp_all)))
   iterate 15 (first | refine Rg.skipP rfl rfl rfl ?_ | refine Rg.skipR rfl rfl rfl ?_ | refine Rg.skipE rfl rfl rfl ?_)
   refine qj Z Z<|aj Z<|nl<|cj Z (fun h9=>?_) (fun h9=>absurd h9 (by (intro h9;rcases h with h | h<;>simp_all)))
   refine sj [.p,.p] Z<|aj Z<|aj Z<|nl ?_
   exact vr rfl (.cons (.tmp rfl) (tz Z)) (⟨rfl,rfl⟩) pulled
set_option maxHeartbeats 4000000 in
theorem engRun_z (hP:GoP C p n sh es most d) (hB:1≤B) (hC:C.Ok) (hE:EI p n sh es d D m) (hbx:BxF D []) (hD:DiskAt db D s) (hw:Wz C D) :
 Spec Tryz.prog 178 #[.pointer (some ⟨eb,0,none⟩),prV p,.int .i64 (most:Int)] F ((eb,enO db (B:Int) m true false)::s) fun v s'=>∃z e D' m2 dd g,v=.tuple #[.int .i64 z,.int .i64 e]∧s'=(eb,enO db (B:Int) m2 true dd)::g∧DiskAt db D' g∧Wz C D'∧EI p n sh es d D' m2 ∧
  ((e=0∧z=(d:Int)∧dd=false∧Gd (GoT d) D D'∧m2.step=(d:Int)∧m2.p=p∧BxF D' [])∨(e=7∧dd=true∧Dn (GoT d) D D')):=by
 have hp:=hP.hp
 have hr:=hP.hr
 have hdm:=hP.ends.le
 refine Spec.of (n:=67) (vs:=[.pointer (some ⟨eb,0,none⟩),prV p,.int .i64 (most:Int)]) Tryz.func178 rfl Tryz.ntmps178 rfl ?_
 refine sj [.e,.p,.p] Z<|Rg.box Z Z Z Z Z (fun b4=>?_)
 refine aj Z<|aj Z<|nl<|wj<|bj<|wj ?_
 refine Vc.draw [] (sd [(0,.pure),(1,.pure),(2,.pure),(3,.read),(4,.pure),(5,.pure),(6,.pure),(7,.pure),(8,.read),(9,.pure),(10,.pure),(11,.pure),(12,.pure),(13,.pure),(14,.pure),(15,.pure),(16,.read),(17,.pure),(18,.pure),(19,.pure),(20,.pure),(21,.pure),(22,.pure),(23,.read),(24,.read),(25,.pure),(26,.pure),(27,.pure),(28,.pure)]) mixed (by kernel_rfl)<|mj Z<|nj Z<|fj Z<|lj Z Z<|mj Z ?_
 refine Rg.split (t:=14) rfl (fun h14=>absurd h14 (by decide)) (fun h14=>?_)
 refine mj Z<|nj Z<|fj Z<|lj Z Z<|uj Z (Pv.not Z)<|pj Z Z<|mj Z ?_
 refine Rg.split (t:=21) rfl (fun h21=>absurd h21 (by decide)) (fun h21=>?_)
 refine mj Z<|nj Z<|fj Z<|fj Z<|lj Z Z<|uj Z (Pv.geq Z Z)<|mj Z ?_
 refine Rg.split (t:=28) Z (fun h28=>?_) (fun h28=>?_)
 · have hmp:m.p=p:=hE.how.elim (fun h=>by simp [h] at h28) (fun h=>h.1)
   refine mj Z<|nj Z<|fj Z<|fj Z<|rj Z (Ev.as (prV m.p) (Ev.ldA Z Z) Z)<|rj Z (Ev.as (prV p) (Ev.ldA Z Z) Z)<|uj Z (Pv.neqE prE m.p p Z Z)<|qj Z Z<|pj Z Z<|aj Z<|nl<|cj Z (fun h9=>absurd h9 (by first | (simp [hmp]) | simp)) (fun h9=>?_)
   refine wj ?_
   refine Vc.draw [] (sd [(0,.read),(1,.pure),(2,.pure),(3,.pure),(4,.pure),(5,.read),(6,.eff),(7,.pure),(8,.pure),(9,.pure),(10,.pure),(11,.pure),(12,.pure)]) mixed (by kernel_rfl)<|rj Z (Ev.as (prV p) (Ev.ldA Z Z) Z)<|mj Z<|nj Z<|fj Z<|fj Z<|rj Z (Ev.as (.int .i64 (n:Int)) (Ev.ld rfl rfl) (by rw [hE.lasts.hn])) ?_
   refine Rg.callP Z Z Z (mz Z) (tright_spec hp (n:Int)) ?_
   rintro _ rfl
   refine uj Z (Pv.not Z)<|mj Z<|Rg.split (t:=47) rfl (fun h47=>absurd h47 (by rw [hr];decide)) (fun h47=>?_)
   refine mj Z<|uj Z (Pv.lss Z Z)<|pj Z Z<|aj Z<|nl<|cj Z (fun h38=>absurd h38 (by simp)) (fun h38=>?_)
   refine kj<|dj<|wj<|sj [.p,.r,.p,.e,.p] Z<|mj Z<|rj Z (Ev.as (prV p) (Ev.ldA Z Z) Z)<|mj Z<|Rg.callH Z Z Z (mz Z) (fun F' hF'=>goes_z (F:=F') (dd:=false) hP hB hC hE hbx hD hw) Z ?_
   rintro _ _ ⟨e,D1,m1,g,rfl,rfl,hD1,hw1,hE1,hO1⟩
   refine aj Z<|nl<|sj [.p,.p] Z<|mj Z<|uj Z (Pv.neq Z Z)<|nl<|cj Z (fun h56=>?_) (fun h56=>?_)
   · simp only [bne_iff_ne,ne_eq] at h56
     obtain ⟨rfl,hB7⟩:=hO1.resolve_left fun h=>h56 h.1
     refine sj [.p,.p,.e,.p,.p] Z<|mj Z<|mj Z<|Rg.callH Z Z Z (mz Z) (fun F' hF'=>told7_spec (F:=F') (db:=db) (Bi:=(B:Int)) (m:=m1) (is:=true) (dd:=false)) Z ?_
     rintro _ _ ⟨rfl,rfl⟩
     refine aj Z<|aj Z<|nl ?_
     exact vr rfl (.cons (.tmp rfl) (tz Z)) (⟨0,7,D1,m1,true,g,rfl,rfl,hD1,hw1,hE1,.inr ⟨rfl,rfl,hB7⟩⟩) pulled
   · simp only [bne_eq_false_iff_eq] at h56
     subst h56
     obtain ⟨_,hG,hst,hmp1,hbx1⟩:=hO1.resolve_right fun h=>by cases h.1
     refine kj<|sj [.p,.p,.p,.p,.r,.p,.p,.p,.p] Z<|mj Z<|nj Z<|fj Z<|fj Z<|rj Z (Ev.as (.int .i64 (d:Int)) (Ev.ld rfl rfl) (by rw [hst]))<|mj Z<|uj Z (Pv.asI (d) (Pv.min rfl rfl) (by omega))<|aj Z<|aj Z<|nl ?_
     exact vr rfl (.cons (.tmp rfl) (tz Z)) (⟨(d:Int),0,D1,m1,false,g,rfl,rfl,hD1,hw1,hE1,.inl ⟨rfl,rfl,rfl,hG,hst,hmp1,hbx1⟩⟩) pulled
 · iterate 7 (first | refine Rg.skipP rfl rfl rfl ?_ | refine Rg.skipR rfl rfl rfl ?_ | refine Rg.skipE rfl rfl rfl ?_)
   refine pj Z Z<|pj Z Z<|aj Z<|nl<|cj Z (fun h9=>absurd h9 (by first | (simp [hmp]) | simp)) (fun h9=>?_)
   refine wj ?_
   refine Vc.draw [] (sd [(0,.read),(1,.pure),(2,.pure),(3,.pure),(4,.pure),(5,.read),(6,.eff),(7,.pure),(8,.pure),(9,.pure),(10,.pure),(11,.pure),(12,.pure)]) mixed (by kernel_rfl)<|rj Z (Ev.as (prV p) (Ev.ldA Z Z) Z)<|mj Z<|nj Z<|fj Z<|fj Z<|rj Z (Ev.as (.int .i64 (n:Int)) (Ev.ld rfl rfl) (by rw [hE.lasts.hn])) ?_
   refine Rg.callP Z Z Z (mz Z) (tright_spec hp (n:Int)) ?_
   rintro _ rfl
   refine uj Z (Pv.not Z)<|mj Z<|Rg.split (t:=47) rfl (fun h47=>absurd h47 (by rw [hr];decide)) (fun h47=>?_)
   refine mj Z<|uj Z (Pv.lss Z Z)<|pj Z Z<|aj Z<|nl<|cj Z (fun h38=>absurd h38 (by simp)) (fun h38=>?_)
   refine kj<|dj<|wj<|sj [.p,.r,.p,.e,.p] Z<|mj Z<|rj Z (Ev.as (prV p) (Ev.ldA Z Z) Z)<|mj Z<|Rg.callH Z Z Z (mz Z) (fun F' hF'=>goes_z (F:=F') (dd:=false) hP hB hC hE hbx hD hw) Z ?_
   rintro _ _ ⟨e,D1,m1,g,rfl,rfl,hD1,hw1,hE1,hO1⟩
   refine aj Z<|nl<|sj [.p,.p] Z<|mj Z<|uj Z (Pv.neq Z Z)<|nl<|cj Z (fun h56=>?_) (fun h56=>?_)
   · simp only [bne_iff_ne,ne_eq] at h56
     obtain ⟨rfl,hB7⟩:=hO1.resolve_left fun h=>h56 h.1
     refine sj [.p,.p,.e,.p,.p] Z<|mj Z<|mj Z<|Rg.callH Z Z Z (mz Z) (fun F' hF'=>told7_spec (F:=F') (db:=db) (Bi:=(B:Int)) (m:=m1) (is:=true) (dd:=false)) Z ?_
     rintro _ _ ⟨rfl,rfl⟩
     refine aj Z<|aj Z<|nl ?_
     exact vr rfl (.cons (.tmp rfl) (tz Z)) (⟨0,7,D1,m1,true,g,rfl,rfl,hD1,hw1,hE1,.inr ⟨rfl,rfl,hB7⟩⟩) pulled
   · simp only [bne_eq_false_iff_eq] at h56
     subst h56
     obtain ⟨_,hG,hst,hmp1,hbx1⟩:=hO1.resolve_right fun h=>by cases h.1
     refine kj<|sj [.p,.p,.p,.p,.r,.p,.p,.p,.p] Z<|mj Z<|nj Z<|fj Z<|fj Z<|rj Z (Ev.as (.int .i64 (d:Int)) (Ev.ld rfl rfl) (by rw [hst]))<|mj Z<|uj Z (Pv.asI (d) (Pv.min rfl rfl) (by omega))<|aj Z<|aj Z<|nl ?_
     exact vr rfl (.cons (.tmp rfl) (tz Z)) (⟨(d:Int),0,D1,m1,false,g,rfl,rfl,hD1,hw1,hE1,.inl ⟨rfl,rfl,rfl,hG,hst,hmp1,hbx1⟩⟩) pulled
end
def IngT (sh:Nat) (x:Nm):Prop:=ShT sh x∨x=slT∨x=slN 1
structure IngP (C:Cx) (n sh B K:Nat) (es:List Eg):Prop where
 h1:1≤sh
 h2:sh<100
 hn:n≤1048576
 hG:OkG n es
 hrg:ED.rightG (n:Int) es=true
 hl:es.length<49
 hB:1≤B
 hB2:B<1000
 cap:1000≤C.cap
 hk:∀i,i<sh→ptN i∈C.S∧shN i∈C.S
 hK:∀i,i<sh→3*nc B (inSL n sh i es).length≤K+2
 hK2:K<100
 hkr:∀k,1≤k→k≤K→runN k∈C.S
 slT:slT∈C.S
 sl1:slN 1∈C.S
abbrev ma1 (n sh:Nat):Ma:=⟨1,n,sh,-1,⟨0,0⟩⟩
theorem slN_sh (sh i:Nat) : ¬ShT sh (slN i):=by
 rintro ⟨j,_,h | h | h⟩
 · obtain ⟨k,_,_,h⟩:=h;simp [slN,runN,runB] at h
 · exact shN_slN _ _ h.symm
 · simp [slN,ptN] at h
theorem boxN_ing (sh k:Nat) : ¬IngT sh (boxN k):=by
 rintro (⟨j,_,h | h | h⟩ | h | h)
 · obtain ⟨k,_,_,h⟩:=h;simp [boxN,boxB,runN,runB] at h
 · simp [boxN,boxB,shN] at h
 · simp [boxN,boxB,ptN] at h
 · simp [boxN,boxB,Go.Proofs.YtkpiakgmkpbikaaGreatDoor.slT] at h
 · simp [boxN,boxB,slN] at h
theorem shN_slT2 (i:Nat):shN i≠slT:=by simp [shN,slT]
theorem told07_spec {F:Fm} {db eb:Nat} {Bi:Int} {m:Ma} {is dd:Bool} {e:Int} (he:e=0∨e=7):Spec Tryz.prog 185 #[.pointer (some ⟨eb,0,none⟩),.int .i64 e] F [(eb,enO db Bi m is dd)] fun v s'=>v=.int .i64 e∧s'=[(eb,enO db Bi m is (dd||decide (e=7)))]:=by
 rcases he with rfl | rfl
 · exact told0_spec.mono fun v s' ⟨h1,h2⟩=>⟨h1,by rw [h2];simp⟩
 · exact told7_spec.mono fun v s' ⟨h1,h2⟩=>⟨h1,by rw [h2];simp⟩
theorem dec_spec {F:Fm} {va:Value} {bs:List UInt8} (ha:Arg byteE F va bs) (hN:bs.length<1073741824) {n a e:Nat} {es:List Eg} (hd:ED.decG bs=(n,es,a,e)) :
 Spec Tryz.prog 182 #[va] F [] fun v s=>∃u,v=.tuple #[grV (n:Int) u,.int .i64 (a:Int),.int .i64 (e:Int)]∧Own edgeE u es s:=by
 have:=ED.decode_spec ha hN
 rw [hd] at this
 exact this
section
variable {F : Fm} {db eb B K : Nat} {C : Cx} {D : Dk} {s : Hl} {m : Ma} {n sh : Nat} {es : List Eg} {vb : Value} {bs : List UInt8}
theorem ingest_no {Bi:Int} {is dd:Bool} (h:is=true∨dd=true) {v1:Value} {k:Int}:Spec Tryz.prog 176 #[.pointer (some ⟨eb,0,none⟩),v1,.int .i64 k] F [(eb,enO db Bi m is dd)] fun v s'=>v=.tuple #[.int .i64 0,.int .i64 9]∧s'=[(eb,enO db Bi m is dd)]:=by
 refine Spec.of (n:=65) (vs:=[.pointer (some ⟨eb,0,none⟩),v1,.int .i64 k]) Tryz.func176 rfl Tryz.ntmps176 rfl ?_
 refine sj [.p,.p] Z<|aj Z<|aj Z<|nl<|wj<|sj [.p,.p,.p,.r,.p,.p,.p,.p,.r,.p] Z<|mj Z<|nj Z<|fj Z<|lj Z Z<|mj Z ?_
 refine Rg.split (t:=17) Z (fun h17=>?_) (fun h17=>?_)
 · iterate 4 (first | refine Rg.skipP rfl rfl rfl ?_ | refine Rg.skipR rfl rfl rfl ?_ | refine Rg.skipE rfl rfl rfl ?_)
   refine qj Z Z<|nl<|cj Z (fun h22=>?_) (fun h22=>absurd h22 (by (intro h22;rcases h with h | h<;>simp_all)))
   refine sj [.p,.p] Z<|aj Z<|aj Z<|nl ?_
   exact vr rfl (.cons (.tmp rfl) (tz Z)) (⟨rfl,rfl⟩) pulled
 · refine mj Z<|nj Z<|fj Z<|lj Z Z<|pj Z Z<|nl<|cj Z (fun h22=>?_) (fun h22=>absurd h22 (by (intro h22;rcases h with h | h<;>simp_all)))
   refine sj [.p,.p] Z<|aj Z<|aj Z<|nl ?_
   exact vr rfl (.cons (.tmp rfl) (tz Z)) (⟨rfl,rfl⟩) pulled
theorem ingest_bad {Bi:Int} {k:Int} (ha:Arg byteE F vb bs) (hN:bs.length<1073741824) {n0 a e:Nat} {es0:List Eg} (hd:ED.decG bs=(n0,es0,a,e)) (he:e≠0):Spec Tryz.prog 176 #[.pointer (some ⟨eb,0,none⟩),vb,.int .i64 k] F [(eb,enO db Bi m false false)] fun v s'=>v=.tuple #[.int .i64 (a:Int),.int .i64 (e:Int)]∧s'=[(eb,enO db Bi m false false)]:=by
 obtain ⟨p,c,rfl⟩:=ha.shape
 refine Spec.of (n:=65) (vs:=[.pointer (some ⟨eb,0,none⟩),.slice p bs.length c,.int .i64 k]) Tryz.func176 rfl Tryz.ntmps176 rfl ?_
 refine sj [.p,.p] Z<|aj Z<|aj Z<|nl<|wj<|sj [.p,.p,.p,.r,.p,.p,.p,.p,.r,.p] Z<|mj Z<|nj Z<|fj Z<|lj Z Z<|mj Z ?_
 refine Rg.split (t:=17) rfl (fun h17=>absurd h17 (by decide)) (fun h17=>?_)
 refine mj Z<|nj Z<|fj Z<|lj Z Z<|pj Z Z<|nl<|cj Z (fun h22=>absurd h22 (by decide)) (fun h22=>?_)
 refine kj<|sj [.p,.e,.p,.p,.p,.p,.e,.e,.p,.p] Z<|mj Z<|Rg.callA Z Z Z (mz Z) (dec_spec (ha.mono fun b o h=>Or.inr h) hN hd) ?_
 rintro _ s25 ⟨u,rfl,own⟩
 obtain ⟨pu,cu,rfl⟩:=own.shape
 refine mj Z<|xj Z Z<|xj Z Z<|xj Z Z<|Rg.alloc Z Z Z Z (fun b8=>?_)
 refine Rg.storeA (us:=[.int .i64 (n0:Int),.slice pu es0.length cu]) Z Z Z Z Z Z Z Z<|aj Z<|aj Z<|nl<|wj<|sj [.p,.p] Z<|mj Z<|uj Z (Pv.neq Z Z)<|nl<|cj Z (fun h30=>?_) (fun h30=>absurd h30 (by simp;omega))
 refine sj [.p,.p,.p,.p] Z<|mj Z<|mj Z<|aj Z<|aj Z<|nl ?_
 exact vr rfl (.cons (.tmp rfl) (tz Z)) (⟨rfl,rfl⟩) pulled
set_option maxHeartbeats 4000000 in
theorem ingest_z (hP:IngP C n sh B K es) (ha:Arg byteE F vb bs) (hN:bs.length<1073741824) (hd:ED.decG bs=(n,es,0,0)) (hC:C.Ok) (hS:SlotsN D) (hcl:∀k,k≠slN 0→k≠slN 1→findF D.files k=none) (hup:D.down=false) (hD:DiskAt db D s) (hw:Wz C D) :
 Spec Tryz.prog 176 #[.pointer (some ⟨eb,0,none⟩),vb,.int .i64 (sh:Int)] F ((eb,enO db (B:Int) m false false)::s) fun v s'=>∃e D' m2 is2 dd2 g,v=.tuple #[.int .i64 0,.int .i64 e]∧s'=(eb,enO db (B:Int) m2 is2 dd2)::g∧DiskAt db D' g∧Wz C D' ∧
  ((e=0∧is2=true∧dd2=false∧m2=ma1 n sh∧Gd (IngT sh) D D'∧SlotsM D' m2∧Lasts n sh es D' m2∧BxF D' [])∨(e=7∧is2=false∧dd2=true∧m2=m∧Dn (IngT sh) D D'∧SlotsN D')):=by
 obtain ⟨h1,h2,hn,hG,hrg,hl,hB,hB2,hcap,hk,hK,hK2,hkr,hslT,hsl1⟩:=hP
 have hok:OkM (Ma.next ⟨0,n,sh,-1,⟨0,0⟩⟩):=⟨(show 1≤0+1∧0+1<9223372036854775808 by omega),hn,⟨h1,by show sh≤4095;omega⟩,(show 0<4294967296 by omega),.inl ⟨rfl,rfl⟩⟩
 have hno:NoRun D:=fun k _ _=>hcl _ (by simp [runN,runB,slN]) (by simp [runN,runB,slN])
 have hf:∀i,i<sh→findF D.files (ptN i)=none∧findF D.files (shN i)=none:=fun i _=>⟨hcl _ (by simp [ptN,slN]) (by simp [ptN,slN]),hcl _ (shN_slN _ _) (shN_slN _ _)⟩
 have hbx:BxF D []:=⟨fun i hi=>(by cases hi),fun k _ _=>hcl _ (by simp [boxN,boxB,slN]) (by simp [boxN,boxB,slN])⟩
 obtain ⟨p,c,rfl⟩:=ha.shape
 refine Spec.of (n:=65) (vs:=[.pointer (some ⟨eb,0,none⟩),.slice p bs.length c,.int .i64 (sh:Int)]) Tryz.func176 rfl Tryz.ntmps176 rfl ?_
 refine sj [.p,.p] Z<|aj Z<|aj Z<|nl<|wj<|sj [.p,.p,.p,.r,.p,.p,.p,.p,.r,.p] Z<|mj Z<|nj Z<|fj Z<|lj Z Z<|mj Z ?_
 refine Rg.split (t:=17) rfl (fun h17=>absurd h17 (by decide)) (fun h17=>?_)
 refine mj Z<|nj Z<|fj Z<|lj Z Z<|pj Z Z<|nl<|cj Z (fun h22=>absurd h22 (by decide)) (fun h22=>?_)
 refine kj<|sj [.p,.e,.p,.p,.p,.p,.e,.e,.p,.p] Z<|mj Z<|Rg.callA Z Z Z (mz Z) (dec_spec (ha.mono fun b o h=>Or.inr h) hN hd) ?_
 rintro _ s25 ⟨u,rfl,own⟩
 obtain ⟨pu,cu,rfl⟩:=own.shape
 refine mj Z<|xj Z Z<|xj Z Z<|xj Z Z<|Rg.alloc Z Z Z Z (fun b8=>?_)
 refine Rg.storeA (us:=[.int .i64 (n:Int),.slice pu es.length cu]) Z Z Z Z Z Z Z Z<|aj Z<|aj Z<|nl<|wj<|sj [.p,.p] Z<|mj Z<|uj Z (Pv.neq Z Z)<|nl<|cj Z (fun h30=>absurd h30 (by decide)) (fun h30=>?_)
 refine kj<|wj<|sj [.p,.r,.p,.e,.p,.p,.p,.p,.p] Z<|fj Z<|lj Z Z<|mj Z ?_
 refine Rg.callA Z Z Z (mz Z) (bounds_spec n sh hn h1 (by omega)) ?_
 rintro _ s37 ⟨u37,rfl,own37⟩
 refine mj Z<|xj Z Z<|xj Z Z<|aj Z<|aj Z<|nl<|sj [.p,.p] Z<|mj Z<|uj Z (Pv.neq Z Z)<|nl<|cj Z (fun h41=>absurd h41 (by decide)) (fun h41=>?_)
 refine kj<|wj ?_
 refine Vc.draw [10] (sd [(0,.pure),(1,.pure),(2,.pure),(3,.read),(4,.read),(5,.pure),(6,.pure),(7,.pure),(8,.pure),(9,.read),(10,.eff),(11,.pure)]) mixed (by kernel_rfl)<|mj Z<|nj Z<|fj Z<|lj Z Z<|rj Z (Ev.as (grV (n:Int) (.slice pu es.length cu)) (Ev.ldA Z Z) Z)<|mj Z<|mj Z<|nj Z<|fj Z<|lj Z Z ?_
 refine Rg.callH Z Z Z (mz Z) (fun F' hF'=>build_z (F:=F') (B:=B) (K:=K) hC hD hw hup (Arg.own own fun b o h=>hF' b o (.inl (by simp [h]))) hn h1 h2 hG hrg hl (by omega) hk hf hB hB2 hK hK2 hkr hno) rfl ?_
 rintro _ g1 ⟨e,D1,rfl,hD1,hO1⟩
 refine aj Z<|nl<|wj<|sj [.p,.p] Z<|mj Z<|uj Z (Pv.eql Z Z)<|nl<|cj Z (fun h55=>?_) (fun h55=>?_)
 · simp only [beq_iff_eq] at h55
   subst h55
   obtain ⟨_,hG1,hsh1⟩:=hO1.good (by decide)
   refine tj [.p,.p,.r,.p,.p,.e,.p] Z<|mj Z<|fj Z<|lj Z Z<|mj Z<|uj Z (Pv.build (c:=#[.int .u64 ((0:Nat):Int),.int .i64 (n:Int),.int .i64 (sh:Int),.int .i64 (-1),.int .i64 0,.int .u32 ((0:Nat):Int)]) Z Z) ?_
   refine Rg.callH Z Z Z (mz Z) (fun F' hF'=>saves_z (F:=F') (B:=(B:Int)) (m:=m) (is:=false) (dd:=false) (m':=⟨0,n,sh,-1,⟨0,0⟩⟩) hok hC hslT hsl1 (by omega) hD1 hO1.wz) rfl ?_
   rintro _ _ ⟨e2,D2,m2,is2,g2,rfl,rfl,hD2,hor,hP2⟩
   refine aj Z<|nl<|sj [.p,.p,.e,.p,.p] Z<|mj Z<|mj Z<|Rg.callH Z Z Z (mz Z) (fun F' hF'=>told07_spec (F:=F') (db:=db) (Bi:=(B:Int)) (m:=m2) (is:=is2) (dd:=false) (e:=e2) (hor.imp (·.1) (·.1))) Z ?_
   rintro _ _ ⟨rfl,rfl⟩
   refine aj Z<|aj Z<|nl ?_
   exact Vc.ret (Vc.retsH rfl (.cons (.tmp rfl) (tz Z)) (⟨e2,D2,m2,is2,false||decide (e2=7),g2,rfl,rfl,hD2,hP2.1,by
    rcases hP2.2 with ⟨h0,hG2,hT2,hS2⟩ | ⟨h7,hB2'⟩
    · obtain ⟨_,hm2,his2⟩:=hor.resolve_right fun h=>by have:=h.1;omega
      have hGa:Gd (IngT sh) D D2:=(hG1.mono fun x hx=>.inl hx).trans (hG2.mono fun x hx=>.inr hx)
      refine .inl ⟨h0,his2,by simp [h0],hm2,hGa,?_,?_,hbx.same0 fun k _ _=>hGa.same _ (boxN_ing sh k)⟩
      · rw [hm2]
        refine SlotsM.first (D:=D) hS hok rfl hS2 ?_
        rw [hG2.same _ (fun h=>h.elim (fun h=>slT_ne 0 (by omega) h.symm) (fun h=>by have:(0:Nat)=(0+1) % 2:=slN_inj (by omega) (by omega) h;omega)),hG1.same _ (slN_sh sh 0)]
      · rw [hm2]
        exact ⟨rfl,rfl,fun i hi=>by
         have:=hsh1 i hi
         unfold ShOk at this ⊢
         rw [hG2.same _ (fun h=>h.elim (shN_slT2 i) (shN_slN _ _))]
         exact this,fun j hj=>by have:(j:Int)≤-1:=hj;omega⟩
    · obtain ⟨_,hm2,his2⟩:=hor.resolve_left fun h=>by have:=h.1;omega
      refine .inr ⟨h7,his2,by simp [h7],hm2,(hG1.mono fun x hx=>.inl hx).dn (hB2'.mono fun x hx=>.inr (.inl hx)),?_⟩
      have hS1:SlotsN D1:=⟨by rw [hG1.same _ (slN_sh sh 0)];exact hS.1,by rw [hG1.same _ (slN_sh sh 1)];exact hS.2⟩
      exact ⟨kept_none (hB2'.kept _ fun h=>slT_ne 0 (by omega) h.symm) hS1.1,kept_none (hB2'.kept _ fun h=>slT_ne 1 (by omega) h.symm) hS1.2⟩⟩) pulled)
 · simp only [beq_eq_false_iff_ne,ne_eq] at h55
   obtain ⟨rfl,hB1⟩:=hO1.bad h55
   refine kj<|sj [.p,.p,.e,.p,.p] Z<|mj Z<|mj Z<|Rg.callH Z Z Z (mz Z) (fun F' hF'=>told7_spec (F:=F') (db:=db) (Bi:=(B:Int)) (m:=m) (is:=false) (dd:=false)) Z ?_
   rintro _ _ ⟨rfl,rfl⟩
   refine aj Z<|aj Z<|nl ?_
   exact vr rfl (.cons (.tmp rfl) (tz Z)) (⟨7,D1,m,false,true,g1,rfl,rfl,hD1,hO1.wz,.inr ⟨rfl,rfl,rfl,rfl,hB1.mono fun x hx=>.inl hx,⟨kept_none (hB1.kept _ (slN_sh sh 0)) hS.1,kept_none (hB1.kept _ (slN_sh sh 1)) hS.2⟩⟩⟩) pulled
end
end Go.Proofs.YtkpiakgmkpbikaaGreatDoor
namespace Go.Proofs.YtkpiakgmkpbikaaGreatDoor
abbrev muLink:Go.Conc.Locks.MuLink:={ lock:=17,unlock:=18,ilock:=28,iunlock:=29,lockSlow:=48,unlockSlow:=51,disable:=44,enable:=46,acquire:=47,relMerge:=49,cas32:=45,add32:=50,tMutex:=61,tIMutex:=59,tPMutex:=90,tPIMutex:=116,tPI32:=118,tUP:=120,tNoCopy:=57,tU32:=22 }
theorem muLib:Go.Conc.Locks.MuLib Tryz.prog muLink :=
 ⟨Tryz.func17,Tryz.func18,Tryz.func28,Tryz.func29,Tryz.func44,Tryz.func46,Tryz.func47,Tryz.func49,Tryz.func45,Tryz.func50,Tryz.underlying59,Tryz.runUnderlying59,Tryz.sizeOf59,Tryz.isAgg59,Tryz.zeroValue59,Tryz.underlying61,Tryz.runUnderlying61,Tryz.sizeOf61,Tryz.isAgg61,Tryz.zeroValue61,Tryz.underlying90,Tryz.runUnderlying90,Tryz.sizeOf90,Tryz.isAgg90,Tryz.zeroValue90,Tryz.underlying116,Tryz.runUnderlying116,Tryz.sizeOf116,Tryz.isAgg116,Tryz.zeroValue116,Tryz.underlying118,Tryz.runUnderlying118,Tryz.sizeOf118,Tryz.isAgg118,Tryz.zeroValue118,Tryz.underlying120,Tryz.runUnderlying120,Tryz.sizeOf120,Tryz.isAgg120,Tryz.zeroValue120,Tryz.underlying57,Tryz.runUnderlying57,Tryz.sizeOf57,Tryz.isAgg57,Tryz.zeroValue57,Tryz.underlying21,Tryz.runUnderlying21,Tryz.sizeOf21,Tryz.isAgg21,Tryz.zeroValue21,(by kernel_rfl)⟩
theorem setCell_putB {w:World} {b off:Nat} {vs:List Value} {e:TypeId} (v:Value) (hb:w.heap[b]? = some (cellsO vs e)):w.setCell ⟨b,off,none⟩ v=putB w b (cellsO (vs.set off v) e):=by
 unfold World.setCell Go.Proofs.YtkpiakgmkpbikaaGreatDoor.putB
 congr 1
 apply Array.ext_getElem?
 intro k
 rw [Array.getElem?_modify,Array.getElem?_setIfInBounds]
 by_cases hk:b=k
 · subst hk
   have:=(Array.getElem?_eq_some_iff.1 hb).1
   rw [hb]
   simp [this]
 · simp [hk]
section
variable {P : Program} {F : Fm} {pb : Nat} {T : TypeId} {u : Value} {vs : List Value}
theorem one_cell {w:World} {b:Nat} {x:Value} (hb:w.heap[b]? = some (cellsO (x::vs) T)):w.cell? ⟨b,0,none⟩=some x∧w.frozen? ⟨b,0,none⟩=false:=by
 constructor
 · simp [World.cell?,hb]
 · simp [World.frozen?,hb]
theorem lock_spec:Spec Tryz.prog 17 #[.pointer (some ⟨pb,0,none⟩)] F [(pb,cellsO (.int .i32 0::vs) T)] fun v s'=>v=.tuple #[]∧s'=[(pb,cellsO (.int .i32 1::vs) T)]:=fun w hw=>by
 have hb:=hw.own pb _ List.mem_cons_self
 obtain ⟨h1,h2⟩:=one_cell hb
 refine (Go.MuLone.lock_free muLib ⟨pb,0,none⟩ w h1 h2).mono ?_
 rintro e w' ⟨rfl,rfl⟩
 refine ⟨_,_,rfl,⟨rfl,rfl⟩,?_⟩
 rw [setCell_putB _ hb]
 exact Lens.putB (put:=fun o'=>[(pb,o')]) ⟨[],[],rfl,fun _=>rfl⟩ hw _
theorem iunlock_spec:Spec Tryz.prog 29 #[.pointer (some ⟨pb,0,none⟩)] F [(pb,cellsO (.int .i32 1::vs) T)] fun v s'=>v=.tuple #[]∧s'=[(pb,cellsO (.int .i32 0::vs) T)]:=fun w hw=>by
 have hb:=hw.own pb _ List.mem_cons_self
 obtain ⟨h1,h2⟩:=one_cell hb
 refine (Go.MuLone.iunlock_held muLib ⟨pb,0,none⟩ w h1 h2).mono ?_
 rintro e w' ⟨rfl,rfl⟩
 refine ⟨_,_,rfl,⟨rfl,rfl⟩,?_⟩
 rw [setCell_putB _ hb]
 exact Lens.putB (put:=fun o'=>[(pb,o')]) ⟨[],[],rfl,fun _=>rfl⟩ hw _
end
def SpecD (P:Program) (f:FuncId) (args:Array Value) (F:Fm) (hl:Hl) (post:Value→Hl→Prop):Prop :=
 ∀w,Hp F hl w→CallsDIn (Fe none) 0 P f args .returning w fun e u' w'=>u'=.returning∧∃v hl',e=.returned v∧post v hl'∧Hp F hl' w'
def SpecQD (P:Program) (fn:Func) (F:Fm) (post:Value→Hl→Prop):Exit→Act→World→Prop:=bodyPost P fn fun e w'=>∃v hl',e=.returned v∧post v hl'∧Hp F hl' w'
section
variable {P : Program} {Qf : Exit → Act → World → Prop} {n : Nf} {F : Fm} {ks : List KItem} {l : Env} {hl : Hl}
theorem SpecD.of {f:FuncId} {fn:Func} {c:Code} {vs:List Value} {n:Nat} {post:Value→Hl→Prop} (hf:P.funcs[f]? = some fn) (hb:fn.body=some c) (hn:fn.ntmps=n) (hlen:Nat.ble vs.length n=true)
 (h:Vc P (SpecQD P fn F post) ⟨n,none,[],[]⟩ F [.code c] (envOf 0 vs) hl):SpecD P f vs.toArray F hl post:=fun w hw=>by
 have hlen':vs.length≤n:=by simpa using hlen
 refine callsDIn_of_wp (F:=Fe none) (n:=0) hf hb trivial (h _ w ⟨rfl,by simp [hn];omega,fun t v ht=>?_⟩ hw)
 obtain ⟨_,h2⟩:=lk_envOf vs 0 t v ht
 rw [Nat.sub_zero] at h2
 have hlt:t<vs.length:=(List.getElem?_eq_some_iff.1 h2).1
 show (vs.toArray++Array.replicate (fn.ntmps-vs.toArray.size) undef)[t]? = some v
 rw [Array.getElem?_append_left (by simpa using hlt)]
 simpa using h2
theorem Vc.retsD {fn:Func} {post:Value→Hl→Prop} {xs:List ResultVar} {vs:List Value} {hl' rest:Hl} (hr:fn.results=xs.toArray) (hv:ResL P F l hl xs vs) (h:post (oneOr vs) hl') (hp:hl.Perm (hl'++rest)) (hds:n.ds=[]:=by rfl) (hdx:n.dx=[]:=by rfl):QRet (SpecQD P fn F post) n F l hl:=fun a w hf hh=>by
 have key:a.defers=[]∧∃v,(results fn a.tmps).run P w=.ok v w∧∃v' hl',Ending.returned v=.returned v'∧post v' hl'∧Hp F hl' w :=
  ⟨by rw [hf.dfr,hds,hdx];rfl,_,results_run hr hv hf hh,_,hl',rfl,h,(hh.perm hp).forget⟩
 exact ⟨key,key⟩
theorem Vc.putOff {id:Nat} {o0 o1 o2 o3:Oper} {t0 t1 t2:Nat} {v0 v1 v2:Value} {d:Deferred} (hro:n.ro=none) (hds:n.ds=[])
 (d0:o0.dst=some t0) (g0:o0.guard=none) (n0:∀c,o0.op≠.defer c) (b0:Nat.blt t0 n.n=true) (p0:Pv P n l o0 v0)
 (d1:o1.dst=some t1) (g1:o1.guard=none) (n1:∀c,o1.op≠.defer c) (b1:Nat.blt t1 n.n=true) (p1:Pv P n ((t0,v0)::l) o1 v1)
 (d2:o2.dst=some t2) (g2:o2.guard=none) (n2:∀c,o2.op≠.defer c) (b2:Nat.blt t2 n.n=true) (p2:Pv P n ((t1,v1)::(t0,v0)::l) o2 v2)
 (d3:o3.dst=none) (g3:o3.guard=none) (p3:∀a w,Fr n ((t2,v2)::(t1,v1)::(t0,v0)::l) a→(execOp a.eval o3).run P w=.ok (.defer d) w)
 (k:Vc P Qf ⟨n.n,n.ro,[],d::n.dx⟩ F ks ((t2,v2)::(t1,v1)::(t0,v0)::l) hl):Vc P Qf n F (.code (.region id #[o0,o1,o2,o3] false)::ks) l hl:=by
 intro a w hf hh
 refine wpIn_region ?_
 show wpOpsIn (Fe n.ro) 0 P #[o0,o1,o2,o3] (postK P n.ro Qf ks) [0,1,2,3] a w
 have want:∀{o:Oper},o.guard=none→∀a:Act,Region.wanted o (yielded #[o0,o1,o2,o3] a.tmps)=true:=fun h a=>by simp [Region.wanted,h]
 rw [wpOpsIn_cons]
 refine yields_wpOpX (S:=fun _=>True) rfl n0 (.inl ⟨want g0 _,fun w _=>p0 a w hf⟩) trivial ?_
 rw [d0]
 have hf0:=hf.put b0 v0
 generalize a.put (some t0) v0=a0 at hf0
 rw [wpOpsIn_cons]
 refine yields_wpOpX (S:=fun _=>True) rfl n1 (.inl ⟨want g1 _,fun w _=>p1 a0 w hf0⟩) trivial ?_
 rw [d1]
 have hf1:=hf0.put b1 v1
 generalize a0.put (some t1) v1=a1 at hf1
 rw [wpOpsIn_cons]
 refine yields_wpOpX (S:=fun _=>True) rfl n2 (.inl ⟨want g2 _,fun w _=>p2 a1 w hf1⟩) trivial ?_
 rw [d2]
 have hf2:=hf1.put b2 v2
 generalize a1.put (some t2) v2=a2 at hf2
 rw [wpOpsIn_cons]
 have e3:#[o0,o1,o2,o3][3]? = some o3:=rfl
 unfold wpOpIn
 simp only [e3,want g3,if_true]
 unfold Oper.wpIn
 refine ⟨fun _ _=>trivial,?_⟩
 have hs:Oper.semAt (Fe n.ro).round a2.eval o3=execOp a2.eval o3:=by
  show Oper.semAt n.ro a2.eval o3=_
  rw [hro];rfl
 rw [hs,p3 a2 w hf2,Oper.uponIn_defer,d3]
 show postK P n.ro Qf ks .normal { a2 with defers:=d::a2.defers } w
 exact k _ w ⟨by show d::a2.defers=_;rw [hf2.dfr,hds];rfl,hf2.size,hf2.has⟩ hh
theorem Vc.retsX {fn:Func} {post post0:Value→Hl→Prop} {g:FuncId} {args:Array Value} {pre rest:Hl} (hdx:n.dx=[{ target:=.fn (.func g) #[],args:=args }]) (hp:hl.Perm (pre++rest)) (hs:SpecD P g args (frz F rest) pre post0) (hinv:∀w,(invoke (.fn (.func g) #[]) args).run P w=.ok (.enter g args) w)
 {xs:List ResultVar} (hr:fn.results=xs.toArray) (h:∀v s,post0 v s→∃vs hl' rest',ResL P F l (s++rest) xs vs∧post (oneOr vs) hl'∧(s++rest).Perm (hl'++rest')) (hds:n.ds=[]:=by rfl):QRet (SpecQ P fn F post) n F l hl:=fun a w hf hh=>by
 have key:LeavesInM (Fe none) 0 P fn a.tmps (fun e w'=>∃v hl',e=.returned v∧post v hl'∧Hp F hl' w') a.defers .returning w:=by
  rw [hf.dfr,hds,hdx]
  refine ⟨by simp,.inr ⟨fun h=>(by cases h),.func g,#[],g,args,rfl,hinv w,fun _ _=>trivial,?_⟩⟩
  obtain ⟨k1,k2,k3⟩:=Hp.frz_iff.1 (hh.perm hp)
  refine (hs w k1).mono fun e u' w' ⟨hu,v,s,he,hpost,hh'⟩=>?_
  subst he;subst hu
  have hh2:Hp F (s++rest) w':=Hp.frz_iff.2 ⟨hh',k2,k3⟩
  obtain ⟨vs,hl',rest',hv,hq,hperm⟩:=h v s hpost
  exact ⟨_,results_run hr hv hf hh2,_,hl',rfl,hq,(hh2.perm hperm).forget⟩
 exact ⟨key,key⟩
end
theorem unlockD_spec {F:Fm} {pb:Nat} {T:TypeId} {vs:List Value}:SpecD Tryz.prog 18 #[.pointer (some ⟨pb,0,none⟩)] F [(pb,cellsO (.int .i32 1::vs) T)] fun v s'=>s'=[(pb,cellsO (.int .i32 0::vs) T)]:=by
 refine SpecD.of (n:=6) (vs:=[.pointer (some ⟨pb,0,none⟩)]) Tryz.func18 rfl Tryz.ntmps18 rfl ?_
 refine tj [.p,.p,.p,.e] Z<|mj Z<|nj Z<|fj Z ?_
 refine Rg.callH Z Z Z (mz Z) (fun F' hF'=>iunlock_spec (F:=F') (vs:=vs) (T:=T)) Z ?_
 rintro _ _ ⟨rfl,rfl⟩
 refine nl ?_
 exact Vc.fin (Vc.retsD (hl':=[(pb,cellsO (.int .i32 0::vs) T)]) rfl .nil rfl pulled)
open ED (Eg egV egC edgeE InE grV)
theorem Pv.eqFnF {P:Program} {n:Nf} {l:Env} {d:Option Tmp} {ty:TypeId} {pos:String} {af:Array Edge} {g:Option (Nat×Bool)} {t t':TypeId} {x:Operand} {f:Fn} {us cs:Array Value} {ps rs:Array TypeId} {vd:Bool} [hi:TyUnder P t (.func ps rs vd)] (hx:ev l x=some (.func f us cs)) :
 Pv P n l ⟨d,.binOp .eql t x (.const .nilFunc) t',ty,pos,af,g⟩ (.bool false):=fun a w hf=>by
 have h:(Op.equal t (.func f us cs) .nilFunc).run P w=.ok false w:=by
  have key:∀n,(Op.equalIn (n+1) t (.func f us cs) .nilFunc).run P w=.ok false w:=fun n=>by
   simp only [Op.equalIn,Sem.run_bind,run_underlying hi.under,Result.andThen_ok,Sem.run_pure]
  exact key 9999
 simp [execOp,hf.ev hx,hf.ev (show ev l (.const .nilFunc)=some .nilFunc from rfl),eqGuard,binOp,h]
abbrev anC (e a val:Int) (is:Bool) (p:Prg):List Value:=[.int .i64 e,.int .i64 a,.int .u64 val,.bool is,.int .i64 p.kind,.int .u32 (p.start:Int)]
abbrev anV (e a val:Int) (is:Bool) (p:Prg):Value:=.agg #[.int .i64 e,.int .i64 a,.int .u64 val,.bool is,.int .i64 p.kind,.int .u32 (p.start:Int)]
abbrev spV (k n m:Int) (p:Prg) (D K:Value):Value:=.agg #[.int .i64 k,.int .i64 n,.int .i64 m,.int .i64 p.kind,.int .u32 (p.start:Int),D,K]
section
variable {F : Fm} {hl : Hl} {ep : Value} {k n m : Int} {p : Prg} {pd pk : Option Addr} {nd cd nk ck : Nat} {post : Value → Hl → Prop}
theorem calls1_of (h:∀F',(∀b o,F.at_ b o→F'.at_ b o)→Spec Tryz.prog 176 #[ep,.slice pd nd cd,.int .i64 n] F' hl post) (hq:∀v s,post v s→∃a e:Int,v=.tuple #[.int .i64 a,.int .i64 e]) :
 Spec Tryz.prog 175 #[ep,spV k n m p (.slice pd nd cd) (.slice pk nk ck)] F hl fun v s=>∃a e:Int,v=anV e a 0 false ⟨0,0⟩∧post (.tuple #[.int .i64 a,.int .i64 e]) s:=by
 refine Spec.of (n:=17) (vs:=[ep,spV k n m p (.slice pd nd cd) (.slice pk nk ck)]) Tryz.func175 rfl Tryz.ntmps175 rfl ?_
 refine sj [.e,.e] Z<|Rg.box Z Z Z Z Z (fun b3=>?_)
 refine Rg.alloc Z Z Z Z (fun b4=>?_)
 refine nl<|sj [.p,.p,.r,.p,.r,.e,.p,.p,.p,.p,.e,.p,.e] Z<|mj Z<|fj Z<|lj Z Z<|fj Z<|lj Z Z ?_
 refine Rg.callH Z Z Z (mz Z) (fun F' hF'=>h F' (fun b o hb=>hF' b o (.inr hb))) Z ?_
 rintro v11 s11 h11
 obtain ⟨a,e,rfl⟩:=hq _ _ h11
 refine mj Z<|xj Z Z<|xj Z Z<|fj Z ?_
 refine Rg.store Z Z Z Z Z Z Z Z<|fj Z ?_
 refine Rg.store Z Z Z Z Z Z Z Z<|nl<|sj [.r,.e] Z<|rj Z (Ev.as (anV e a 0 false ⟨0,0⟩) (Ev.ldA Z Z) Z)<|Rg.storeA (us:=anC e a 0 false ⟨0,0⟩) Z Z Z Z Z Z Z Z<|nl ?_
 exact vr (hl':=s11) rfl (.cons (.cellA rfl rfl) .nil) ⟨a,e,rfl,h11⟩ pulled
theorem calls2_of (h:∀F',(∀b o,F.at_ b o→F'.at_ b o)→Spec Tryz.prog 178 #[ep,prV p,.int .i64 n] F' hl post) (hq:∀v s,post v s→∃a e:Int,v=.tuple #[.int .i64 a,.int .i64 e]) :
 Spec Tryz.prog 177 #[ep,spV k n m p (.slice pd nd cd) (.slice pk nk ck)] F hl fun v s=>∃a e:Int,v=anV e a 0 false ⟨0,0⟩∧post (.tuple #[.int .i64 a,.int .i64 e]) s:=by
 refine Spec.of (n:=17) (vs:=[ep,spV k n m p (.slice pd nd cd) (.slice pk nk ck)]) Tryz.func177 rfl Tryz.ntmps177 rfl ?_
 refine sj [.e,.e] Z<|Rg.box Z Z Z Z Z (fun b3=>?_)
 refine Rg.alloc Z Z Z Z (fun b4=>?_)
 refine nl<|sj [.p,.p,.r,.p,.r,.e,.p,.p,.p,.p,.e,.p,.e] Z<|mj Z<|fj Z<|rj Z (Ev.as (prV p) (Ev.ldA Z Z) Z)<|fj Z<|lj Z Z ?_
 refine Rg.callH Z Z Z (mz Z) (fun F' hF'=>h F' (fun b o hb=>hF' b o (.inr hb))) Z ?_
 rintro v11 s11 h11
 obtain ⟨a,e,rfl⟩:=hq _ _ h11
 refine mj Z<|xj Z Z<|xj Z Z<|fj Z ?_
 refine Rg.store Z Z Z Z Z Z Z Z<|fj Z ?_
 refine Rg.store Z Z Z Z Z Z Z Z<|nl<|sj [.r,.e] Z<|rj Z (Ev.as (anV e a 0 false ⟨0,0⟩) (Ev.ldA Z Z) Z)<|Rg.storeA (us:=anC e a 0 false ⟨0,0⟩) Z Z Z Z Z Z Z Z<|nl ?_
 exact vr (hl':=s11) rfl (.cons (.cellA rfl rfl) .nil) ⟨a,e,rfl,h11⟩ pulled
theorem calls3_of (h:∀F',(∀b o,F.at_ b o→F'.at_ b o)→Spec Tryz.prog 180 #[ep,.int .i64 n,.int .i64 m] F' hl post) (hq:∀v s,post v s→∃(val:Int) (is:Bool) (e:Int),v=.tuple #[.int .u64 val,.bool is,.int .i64 e]) :
 Spec Tryz.prog 179 #[ep,spV k n m p (.slice pd nd cd) (.slice pk nk ck)] F hl fun v s=>∃(val:Int) (is:Bool) (e:Int),v=anV e 0 val is ⟨0,0⟩∧post (.tuple #[.int .u64 val,.bool is,.int .i64 e]) s:=by
 refine Spec.of (n:=19) (vs:=[ep,spV k n m p (.slice pd nd cd) (.slice pk nk ck)]) Tryz.func179 rfl Tryz.ntmps179 rfl ?_
 refine sj [.e,.e] Z<|Rg.box Z Z Z Z Z (fun b3=>?_)
 refine Rg.alloc Z Z Z Z (fun b4=>?_)
 refine nl<|sj [.p,.p,.r,.p,.r,.e,.p,.p,.p,.p,.p,.e,.p,.e,.p,.e] Z<|mj Z<|fj Z<|lj Z Z<|fj Z<|lj Z Z ?_
 refine Rg.callH Z Z Z (mz Z) (fun F' hF'=>h F' (fun b o hb=>hF' b o (.inr hb))) Z ?_
 rintro v11 s11 h11
 obtain ⟨val,is,e,rfl⟩:=hq _ _ h11
 refine mj Z<|xj Z Z<|xj Z Z<|xj Z Z<|fj Z ?_
 refine Rg.store Z Z Z Z Z Z Z Z<|fj Z ?_
 refine Rg.store Z Z Z Z Z Z Z Z<|fj Z ?_
 refine Rg.store Z Z Z Z Z Z Z Z<|nl<|sj [.r,.e] Z<|rj Z (Ev.as (anV e 0 val is ⟨0,0⟩) (Ev.ldA Z Z) Z)<|Rg.storeA (us:=anC e 0 val is ⟨0,0⟩) Z Z Z Z Z Z Z Z<|nl ?_
 exact vr (hl':=s11) rfl (.cons (.cellA rfl rfl) .nil) ⟨val,is,e,rfl,h11⟩ pulled
theorem calls4_of {is:Bool} {a:Int} {q:Prg} (h:∀F',(∀b o,F.at_ b o→F'.at_ b o)→Spec Tryz.prog 169 #[ep] F' hl fun v s=>v=.tuple #[.bool is,.int .i64 a,prV q]∧s=hl) :
 Spec Tryz.prog 181 #[ep,spV k n m p (.slice pd nd cd) (.slice pk nk ck)] F hl fun v s=>v=anV 0 a 0 is q∧s=hl:=by
 refine Spec.of (n:=15) (vs:=[ep,spV k n m p (.slice pd nd cd) (.slice pk nk ck)]) Tryz.func181 rfl Tryz.ntmps181 rfl ?_
 refine sj [.e,.e] Z<|Rg.box Z Z Z Z Z (fun b3=>?_)
 refine Rg.alloc Z Z Z Z (fun b4=>?_)
 refine nl<|sj [.p,.e,.p,.p,.p,.p,.p,.e,.p,.e,.p,.e] Z<|mj Z<|Rg.callH Z Z Z (mz Z) (fun F' hF'=>h F' (fun b o hb=>hF' b o (.inr hb))) Z ?_
 rintro _ h7 ⟨rfl,rfl⟩
 refine mj Z<|xj Z Z<|xj Z Z<|xj Z Z<|fj Z ?_
 refine Rg.store Z Z Z Z Z Z Z Z<|fj Z ?_
 refine Rg.store Z Z Z Z Z Z Z Z<|fj Z ?_
 refine Rg.storeA (us:=prC q) Z Z Z Z Z Z Z Z<|nl<|sj [.r,.e] Z<|rj Z (Ev.as (anV 0 a 0 is q) (Ev.ldA Z Z) Z)<|Rg.storeA (us:=anC 0 a 0 is q) Z Z Z Z Z Z Z Z<|nl ?_
 exact vr (hl':=h7) rfl (.cons (.cellA rfl rfl) .nil) ⟨rfl,rfl⟩ pulled
end
end Go.Proofs.YtkpiakgmkpbikaaGreatDoor
