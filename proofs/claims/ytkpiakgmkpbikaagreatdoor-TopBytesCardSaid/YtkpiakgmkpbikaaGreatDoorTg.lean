/- Steps of the proof. -/
import Derived.Test.YtkpiakgmkpbikaaGreatDoorSlS
import Derived.Test.YtkpiakgmkpbikaaGreatDoorTs
import Derived.Test.YtkpiakgmkpbikaaGreatDoorTz
set_option linter.unusedVariables false
namespace Go.Proofs.YtkpiakgmkpbikaaGreatDoor
section
variable {α : Type} {E : Enc α} {P : Program} {n : Nf} {F : Fm} {l : Env} {hl : Hl} {d : Option Tmp} {ty : TypeId} {pos : String} {af : Array Edge} {g : Option (Nat × Bool)}
variable {Qf : Exit → Act → World → Prop} {ks : List KItem} {ops : List Oper} {clr : List Nat} {hs : Hl} {r : Sd} {i : Nat}
theorem Rg.clearSl {t B b o m c:Nat} {x:Operand} {ys:List α} {sp:List Value} {rest:Hl} (at_:Nat) (z0:α) [ht:TySl P t E B] [hz0:TyZero P E.tid (E.val z0)] (ho:nth ops i=some ⟨d,.call { callee:=.builtin .clear,args:=#[x],argTypes:=#[t] },ty,pos,af,g⟩) (hg:wantB ops l g=some true) (hd:d=none)
 (hx:ev l x=some (.slice (some ⟨b,o,none⟩) m c)) [hb:Pull1 hl b (rowS E ys sp) rest] (hof:o=at_*E.k) (hm:at_+m=ys.length) (hclr:clr.contains i=true)
 (h:Rg P Qf n F ks ops clr ((b,rowS E (ys.take at_++List.replicate m z0) sp)::rest) r l ((b,rowS E (ys.take at_++List.replicate m z0) sp)::rest)):Rg P Qf n F ks ops clr hs (.st i .eff r) l hl :=
 Rg.run ho hg fun a w hf hh=>by
  subst hd;subst hof
  have hh':=hh.perm hb.perm
  have hbk:=hh'.own b _ List.mem_cons_self
  have hc:(E.val z0).cells=(E.cells z0).toArray:=by rw [←E.vc]
  have hzf:=zero_flat (E:=E) hc m
  have hset:setsL (flat E ys++sp) (at_*E.k+0) (flat E (List.replicate m z0))=some (flat E (ys.take at_++List.replicate m z0)++sp):=by
   have hfl:(flat E ys).length=at_*E.k+m*E.k:=by rw [flat_length,←hm,Nat.add_mul]
   have hfr:(flat E (List.replicate m z0)).length=m*E.k:=by rw [flat_length,List.length_replicate]
   have hft:(flat E (ys.take at_)).length=at_*E.k:=by rw [flat_length,List.length_take,Nat.min_eq_left (by omega)]
   rw [Nat.add_zero,setsL_mk _ _ _ (by rw [ly];omega),flat_append]
   congr 1
   rw [hfr,List.take_append_of_le_length (by omega),List.drop_append,show at_*E.k+m*E.k-(flat E ys).length=0 by omega,List.drop_of_length_le (by omega:(flat E ys).length≤at_*E.k+m*E.k),List.nil_append,List.drop_zero]
   congr 2
   rw [flat_parts ys at_,←hft,List.take_left' rfl]
  have hst:=run_storeCells (P:=P) (b:=b) (e:=E.tid) (flat E (List.replicate m z0)) 0 (at_*E.k) (flat E ys++sp) _ w hbk hset (flat_one _)
  have hr:(Builtin.clear_ #[t] ty #[.slice (some ⟨b,at_*E.k,none⟩) m c]).run P w=.ok (.tuple #[]) (Go.Proofs.YtkpiakgmkpbikaaGreatDoor.putB w b (rowS E (ys.take at_++List.replicate m z0) sp)):=by
   by_cases hm0:m=0
   · subst hm0
     have e:ys.take at_++List.replicate 0 z0=ys:=by rw [List.replicate_zero,List.append_nil,List.take_of_length_le (by omega)]
     rw [e,putB_same hbk]
     simp [Builtin.clear_,run_underlying ht.under]
   · obtain ⟨m',rfl⟩:∃m',m=m'+1:=⟨m-1,by omega⟩
     simp [Builtin.clear_,run_underlying ht.under,hz0.zero,hzf,hst,rowS]
  have hh2:=Lens.putB (put:=fun o'=>(b,o')::rest) ⟨[],rest,rfl,fun _=>rfl⟩ hh' (rowS E (ys.take at_++List.replicate m z0) sp)
  exact ⟨_,l,_,_,.inl ⟨.tuple #[],by simp [execOp,resolve,invoke,builtin,hf.ev hx,hr],hf.putNone _⟩,hh2,hh2.st,.inl hclr,h⟩
end
instance : TyZero Tryz.prog strE.tid (strE.val []):=inferInstanceAs (TyZero Tryz.prog 9 (.string ⟨#[]⟩))
theorem indexFuncS_spec {F:Fm} {va:Value} {xs:List (List UInt8)} (ha:Arg strE F va xs) (hN:xs.length<1073741824) (p:List UInt8→Bool) (g:Nat) [TyCall Tryz.prog g] (cs:List Value)
 (hs:∀F',(∀b o,F.at_ b o→F'.at_ b o)→∀x,Spec Tryz.prog g (kS x::cs).toArray F' [] fun v _=>v=.bool (p x)) :
 Spec Tryz.prog 272 #[va,.func (.func g) #[] cs.toArray] F [] fun v _=>∃r:Int,v=.int .i64 r∧(r = -1∨(0≤r∧r<(xs.length:Int))):=by
 obtain ⟨q,c,rfl⟩:=ha.shape
 refine Spec.of (n:=19) (vs:=[.slice q xs.length c,.func (.func g) #[] cs.toArray]) Tryz.func272 rfl Tryz.ntmps272 rfl ?_
 refine sj [.p] Z<|aj Z<|nl<|wj<|sj [.p,.p,.p] Z<|mj Z<|uj Z (Pv.lenS Z)<|mj Z<|nl<|bj ?_
 refine Vc.loop1 (fun (i:Nat)=>i≤xs.length) (fun i=>[(0,.slice q xs.length c),(1,.func (.func g) #[] cs.toArray),(7,.int .i64 (xs.length:Int)),(8,.int .i64 (i:Int))]) (fun i=>[]) (fun i=>xs.length-i) 0 (Nat.zero_le _) (.cons Z (.cons Z (.cons Z (.cons Z .nil)))) pulled ?_
 rintro i h1
 refine sj [.p] Z<|uj Z (Pv.lss Z Z)<|nl<|wj<|cj Z (fun h9=>?_) (fun h9=>?_)
 · simp only [dt] at h9
   obtain ⟨b,off,c',e,_⟩:=ha.block (by omega)
   cases e
   refine kj<|wj<|bj<|sj [.p,.p] Z<|mj Z<|aj Z<|nl<|sj [.p,.p,.p,.p,.r,.e] Z<|mj Z<|mj Z<|mj Z<|uj Z (Pv.ixA (i) rfl rfl (by omega) (by omega))<|rj Z (Ev.as (kS xs[i]!) (Ev.ldS (E:=strE) i ha.src rfl rfl rfl (by omega)) rfl)<|Rg.callP Z Z Z (run_callV Z Z) (hs _ (fun _ _ h=>Or.inr h) xs[i]!) ?_
   rintro _ rfl
   refine nl<|cj Z (fun h16=>?_) (fun h16=>?_)
   · refine sj [.p,.p] Z<|mj Z<|aj Z<|nl<|vz Z (tz Z) ?_
     refine ⟨(i:Int),rfl,.inr ⟨by omega,by omega⟩⟩
   · refine kj<|dj<|tj [.p,.p] Z<|uj Z (Pv.asI (i+1) (Pv.add rfl rfl (by omega)) (by omega))<|mj Z<|nl ?_
     exact Vc.inv1 (i+1) ⟨by omega,by omega⟩ (.cons rfl (.cons rfl (.cons rfl (.cons rfl .nil)))) pulled
 · refine Vc.exit Z<|sj [.p] Z<|aj Z<|nl<|vz Z (tz Z) ?_
   exact ⟨-1,rfl,.inl rfl⟩
theorem deleteFunc_spec {F:Fm} {va:Value} {xs:List (List UInt8)} {s:Hl} (own:Own strE va xs s) (hN:xs.length<1073741824) (p:List UInt8→Bool) (g:Nat) [TyCall Tryz.prog g] (cs:List Value)
 (hs:∀F',(∀b o,F.at_ b o→F'.at_ b o)→∀x,Spec Tryz.prog g (kS x::cs).toArray F' [] fun v _=>v=.bool (p x)) :
 Spec Tryz.prog 254 #[va,.func (.func g) #[] cs.toArray] F s fun v s'=>∃ys,ys.length≤xs.length∧Own strE v ys s':=by
 obtain ⟨q,c,rfl⟩:=own.shape
 refine Spec.of (n:=42) (vs:=[.slice q xs.length c,.func (.func g) #[] cs.toArray]) Tryz.func254 rfl Tryz.ntmps254 rfl ?_
 refine sj [.p] Z<|aj Z<|nl<|sj [.p,.p,.e,.p] Z<|mj Z<|mj Z<|Rg.callP Z Z Z (mz Z) (indexFuncS_spec (Arg.own own frz_sb) hN p g cs (fun F' hF'=>hs F' fun b o h=>hF' b o (Or.inr h))) ?_
 rintro _ ⟨r,rfl,hr⟩
 refine aj Z<|nl<|wj<|sj [.p,.p] Z<|mj Z<|uj Z (Pv.eql Z Z)<|nl<|cj Z (fun h12=>?_) (fun h12=>?_)
 · simp only [beq_iff_eq] at h12
   refine sj [.p,.p] Z<|mj Z<|aj Z<|nl ?_
   exact vr rfl (tz Z) (⟨xs,Nat.le_refl _,own⟩) pulled
 · simp only [beq_eq_false_iff_ne,ne_eq] at h12
   obtain ⟨h0,h1⟩:=hr.resolve_left h12
   obtain ⟨i0,rfl⟩:=Int.eq_ofNat_of_zero_le h0
   obtain ⟨b,cap,sp,e,rfl,hcap,hcm⟩:=own.block (by omega)
   simp only [Value.slice.injEq] at e
   obtain ⟨rfl,_,rfl⟩:=e
   have hle:xs.length≤c:=by have:=Nat.le_of_mul_le_mul_right (show xs.length*strE.k≤c*strE.k by omega) strE.pos;exact this
   refine kj<|wj<|sj [.p,.p,.p] Z<|mj Z<|uj Z (Pv.asI (i0+1) (Pv.add rfl rfl (by omega)) (by omega))<|aj Z<|nl<|bj ?_
   refine Vc.loop3 (fun (i j:Nat) (ys:List (List UInt8))=>i<j∧j≤xs.length∧ys.length=xs.length) (fun i j ys=>[(0,.slice (some ⟨b,0,none⟩) xs.length c),(1,.func (.func g) #[] cs.toArray),(5,.int .i64 (i:Int)),(6,.int .i64 (j:Int))]) (fun i j ys=>[(b,rowS strE ys sp)]) (fun i j ys=>xs.length-j) i0 (i0+1) xs ⟨by omega,by omega,rfl⟩ (.cons rfl (.cons rfl (.cons rfl (.cons rfl .nil)))) pulled ?_
   rintro i j ys ⟨hij,hj,hyl⟩
   refine wj<|sj [.p,.p,.p,.p] Z<|mj Z<|mj Z<|uj Z (Pv.lenS Z)<|uj Z (Pv.lss Z Z)<|nl<|cj Z (fun h19=>?_) (fun h19=>?_)
   · simp only [dt] at h19
     have hj1:j<ys.length:=by omega
     refine kj<|wj<|bj<|sj [.p,.p,.p,.r,.p] Z<|mj Z<|mj Z<|uj Z (Pv.ixA (j) rfl rfl (by omega) (by omega))<|rj Z (Ev.as (kS ys[j]!) (Ev.ldR (E:=strE) j rfl (Nat.zero_add _) (by omega)) rfl)<|aj Z<|nl<|sj [.p,.p,.e,.p] Z<|mj Z<|mj Z<|Rg.callP Z Z Z (run_callV Z Z) (hs _ (fun _ _ h=>Or.inr h) ys[j]!) ?_
     rintro _ rfl
     refine uj Z (Pv.not Z)<|nl<|cj Z (fun h29=>?_) (fun h29=>?_)
     · refine sj [.p,.p,.p,.p,.e] Z<|mj Z<|mj Z<|mj Z<|uj Z (Pv.ixA (i) rfl rfl (by omega) (by omega))<|Rg.storeR (E:=strE) (z:=ys[j]!) i rfl rfl rfl rfl rfl rfl (Nat.zero_add _) (by omega) rfl<|nl<|tj [.p,.p,.p] Z<|mj Z<|uj Z (Pv.asI (i+1) (Pv.add rfl rfl (by omega)) (by omega))<|aj Z<|nl<|dj<|tj [.p,.p,.p] Z<|mj Z ?_
       refine uj Z (Pv.asI (j+1) (Pv.add rfl rfl (by omega)) (by omega))<|aj Z<|nl ?_
       exact Vc.inv3 (i+1) (j+1) (ys.set i ys[j]!) ⟨⟨by omega,by omega,by rw [List.length_set,hyl]⟩,by omega⟩ (.cons rfl (.cons rfl (.cons rfl (.cons rfl .nil)))) pulled
     · refine kj<|dj<|tj [.p,.p,.p] Z<|mj Z<|uj Z (Pv.asI (j+1) (Pv.add rfl rfl (by omega)) (by omega))<|aj Z<|nl ?_
       exact Vc.inv3 i (j+1) ys ⟨⟨by omega,by omega,hyl⟩,by omega⟩ (.cons rfl (.cons rfl (.cons rfl (.cons rfl .nil)))) pulled
   · simp only [df] at h19
     have hi1:i<xs.length:=by omega
     refine Vc.exit Z<|sj [.p,.p,.p,.e] Z<|mj Z<|mj Z ?_
     have hci : ¬c=i:=by omega
     refine uj Z (Pv.as (.slice (some ⟨b,i*1,none⟩) (xs.length-i) (c-i)) (Pv.sl (lv:=some (.int .i64 (i:Int))) (hv:=none) i xs.length rfl rfl rfl (by omega) hle (fun _=>hle)) (by rw [if_neg hci];show Value.slice (some ((⟨b,0,none⟩:Addr).add (i*1))) _ _=_;rw [addr_add,Nat.zero_add]))<|Rg.clearSl (E:=strE) (b:=b) (ys:=ys) (sp:=sp) (o:=i*1) (m:=xs.length-i) (c:=c-i) i [] rfl rfl rfl rfl rfl (by omega) rfl<|nl<|wj ?_
     rw [rowS_take strE (ys.take i++List.replicate (xs.length-i) []) sp i,List.take_left' (by rw [List.length_take];omega)]
     obtain ⟨sp2,hsp2⟩:∃sp2,sp2=flat strE ((ys.take i++List.replicate (xs.length-i) []).drop i)++sp:=⟨_,rfl⟩
     rw [←hsp2]
     have hs2:i*strE.k+sp2.length=c*strE.k:=by
      rw [hsp2,List.drop_left' (by rw [List.length_take];omega),ly,flat_length,List.length_replicate,←Nat.add_assoc,←Nat.add_mul,←hcap]
      congr 2
      omega
     refine tj [.p,.p,.p,.p] Z<|mj Z<|mj Z<|uj Z (Pv.slTo (i) rfl rfl (by omega))<|aj Z<|nl ?_
     exact vr rfl (tz Z) (⟨ys.take i,by rw [List.length_take];omega,Own.blk' b c i (ys.take i) sp2 (by rw [List.length_take];omega) hs2 hcm⟩) pulled
theorem cloneS_spec {F:Fm} {va:Value} {xs:List (List UInt8)} (ha:Arg strE F va xs) (hN:xs.length<4294967296) :
 Spec Tryz.prog 225 #[va] F [] fun v s=>Own strE v xs s:=by
 obtain ⟨p,c,rfl⟩:=ha.shape
 refine Spec.of (n:=8) (vs:=[.slice p xs.length c]) Tryz.func225 rfl Tryz.ntmps225 rfl ?_
 refine sj [.p] Z<|aj Z<|nl<|wj<|sj [.p,.p] Z<|mj Z<|uj Z (Pv.eqlNilS Z Z)<|nl<|cj Z (fun h4=>?_) (fun h4=>?_)
 · obtain rfl:p=none:=by cases p with | none=>rfl | some a=>cases h4
   obtain rfl:xs=[]:=by
    rcases ha with ⟨_,e⟩ | ⟨_,_,_,e,_⟩
    · exact e
    · cases e
   refine sj [.p] Z<|aj Z<|nl<|vz Z (tz Z) ?_
   exact Own.nil
 · refine kj<|sj [.e,.p,.e,.p] Z<|Rg.bslice0 (E:=strE) Z Z Z (fun b5 own5=>?_)
   refine mj Z<|Rg.append Z Z Z Z Z own5 ha.src (by simp<;>omega) (by simp [maxLen]<;>omega) rfl (fun v7 s7 own7=>?_)
   refine aj Z<|nl ?_
   exact vr rfl (tz Z) (own7) pulled
def runB:Nm:=[114,117,110]
def runN (k:Nat):Nm:=runB++[46]++dig k
abbrev srO (db nx:Nat) (mv:Value):Obj:=cellsO [.pointer (some ⟨db,0,none⟩),kS runB,.int .i64 4,.int .i64 0,.int .i64 (nx:Int),mv] 313
def SrAt (sb db nx m:Nat) (hl:Hl):Prop:=∃mv xs sg,Own strE mv xs sg∧xs.length≤m∧hl=(sb,srO db nx mv)::sg
theorem passes_spec {F:Fm} (n b f:Nat) (hn:n<1000000) (hf:2≤f) (hf2:f<1000000) (hb:b<1000000) :
 Spec Tryz.prog 253 #[.int .i64 (n:Int),.int .i64 (b:Int),.int .i64 (f:Int)] F [] fun v _=>∃k:Int,v=.int .i64 k:=by
 refine Spec.of (n:=34) (vs:=[.int .i64 (n:Int),.int .i64 (b:Int),.int .i64 (f:Int)]) Tryz.func253 rfl Tryz.ntmps253 rfl ?_
 refine sj [.p] Z<|aj Z<|nl<|wj<|sj [.p,.p,.p,.p,.p,.p,.p,.p,.p,.p] Z<|mj Z<|uj Z (Pv.lss Z Z)<|mj Z<|Rg.split (t:=11) Z (fun h11=>?_) (fun h11=>?_)
 · iterate 2 (first | refine Rg.skipP rfl rfl rfl ?_ | refine Rg.skipR rfl rfl rfl ?_ | refine Rg.skipE rfl rfl rfl ?_)
   refine qj Z Z<|mj Z ?_
   iterate 2 (first | refine Rg.skipP rfl rfl rfl ?_ | refine Rg.skipR rfl rfl rfl ?_ | refine Rg.skipE rfl rfl rfl ?_)
   refine qj Z Z<|nl<|Vc.condT Z<|sj [.p] Z<|aj Z<|nl<|vz Z (tz Z) ?_
   exact ⟨_,rfl⟩
 · simp only [df] at h11
   refine mj Z<|uj Z (Pv.lss Z Z)<|pj Z Z<|mj Z<|Rg.split (t:=15) Z (fun h15=>?_) (fun h15=>?_)
   · iterate 2 (first | refine Rg.skipP rfl rfl rfl ?_ | refine Rg.skipR rfl rfl rfl ?_ | refine Rg.skipE rfl rfl rfl ?_)
     refine qj Z Z<|nl<|Vc.condT Z<|sj [.p] Z<|aj Z<|nl<|vz Z (tz Z) ?_
     exact ⟨_,rfl⟩
   · simp only [df] at h15
     obtain ⟨m,rfl⟩:∃m,n=m+1:=⟨n-1,by omega⟩
     obtain ⟨q,hq⟩:∃q,q=m / b:=⟨_,rfl⟩
     have hqm:q≤m:=hq▸Nat.div_le_self _ _
     refine mj Z<|uj Z (Pv.lss Z Z)<|pj Z Z<|nl<|cj Z (fun h18=>?_) (fun h18=>?_)
     · refine sj [.p] Z<|aj Z<|nl<|vz Z (tz Z) ?_
       exact ⟨_,rfl⟩
     · refine kj<|sj [.p] Z<|aj Z<|nl<|wj<|sj [.p,.p,.p,.p,.p,.p] Z<|mj Z<|uj Z (Pv.asI (m) (Pv.sub rfl rfl (by omega)) (by omega))<|mj Z<|uj Z (Pv.asI q (Pv.quo rfl rfl (by omega)) (by rw [hq,Int.natCast_ediv]))<|uj Z (Pv.asI (q+1) (Pv.add rfl rfl (by omega)) (by omega))<|aj Z<|nl<|bj ?_
       refine Vc.loop2 (fun (k r:Nat)=>1≤r∧r≤1000000∧k+r≤2000000) (fun k r=>[(2,.int .i64 (f:Int)),(7,.int .i64 (k:Int)),(8,.int .i64 (r:Int))]) (fun k r=>[]) (fun k r=>r) 0 (q+1) ⟨by omega,by omega,by omega⟩ (.cons rfl (.cons rfl (.cons rfl .nil))) pulled ?_
       rintro k r ⟨hr1,hr2,hkr⟩
       refine wj<|sj [.p,.p] Z<|mj Z<|uj Z (Pv.gtr Z Z)<|nl<|cj Z (fun h25=>?_) (fun h25=>?_)
       · simp only [dt] at h25
         obtain ⟨r1,rfl⟩:∃r1,r=r1+1:=⟨r-1,by omega⟩
         obtain ⟨q1,hq1⟩:∃q1,q1=r1 / f:=⟨_,rfl⟩
         have hlt:q1<r1:=hq1▸Nat.div_lt_self (by omega) (by omega)
         refine kj<|wj<|bj<|tj [.p,.p,.p] Z<|mj Z<|uj Z (Pv.asI (k+1) (Pv.add rfl rfl (by omega)) (by omega))<|aj Z<|nl<|dj<|tj [.p,.p,.p,.p,.p,.p] Z<|mj Z<|uj Z (Pv.asI (r1) (Pv.sub rfl rfl (by omega)) (by omega))<|mj Z<|uj Z (Pv.asI q1 (Pv.quo rfl rfl (by omega)) (by rw [hq1,Int.natCast_ediv]))<|uj Z (Pv.asI (q1+1) (Pv.add rfl rfl (by omega)) (by omega)) ?_
         refine aj Z<|nl ?_
         exact Vc.inv2 (k+1) (q1+1) ⟨⟨by omega,by omega,by omega⟩,by omega⟩ (.cons rfl (.cons rfl (.cons rfl .nil))) pulled
       · refine Vc.exit Z<|sj [.p,.p] Z<|mj Z<|aj Z<|nl<|vz Z (tz Z) ?_
         exact ⟨_,rfl⟩
theorem removeD_c {C:Cx} {D:Dk} (hw:Wz C D) (k:Nm) (h:(removeD D k).1=7):Dn none1 D (removeD D k).2:=by
 rcases begins_z hw with ⟨h0,hg,hfs,hu,hr⟩ | ⟨h7,hc⟩
 · exfalso
   rw [removeD,if_neg (by omega)] at h
   split at h<;>cases h
 · rw [removeD,if_pos h7];exact hc
theorem renameD_c {C:Cx} {D:Dk} (hw:Wz C D) (k to:Nm) (h:(renameD D k to).1=7):Dn none1 D (renameD D k to).2:=by
 rcases begins_z hw with ⟨h0,hg,hfs,hu,hr⟩ | ⟨h7,hc⟩
 · exfalso
   rw [renameD,if_neg (by omega)] at h
   split at h
   · cases h
   · split at h
     · cases h
     · split at h<;>cases h
 · rw [renameD,if_pos h7];exact hc
section
variable {F : Fm} {db : Nat} {C : Cx} {D : Dk} {s : Hl}
theorem remove_zc (hC:C.Ok) (hD:DiskAt db D s) (hw:Wz C D) (k:Nm) :
 Spec Tryz.prog 72 #[.pointer (some ⟨db,0,none⟩),kS k] F s fun v s'=>∃e D',v=.int .i64 e∧DiskAt db D' s'∧Wz C D'∧(((e=0∨e=4)∧Gd (· = k) D D'∧findF D'.files k=none)∨(e=7∧Dn none1 D D')):=by
 have hz:=hw.dz hC
 refine (remove_spec hD hz.sz hz.fewB hz.arm hz.fewB2 (by have:=hz.usedB;omega) k).mono fun v s ⟨h1,h2⟩=>⟨_,_,h1,h2,?_⟩
 cases hf:findF D.files k with
 | none =>
  obtain ⟨h3,h4⟩:=removeD_zn hw hf
  exact ⟨h3,h4.imp (fun x=>⟨.inr x.1,x.2.1.any,by rw [x.2.1.same k (fun h=>h.elim)];exact hf⟩) (fun x=>⟨x.1,removeD_c hw k x.1⟩)⟩
 | some f =>
  obtain ⟨h3,h4⟩:=removeD_z hw hf
  exact ⟨h3,h4.imp (fun x=>⟨.inl x.1,x.2⟩) (fun x=>⟨x.1,removeD_c hw k x.1⟩)⟩
theorem rename_zc (hC:C.Ok) (hD:DiskAt db D s) (hw:Wz C D) {k:Nm} {f:Fl} (hf:findF D.files k=some f) {to:Nm} (hk:to∈C.S) (hne:k≠to) :
 Spec Tryz.prog 232 #[.pointer (some ⟨db,0,none⟩),kS k,kS to] F s fun v s'=>∃e D',v=.int .i64 e∧DiskAt db D' s'∧Wz C D'∧((e=0∧Gd (fun x=>x=k∨x=to) D D'∧findF D'.files k=none∧findF D'.files to=some f)∨(e=7∧Dn none1 D D')):=by
 have hz:=hw.dz hC
 refine (rename_spec hD hz k to).mono fun v s ⟨h1,h2⟩=>⟨_,_,h1,h2,?_⟩
 obtain ⟨h3,h4⟩:=renameD_z hw hf hk (hC.may to hk) hne
 exact ⟨h3,h4.imp id (fun x=>⟨x.1,renameD_c hw k to x.1⟩)⟩
end
section
variable {F : Fm} {sb db nx m : Nat} {C : Cx} {D : Dk} {s1 s2 : Hl}
theorem name_spec (hS:SrAt sb db nx m s1) (hn:nx+1<100) :
 Spec Tryz.prog 250 #[.pointer (some ⟨sb,0,none⟩)] F s1 fun v s'=>v=kS (runN (nx+1))∧SrAt sb db (nx+1) m s':=by
 obtain ⟨mv,xs,sg,own,hm,rfl⟩:=hS
 have h1c:=own.one
 refine Spec.of (n:=21) (vs:=[.pointer (some ⟨sb,0,none⟩)]) Tryz.func250 rfl Tryz.ntmps250 rfl ?_
 refine sj [.p] Z<|aj Z<|nl<|sj [.p,.p,.p,.r,.p,.p,.p,.e] Z<|mj Z<|nj Z<|fj Z<|lj Z Z<|uj Z (Pv.asI (nx+1) (Pv.add rfl rfl (by omega)) (by omega))<|nj Z<|fj Z ?_
 refine Rg.store Z Z Z Z Z Z Z Z<|nl<|wj ?_
 refine Vc.draw [] (sd [(0,.pure),(1,.pure),(2,.pure),(3,.read),(4,.pure),(5,.pure),(6,.pure),(7,.pure),(8,.read),(9,.eff),(10,.pure),(11,.pure)]) mixed (by kernel_rfl)<|mj Z<|nj Z<|fj Z<|lj Z Z<|uj Z (Pv.addK rfl rfl (by decide))<|mj Z<|nj Z<|fj Z<|lj Z Z ?_
 refine Rg.callP Z Z Z (mz Z) (itoa_spec (nx+1) hn) ?_
 rintro _ rfl
 refine uj Z (Pv.addK rfl rfl (by have:=dig_len (nx+1);simp [runB];omega))<|aj Z<|nl ?_
 exact vr rfl (tz Z) (⟨rfl,mv,xs,sg,own,hm,rfl⟩) pulled
abbrev eqS (y x:List UInt8):Bool:=decide ((⟨x.toArray⟩:ByteArray)=⟨y.toArray⟩)
theorem gone1_spec {bx:Nat} (y x:List UInt8) [hb:Fat F bx (cellsO [kS y] 9)] :
 Spec Tryz.prog 255 #[kS x,.pointer (some ⟨bx,0,none⟩)] F [] fun v _=>v=.bool (eqS y x):=by
 refine Spec.of (n:=7) (vs:=[kS x,.pointer (some ⟨bx,0,none⟩)]) Tryz.func255 rfl Tryz.ntmps255 rfl ?_
 refine sj [.p] Z<|aj Z<|nl<|sj [.p,.r,.p,.p] Z<|mj Z<|lj Z Z<|uj Z (Pv.eqlS Z Z)<|aj Z<|nl<|vz Z (tz Z) ?_
 exact rfl
theorem gone_z (hC:C.Ok) (hS:SrAt sb db nx m s1) (hm:m<1000) (hD:DiskAt db D s2) (hw:Wz C D) {vl:Value} {l:List Nm} (ha:Arg strE F vl l) (hl:l.length<1000) (hd:D.down=false∨l≠[]) :
 Spec Tryz.prog 224 #[.pointer (some ⟨sb,0,none⟩),vl] F (s1++s2) fun v s'=>∃e D' h1 h2,v=.int .i64 e∧s'=h1++h2∧SrAt sb db nx m h1∧DiskAt db D' h2∧Out C (fun k=>k∈l) (fun D'=>∀x∈l,findF D'.files x=none) D 0 e D'∧(D.down=true→e=7∧Dn none1 D D'):=by
 obtain ⟨p,c,rfl⟩:=ha.shape
 obtain ⟨mv0,xs0,sg0,own0,hm0,rfl⟩:=hS
 rw [List.cons_append]
 refine Spec.of (n:=37) (vs:=[.pointer (some ⟨sb,0,none⟩),.slice p l.length c]) Tryz.func224 rfl Tryz.ntmps224 rfl ?_
 refine sj [.p] Z<|aj Z<|nl<|wj<|sj [.p,.p,.p] Z<|mj Z<|uj Z (Pv.lenS Z)<|mj Z<|nl<|bj ?_
 refine Vc.loop6 (fun (k:Nat) (mv:Value) (xs:List Nm) (sg:Hl) (D':Dk) (q:Hl)=>k≤l.length∧Own strE mv xs sg∧xs.length≤m∧DiskAt db D' q∧Wz C D'∧((k=0∧D'=D)∨(Gd (fun x=>x∈l) D D'∧∀x∈l.take k,findF D'.files x=none))) (fun k mv xs sg D' q=>[(0,.pointer (some ⟨sb,0,none⟩)),(8,.slice p l.length c),(9,.int .i64 (l.length:Int)),(10,.int .i64 (k:Int))]) (fun k mv xs sg D' q=>(sb,srO db nx mv)::(sg++q)) (fun k mv xs sg D' q=>l.length-k) 0 mv0 xs0 sg0 D s2 ⟨Nat.zero_le _,own0,hm0,hD,hw,.inl ⟨Z,Z⟩⟩ (.cons Z (.cons Z (.cons Z (.cons Z .nil)))) pulled ?_
 rintro k mv xs sg D' q ⟨hk,own,hml,hD',hw',hst⟩
 have h1c:=own.one
 refine sj [.p] Z<|uj Z (Pv.lss Z Z)<|nl<|wj<|cj Z (fun h11=>?_) (fun h11=>?_)
 · simp only [dt] at h11
   have hk1:k<l.length:=by omega
   obtain ⟨b,off,c',e,_⟩:=ha.block (by omega)
   cases e
   have hkm:l[k]! ∈ l:=by rw [getElem!_pos l k hk1];exact List.getElem_mem _
   have htk:l.take (k+1)=l.take k++[l[k]!]:=by rw [List.take_succ_eq_append_getElem hk1,getElem!_pos l k hk1]
   refine kj<|wj<|bj<|sj [.p,.r,.e,.e] Z<|uj Z (Pv.ixA (k) rfl rfl (by omega) (by omega))<|rj Z (Ev.as (kS l[k]!) (Ev.ldS (E:=strE) k ha.src Z Z Z hk1) Z)<|Rg.alloc Z Z Z Z (fun b6=>?_)
   refine Rg.store Z Z Z Z Z Z Z Z<|nl<|wj<|wj ?_
   refine Vc.draw [5] (sd [(0,.pure),(1,.pure),(2,.pure),(3,.read),(4,.read),(5,.eff),(6,.pure)]) mixed (by kernel_rfl)<|mj Z<|nj Z<|fj Z<|lj Z Z<|lj Z Z ?_
   refine Rg.callH Z Z Z (mz Z) (fun F' hF'=>remove_zc (F:=F') hC hD' hw' l[k]!) Z ?_
   rintro _ g ⟨e,D1,rfl,hD1,hw1,hO⟩
   have hne:e=7∨(e=0∨e=4):=hO.elim (fun h=>.inr h.1) (fun h=>.inl h.1)
   have hgd:(e=0∨e=4)→Gd (fun x=>x∈l) D D1∧∀x∈l.take (k+1),findF D1.files x=none:=fun h=>by
    obtain ⟨_,hG,hnone⟩:=hO.resolve_right (fun h'=>by omega)
    have hG':Gd (fun x=>x∈l) D' D1:=hG.mono fun x hx=>by rw [hx];exact hkm
    refine ⟨?_,fun x hx=>?_⟩
    · rcases hst with ⟨_,rfl⟩ | h2
      · exact hG'
      · exact h2.1.trans hG'
    · rw [htk,List.mem_append,List.mem_singleton] at hx
      by_cases hxe:x=l[k]!
      · rw [hxe];exact hnone
      · rw [hG.same x hxe]
        rcases hst with ⟨rfl,_⟩ | h2
        · rcases hx with hx | hx
          · simp at hx
          · exact absurd hx hxe
        · exact h2.2 x (hx.resolve_right hxe)
   have hbd:e=7→Dn (fun x=>x∈l) D D1:=fun h=>by
    obtain ⟨_,hB⟩:=hO.resolve_left (fun h'=>by omega)
    have hB':Dn (fun x=>x∈l) D' D1:=hB.any
    rcases hst with ⟨_,rfl⟩ | h2
    · exact hB'
    · exact h2.1.dn hB'
   have hdd:D.down=true→e=7∧Dn none1 D D1:=fun h=>by
    rcases hst with ⟨_,rfl⟩ | h2
    · rcases hO with h3 | h3
      · have:=h3.2.1.up0;rw [h] at this;cases this
      · exact h3
    · have:=h2.1.up0;rw [h] at this;cases this
   refine aj Z<|nl<|sj [.p,.p,.p,.p,.p,.p] Z<|mj Z<|uj Z (Pv.neq Z Z)<|mj Z<|Rg.split (t:=22) Z (fun h22=>?_) (fun h22=>?_)
   · simp only [bne_iff_ne,ne_eq] at h22
     refine mj Z<|uj Z (Pv.neq Z Z)<|qj Z Z<|nl<|cj Z (fun h25=>?_) (fun h25=>?_)
     · simp only [bne_iff_ne,ne_eq] at h25
       have he7:e=7:=by omega
       refine sj [.p,.p] Z<|mj Z<|aj Z<|nl ?_
       exact vr rfl (tz Z) (⟨e,D1,(sb,srO db nx mv)::sg,g,rfl,rfl,⟨mv,xs,sg,own,hml,rfl⟩,hD1,⟨hw1,.inr ⟨he7,hbd he7⟩⟩,hdd⟩) pulled
     · simp only [bne_eq_false_iff_eq] at h25
       refine kj<|tj [.p,.p,.p,.p,.r,.p,.e,.p,.p,.e] Z<|mj Z<|mj Z<|nj Z<|fj Z<|lj Z Z<|uj Z (Pv.mkF Z Z) ?_
       refine Rg.callH Z Z Z (mz Z) (fun F' hF'=>deleteFunc_spec (F:=F') own (by omega) (eqS l[k]!) 255 [.pointer (some ⟨b6,0,none⟩)] (fun F'' h x=>by have:Fat F'' b6 (cellsO [kS l[k]!] 9):=⟨h _ _ (hF' _ _ (.inl (by simp)))⟩;exact gone1_spec l[k]! x)) rfl ?_
       rintro v33 s33 ⟨ys,hyl,own33⟩
       have h33:=own33.one
       refine nj Z<|fj Z ?_
       refine Rg.store Z Z Z Z Z h33 Z Z<|nl<|dj<|tj [.p,.p] Z<|uj Z (Pv.asI (k+1) (Pv.add rfl rfl (by omega)) (by omega))<|mj Z<|nl ?_
       exact Vc.inv6 (k+1) v33 ys s33 D1 g ⟨⟨by omega,own33,by omega,hD1,hw1,.inr (hgd (.inr h25))⟩,by omega⟩ (.cons rfl (.cons rfl (.cons rfl (.cons rfl .nil)))) pulled
   · simp only [bne_eq_false_iff_eq] at h22
     iterate 2 (first | refine Rg.skipP rfl rfl rfl ?_ | refine Rg.skipR rfl rfl rfl ?_ | refine Rg.skipE rfl rfl rfl ?_)
     refine pj Z Z<|nl<|Vc.condF Z<|kj<|tj [.p,.p,.p,.p,.r,.p,.e,.p,.p,.e] Z<|mj Z<|mj Z<|nj Z<|fj Z<|lj Z Z<|uj Z (Pv.mkF Z Z) ?_
     refine Rg.callH Z Z Z (mz Z) (fun F' hF'=>deleteFunc_spec (F:=F') own (by omega) (eqS l[k]!) 255 [.pointer (some ⟨b6,0,none⟩)] (fun F'' h x=>by have:Fat F'' b6 (cellsO [kS l[k]!] 9):=⟨h _ _ (hF' _ _ (.inl (by simp)))⟩;exact gone1_spec l[k]! x)) rfl ?_
     rintro v33 s33 ⟨ys,hyl,own33⟩
     have h33:=own33.one
     refine nj Z<|fj Z ?_
     refine Rg.store Z Z Z Z Z h33 Z Z<|nl<|dj<|tj [.p,.p] Z<|uj Z (Pv.asI (k+1) (Pv.add rfl rfl (by omega)) (by omega))<|mj Z<|nl ?_
     exact Vc.inv6 (k+1) v33 ys s33 D1 g ⟨⟨by omega,own33,by omega,hD1,hw1,.inr (hgd (.inl h22))⟩,by omega⟩ (.cons rfl (.cons rfl (.cons rfl (.cons rfl .nil)))) pulled
 · simp only [df] at h11
   obtain rfl:k=l.length:=by omega
   rw [List.take_length] at hst
   have hfin:Out C (fun k=>k∈l) (fun D'=>∀x∈l,findF D'.files x=none) D 0 0 D':=by
    refine ⟨hw',.inl ⟨rfl,?_⟩⟩
    rcases hst with ⟨h0,rfl⟩ | h
    · have hl0:l=[]:=List.length_eq_zero_iff.1 h0
      exact ⟨.refl (hd.resolve_right fun h=>h hl0),fun x hx=>by rw [hl0] at hx;cases hx⟩
    · exact h
   refine Vc.exit Z<|sj [.p] Z<|aj Z<|nl ?_
   exact Vc.ret (Vc.retsH rfl (tz Z) (⟨0,D',(sb,srO db nx mv)::sg,q,rfl,rfl,⟨mv,xs,sg,own,hml,rfl⟩,hD',hfin,fun h=>by
    obtain ⟨_,hGG,_⟩:=hfin.good (by decide)
    have:=hGG.up0;rw [h] at this;cases this⟩) pulled)
theorem run_z (hC:C.Ok) (hS:SrAt sb db nx m s1) (hm:m<1000) (hn:nx+1<100) (hD:DiskAt db D s2) (hw:Wz C D) {vl:Value} {l:List Rc} (ha:Arg recE F vl l) (hI:InRs l) (hl:l.length<50) (hcap:16*l.length+6≤C.cap) (hk:runN (nx+1)∈C.S) (hf:findF D.files (runN (nx+1))=none) :
 Spec Tryz.prog 265 #[.pointer (some ⟨sb,0,none⟩),vl] F (s1++s2) fun v s'=>∃e D' h1 h2,v=.tuple #[kS (runN (nx+1)),.int .i64 e]∧s'=h1++h2∧SrAt sb db (nx+1) (m+1) h1∧DiskAt db D' h2∧Out C (· = runN (nx+1)) (fun D'=>findF D'.files (runN (nx+1))=some ⟨fileB (sortL l),fileB (sortL l)⟩) D 0 e D':=by
 obtain ⟨p,c,rfl⟩:=ha.shape
 obtain ⟨mv0,xs0,sg0,own0,hm0,rfl⟩:=hS
 rw [List.cons_append]
 have h0c:=own0.one
 refine Spec.of (n:=40) (vs:=[.pointer (some ⟨sb,0,none⟩),.slice p l.length c]) Tryz.func265 rfl Tryz.ntmps265 rfl ?_
 refine sj [.p,.p] Z<|aj Z<|aj Z<|nl<|sj [.p,.p,.p,.p,.r,.e,.p,.p,.p,.p,.p] Z<|mj Z<|mj Z<|nj Z<|fj Z<|lj Z Z ?_
 refine Rg.callA Z Z Z (mz Z) (sorted_spec (ha.mono fun b o h=>Or.inr h) (by omega) hI.nr 0) ?_
 rintro _ s14 ⟨u14,er,rfl,h14⟩
 obtain ⟨_,rfl,own14⟩:=h14.resolve_right (fun h=>by cases h.1)
 rw [sortedG_zero] at own14
 refine mj Z<|xj Z Z<|xj Z Z<|aj Z<|aj Z<|nl<|wj<|sj [.p,.p] Z<|mj Z<|uj Z (Pv.neq Z Z)<|nl<|cj Z (fun h18=>absurd h18 (by decide)) (fun h18=>?_)
 refine kj<|sj [.p,.e,.p] Z<|mj Z<|Rg.callH Z Z Z (mz Z) (fun F' hF'=>name_spec (F:=F') (s1:=(sb,srO db nx mv0)::sg0) ⟨mv0,xs0,sg0,own0,hm0,Z⟩ hn) Z ?_
 rintro _ _ ⟨rfl,mv,xs,sg,own,hml,rfl⟩
 have h1c:=own.one
 refine aj Z<|nl<|sj [.p,.p,.p,.p,.r,.p,.e,.e,.p,.p,.e] Z<|mj Z<|mj Z<|nj Z<|fj Z<|lj Z Z<|mj Z ?_
 refine Rg.bslice1 Z Z Z Z Z Z Z (fun b28=>?_)
 refine Rg.append Z Z Z Z Z own (ys:=[runN (nx+1)]) (Src.one rfl) (by simp<;>omega) (by simp [maxLen]<;>omega) rfl (fun v29 s29 own29=>?_)
 have h29:=own29.one
 refine nj Z<|fj Z ?_
 refine Rg.store Z Z Z Z Z h29 Z Z<|nl<|sj [.p,.p,.p,.p,.r,.p,.p,.e,.p,.p] Z<|mj Z<|mj Z<|nj Z<|fj Z<|lj Z Z<|mj Z<|mj Z ?_
 refine Rg.callH Z Z Z (mz Z) (fun F' hF'=>write_z (F:=F') hC hD hw hk hf (Arg.own own14 fun b o hb=>hF' b o (.inl (by simp [hb]))) (fun r hr=>hI r ((sortL_perm l).mem_iff.1 hr)) (by rw [sortL_length];exact hl) (by rw [sortL_length];exact hcap)) rfl ?_
 rintro _ g ⟨e,D1,rfl,hD1,hO⟩
 refine aj Z<|aj Z<|nl ?_
 exact vr rfl (.cons (.tmp rfl) (tz Z)) (⟨e,D1,(sb,srO db (nx+1) v29)::s29,g,rfl,rfl,⟨v29,_,s29,own29,by rw [ly,List.length_singleton];omega,rfl⟩,hD1,hO⟩) pulled
end
def digV (l:List UInt8):Nat:=l.foldl (fun a b=>a*10+(b.toNat-48)) 0
theorem digV_dig:∀i:Fin 100,digV (dig i.1)=i.1:=by decide
theorem dig_inj {i j:Nat} (hi:i<100) (hj:j<100) (h:dig i=dig j):i=j:=by
 have h1:=digV_dig ⟨i,hi⟩
 have h2:=digV_dig ⟨j,hj⟩
 simp only at h1 h2
 rw [←h1,←h2,h]
theorem runN_inj {i j:Nat} (hi:i<100) (hj:j<100) (h:runN i=runN j):i=j:=dig_inj hi hj (by simpa [runN] using h)
def RunT:Nm→Prop:=fun x=>∃k,1≤k∧k<100∧x=runN k
structure RunsAt (D:Dk) (fs:List (Nat×List Rc)):Prop where
 has:∀p∈fs,findF D.files (runN p.1)=some ⟨fileB p.2,fileB p.2⟩
 non:∀k,1≤k→k<100→k∉fs.map (·.1)→findF D.files (runN k)=none
 nodup:(fs.map (·.1)).Nodup
 lt:∀p∈fs,1≤p.1∧p.1<100
theorem RunsAt.snoc {D D':Dk} {fs:List (Nat×List Rc)} (h:RunsAt D fs) {k:Nat} {row:List Rc} (h1:1≤k) (h2:k<100) (hk:k∉fs.map (·.1)) (hG:Gd (· = runN k) D D') (hf:findF D'.files (runN k)=some ⟨fileB row,fileB row⟩):RunsAt D' (fs++[(k,row)]) where
 has:=fun p hp=>by
  rcases List.mem_append.1 hp with hp | hp
  · rw [hG.same _ fun e=>hk (by rw [←runN_inj (h.lt p hp).2 h2 e];exact List.mem_map.2 ⟨p,hp,rfl⟩)]
    exact h.has p hp
  · rw [List.mem_singleton] at hp;subst hp;exact hf
 non:=fun j hj1 hj2 hj=>by
  rw [List.map_append,List.mem_append,not_or] at hj
  rw [hG.same _ fun e=>hj.2 (by rw [runN_inj hj2 h2 e];simp)]
  exact h.non j hj1 hj2 hj.1
 nodup:=by
  rw [List.map_append,List.nodup_append]
  exact ⟨h.nodup,by simp,fun a ha b hb=>by
   simp at hb
   subst hb
   exact fun e=>hk (e▸ha)⟩
 lt:=fun p hp=>by
  rcases List.mem_append.1 hp with hp | hp
  · exact h.lt p hp
  · rw [List.mem_singleton] at hp;subst hp;exact ⟨h1,h2⟩
theorem RunsAt.same {D D':Dk} {fs:List (Nat×List Rc)} (h:RunsAt D fs) {T:Nm→Prop} (hG:Gd T D D') (hT:∀k,T (runN k)→False):RunsAt D' fs :=
 ⟨fun p hp=>by rw [hG.same _ (hT _)];exact h.has p hp,fun k h1 h2 hk=>by rw [hG.same _ (hT _)];exact h.non k h1 h2 hk,h.nodup,h.lt⟩
section
variable {F : Fm} {sb db rb nx m : Nat} {C : Cx} {D : Dk} {s1 s2 s6 s9 sr : Hl} {nm : Nm}
theorem cut1_z (hC:C.Ok) (hS:SrAt sb db nx m s1) (hm:m<1000) (hn:nx+1<100) (hD:DiskAt db D s2) (hw:Wz C D) {b3 b6 b9:Nat} {lv nv:Value} {l:List Rc} {ns:List Nm} (ol:Own recE lv l s9) (on:Own strE nv ns s6) (hns:ns.length<1000) (hI:InRs l) (hl:l.length<50) (hcap:16*l.length+6≤C.cap) (hk:runN (nx+1)∈C.S) (hf:findF D.files (runN (nx+1))=none) :
 Spec Tryz.prog 264 #[.pointer (some ⟨b3,0,none⟩),.pointer (some ⟨b9,0,none⟩),.pointer (some ⟨b6,0,none⟩)] F ((b3,cellsO [.pointer (some ⟨sb,0,none⟩)] 311)::(b9,cellsO [lv] 289)::(b6,cellsO [nv] 100)::(s1++(s2++(s9++s6))))
  fun v s'=>∃e D' nv' h1 h6 h2,v=.int .i64 e∧s'=(b3,cellsO [.pointer (some ⟨sb,0,none⟩)] 311)::(b9,cellsO [.slice none 0 0] 289)::(b6,cellsO [nv'] 100)::(h1++(h2++h6))∧SrAt sb db (nx+1) (m+1) h1∧Own strE nv' (ns++[runN (nx+1)]) h6∧DiskAt db D' h2∧Out C (· = runN (nx+1)) (fun D'=>findF D'.files (runN (nx+1))=some ⟨fileB (sortL l),fileB (sortL l)⟩) D 0 e D':=by
 have h0:=ol.one
 have h1:=on.one
 obtain ⟨pl,cl,rfl⟩:=ol.shape
 rw [←lx s1 s2]
 refine Spec.of (n:=17) (vs:=[.pointer (some ⟨b3,0,none⟩),.pointer (some ⟨b9,0,none⟩),.pointer (some ⟨b6,0,none⟩)]) Tryz.func264 rfl Tryz.ntmps264 rfl ?_
 refine sj [.p] Z<|aj Z<|nl<|sj [.r,.r,.e,.p,.p,.p,.p,.p] Z<|lj Z Z<|lj Z Z<|Rg.callH Z Z Z (mz Z) (fun F' hF'=>run_z (F:=F') hC hS hm hn hD hw (Arg.own ol fun b o hb=>hF' b o (.inl (by simp [hb]))) hI hl hcap hk hf) rfl ?_
 rintro _ _ ⟨e,D1,g1,g2,rfl,rfl,hS1,hD1,hO⟩
 rw [lx]
 refine mj Z<|xj Z Z<|xj Z Z<|aj Z<|aj Z<|nl<|sj [.r,.p,.e,.e,.e,.e] Z<|lj Z Z<|mj Z<|Rg.bslice1 Z Z Z Z Z Z Z (fun b14=>?_)
 refine Rg.append Z Z Z Z Z on (ys:=[runN (nx+1)]) (Src.one rfl) (by simp<;>omega) (by simp [maxLen]<;>omega) rfl (fun v15 s15 own15=>?_)
 have h15:=own15.one
 refine Rg.store Z Z Z Z Z h15 Z Z<|Rg.store Z Z Z Z Z Z Z Z<|nl<|sj [.p,.p] Z<|mj Z<|aj Z<|nl ?_
 exact vr (hl':=(b3,cellsO [.pointer (some ⟨sb,0,none⟩)] 311)::(b9,cellsO [.slice none 0 0] 289)::(b6,cellsO [v15] 100)::(g1++(g2++s15))) rfl (tz Z) ⟨e,D1,v15,g1,s15,g2,rfl,rfl,hS1,own15,hD1,hO⟩ pulled
structure CutS where
 fs:List (Nat×List Rc)
 cur:List Rc
 rest:List Rc
 D:Dk
 lv:Value
 nv:Value
 s1:Hl
 s9:Hl
 s6:Hl
 sr:Hl
 sd:Hl
 fresh:Bool
def recsF (fs:List (Nat×List Rc)):List Rc:=(fs.map (·.2)).flatten
theorem recsF_snoc (fs:List (Nat×List Rc)) (p:Nat×List Rc):recsF (fs++[p])=recsF fs++p.2:=by simp [recsF]
def namesF (fs:List (Nat×List Rc)):List Nm:=fs.map fun p=>runN p.1
structure CutI (C:Cx) (db sb rb:Nat) (nm:Nm) (l:List Rc) (B:Nat) (D:Dk) (R:CutS):Prop where
 all:(recsF R.fs++R.cur++R.rest).Perm l
 up:∀p∈R.fs,Rises p.2
 ids:R.fs.map (·.1)=List.range' 1 R.fs.length
 le:R.fs.length≤nc B l.length
 sorter:SrAt sb db R.fs.length R.fs.length R.s1
 ol:Own recE R.lv R.cur R.s9
 on:Own strE R.nv (namesF R.fs) R.s6
 rd:RdT rb db nm R.rest R.fresh R.sr
 dk:DiskAt db R.D R.sd
 wz:Wz C R.D
 gd:Gd RunT D R.D
 runs:RunsAt R.D R.fs
 fr:R.fresh=true→R.rest=l
theorem CutI.not_mem {l:List Rc} {B:Nat} {R:CutS} (h:CutI C db sb rb nm l B D R):R.fs.length+1∉R.fs.map (·.1):=by
 rw [h.ids,List.mem_range'_1];omega
theorem CutI.push {l:List Rc} {B:Nat} {R:CutS} (h:CutI C db sb rb nm l B D R) (hB:1≤B) (hc:R.fs.length*B<l.length) (hn:R.fs.length+1<100) {D':Dk} {nv':Value} {h1 h6 h2:Hl} (hS:SrAt sb db (R.fs.length+1) (R.fs.length+1) h1) (on:Own strE nv' (namesF R.fs++[runN (R.fs.length+1)]) h6) (hD:DiskAt db D' h2)
 (hw:Wz C D') (hG:Gd (· = runN (R.fs.length+1)) R.D D') (hf:findF D'.files (runN (R.fs.length+1))=some ⟨fileB (sortL R.cur),fileB (sortL R.cur)⟩) :
 CutI C db sb rb nm l B D ⟨R.fs++[(R.fs.length+1,sortL R.cur)],[],R.rest,D',.slice none 0 0,nv',h1,[],h6,R.sr,h2,R.fresh⟩ where
 all:=by
  simp only
  rw [recsF_snoc,List.append_nil]
  exact (((sortL_perm R.cur).append_left (recsF R.fs)).append_right R.rest).trans h.all
 up:=fun p hp=>by
  rcases List.mem_append.1 hp with hp | hp
  · exact h.up p hp
  · rw [List.mem_singleton] at hp;subst hp;exact sortL_rises _
 ids:=by
  simp only
  rw [List.map_append,h.ids,ly,List.length_singleton,List.range'_concat]
  simp [Nat.add_comm]
 le:=by
  have:=(nc_lt (len:=l.length) hB).2 hc
  simp only [ly,List.length_singleton]
  omega
 sorter:=by simp only [ly,List.length_singleton];exact hS
 ol:=.nil
 on:=by simp only [namesF,List.map_append] at on ⊢; exact on
 rd:=h.rd
 dk:=hD
 wz:=hw
 gd:=h.gd.trans (hG.mono fun x hx=>⟨_,by omega,hn,hx⟩)
 runs:=h.runs.snoc (by omega) hn h.not_mem hG hf
 fr:=h.fr
set_option maxHeartbeats 4000000 in
theorem cut_z (hC:C.Ok) (hS:SrAt sb db 0 0 s1) (hD:DiskAt db D s2) (hw:Wz C D) (hup:D.down=false) {l:List Rc} {fresh:Bool} (hR:RdT rb db nm l fresh sr) (hfr:∃f,findF D.files nm=some f∧f.now=fileB l) (hnm : ¬RunT nm) (hI:InRs l) (hl:l.length<50) (hcap:16*l.length+6≤C.cap)
 {B:Nat} (hB:1≤B) (hB2:B<1000) {K:Nat} (hK:nc B l.length≤K) (hK2:K<100) (hk:∀k,1≤k→k≤K→runN k∈C.S) (hno:∀k,1≤k→k<100→findF D.files (runN k)=none) :
 Spec Tryz.prog 248 #[.pointer (some ⟨sb,0,none⟩),.pointer (some ⟨rb,0,none⟩),.int .i64 (B:Int)] F (s1++(sr++s2)) fun v s'=>∃nv n e D' r m q1 q6 q2,v=.tuple #[nv,.int .i64 n,.int .i64 e]∧s'=q1++(q6++q2)∧SrAt sb db r m q1∧m≤100∧DiskAt db D' q2∧nv.oneCell'=true ∧
  Out C RunT (fun D'=>∃fs,(recsF fs).Perm l∧(∀p∈fs,Rises p.2)∧fs.map (·.1)=List.range' 1 r∧r≤nc B l.length∧m=r∧RunsAt D' fs∧Own strE nv (namesF fs) q6∧n=(l.length:Int)) D 0 e D':=by
 refine Spec.of (n:=54) (vs:=[.pointer (some ⟨sb,0,none⟩),.pointer (some ⟨rb,0,none⟩),.int .i64 (B:Int)]) Tryz.func248 rfl Tryz.ntmps248 rfl ?_
 refine sj [.e,.e,.p,.p] Z<|Rg.box Z Z Z Z Z (fun b3=>?_)
 refine Rg.alloc Z Z Z Z (fun b6=>?_)
 refine aj Z<|aj Z<|nl<|sj [.e] Z<|Rg.alloc Z Z Z Z (fun b9=>?_)
 refine nl<|sj [.p,.p] Z<|uj Z (Pv.mkF Z Z)<|aj Z<|nl<|bj ?_
 refine Vc.loop1 (fun (R:CutS)=>CutI C db sb rb nm l B D R∧R.fs.length*B+R.cur.length+R.rest.length=l.length∧R.cur.length<B) (fun R=>[(7,.int .i64 ((l.length-R.rest.length:Nat):Int)),(1,.pointer (some ⟨rb,0,none⟩)),(2,.int .i64 (B:Int)),(6,.pointer (some ⟨b6,0,none⟩)),(9,.pointer (some ⟨b9,0,none⟩)),(10,.func (.func 264) #[] #[.pointer (some ⟨b3,0,none⟩),.pointer (some ⟨b9,0,none⟩),.pointer (some ⟨b6,0,none⟩)])]) (fun R=>(b3,cellsO [.pointer (some ⟨sb,0,none⟩)] 311)::(b9,cellsO [R.lv] 289)::(b6,cellsO [R.nv] 100)::(R.s1++(R.s9++(R.s6++(R.sr++R.sd))))) (fun R=>R.rest.length) ⟨[],[],l,D,.slice none 0 0,.slice none 0 0,s1,[],[],sr,s2,fresh⟩ ⟨⟨.refl _,by simp,rfl,Nat.zero_le _,hS,.nil,.nil,hR,hD,hw,.refl hup,⟨by simp,fun k h1 h2 _=>hno k h1 h2,by simp,by simp⟩,fun _=>rfl⟩,by simp,by simp;omega⟩ (.cons (by rw [Nat.sub_self];rfl) (.cons rfl (.cons rfl (.cons rfl (.cons rfl (.cons rfl .nil)))))) pulled ?_
 rintro R ⟨hI0,hcnt,hcur⟩
 have hrl:R.rest.length<50:=by omega
 have hIr:InRs R.rest:=fun r hr=>hI r (hI0.all.mem_iff.1 (by simp [hr]))
 have hIc:InRs R.cur:=fun r hr=>hI r (hI0.all.mem_iff.1 (by simp [hr]))
 have hnf:R.fs.length≤K:=Nat.le_trans hI0.le hK
 have hol:=hI0.ol.one
 have hon:=hI0.on.one
 obtain ⟨N0,hN0⟩:∃N0,N0=R.rest.length:=⟨_,rfl⟩
 refine bj<|sj [.p,.e,.p,.p,.p,.p,.e,.e,.p,.p] Z<|mj Z<|Rg.callH Z Z Z (mz Z) (fun F' hF'=>next_z (F:=F') hC hI0.rd hrl hIr hI0.dk hI0.wz hI0.gd.up (fun h=>by obtain ⟨f,h1,h2⟩:=hfr;exact ⟨f,by rw [hI0.gd.same nm hnm];exact h1,by rw [hI0.fr h];exact h2⟩)) rfl ?_
 rintro _ _ ⟨x,is,e,D1,g1,g2,rfl,rfl,hD1,hO,hRt,hni,_⟩
 rw [lx]
 refine mj Z<|xj Z Z<|xj Z Z<|xj Z Z<|Rg.alloc Z Z Z Z (fun b11=>?_)
 refine Rg.storeA Z Z Z Z Z Z Z Z<|aj Z<|aj Z<|nl<|wj<|sj [.p,.p] Z<|mj Z<|uj Z (Pv.neq Z Z)<|nl<|cj Z (fun h23=>?_) (fun h23=>?_)
 · simp only [bne_iff_ne,ne_eq] at h23
   obtain ⟨he7,hB7⟩:=hO.bad h23
   refine sj [.p,.e,.p,.p] Z<|mj Z<|Rg.store Z Z Z Z Z Z Z Z<|aj Z<|aj Z<|nl ?_
   exact vr (hl':=R.s1++g2) rfl (.cons (.cell1 rfl rfl) (.cons (.tmp rfl) (tz Z))) ⟨.slice none 0 0,0,e,D1,R.fs.length,R.fs.length,R.s1,[],g2,rfl,rfl,hI0.sorter,by omega,hD1,rfl,hO.wz,.inr ⟨he7,hI0.gd.dn (hB7.any)⟩⟩ pulled
 · simp only [bne_eq_false_iff_eq] at h23
   subst h23
   obtain ⟨_,hG,hcase⟩:=hO.good (by decide)
   have hR2:=hRt rfl
   obtain ⟨R1,hR1⟩:∃R1:CutS,R1=⟨R.fs,R.cur,R.rest.tail,D1,R.lv,R.nv,R.s1,R.s9,R.s6,g1,g2,false⟩:=⟨_,rfl⟩
   refine kj<|wj<|sj [.p] Z<|mj Z<|nl<|Vc.cut1 (fun (R:CutS)=>CutI C db sb rb nm l B D R∧R.fresh=false∧R.fs.length*B+R.cur.length+R.rest.length=l.length∧R.cur.length≤B∧(is=false→R.rest=[]∧R.cur.length<B)∧(is=true→0<R.cur.length∧R.rest.length<N0)) (fun R=>[(12,.bool is),(7,.int .i64 ((l.length-R.rest.length:Nat):Int)),(1,.pointer (some ⟨rb,0,none⟩)),(2,.int .i64 (B:Int)),(6,.pointer (some ⟨b6,0,none⟩)),(9,.pointer (some ⟨b9,0,none⟩)),(10,.func (.func 264) #[] #[.pointer (some ⟨b3,0,none⟩),.pointer (some ⟨b9,0,none⟩),.pointer (some ⟨b6,0,none⟩)])]) (fun R=>(b3,cellsO [.pointer (some ⟨sb,0,none⟩)] 311)::(b9,cellsO [R.lv] 289)::(b6,cellsO [R.nv] 100)::(R.s1++(R.s9++(R.s6++(R.sr++R.sd))))) ?_ ?_
   · refine cj Z (fun h25=>?_) (fun h25=>?_)
     · obtain ⟨t,ht,_⟩:=hcase.resolve_left (fun h=>by rw [h.2] at h25;cases h25)
       rw [ht] at hcnt hrl hIr hR2
       rw [List.length_cons] at hcnt
       have hrl2:R.rest.length=t.length+1:=by rw [ht];rfl
       obtain ⟨pl,cl,hlv⟩:=hI0.ol.shape
       have hol':=hI0.ol
       refine sj [.r,.r,.e,.e,.e] Z<|lj Z Z<|rj Z (Ev.as (recV x) (Ev.ldA Z Z) Z)<|Rg.bslice1 Z Z Z Z Z Z Z (fun b28=>?_)
       refine Rg.append Z Z Z Z Z hol' (ys:=[x]) (Src.one rfl) (by simp<;>omega) (by simp [maxLen]<;>omega) rfl (fun v29 s29 own29=>?_)
       have h29:=own29.one
       refine Rg.store Z Z Z Z Z h29 Z Z<|nl<|tj [.p,.p,.p] Z<|mj Z<|uj Z (Pv.asI (l.length-t.length) (Pv.add rfl rfl (by omega)) (by omega))<|aj Z<|nl ?_
       exact Vc.inv1 (⟨R.fs,R.cur++[x],t,D1,v29,R.nv,R.s1,s29,R.s6,g1,g2,false⟩:CutS) ⟨⟨by simp only;rw [lx,lx,List.singleton_append,←ht,←lx];exact hI0.all,hI0.up,hI0.ids,hI0.le,hI0.sorter,own29,hI0.on,hR2,hD1,hO.wz,hI0.gd.trans hG.any,hI0.runs.same hG (fun _ h=>h),fun h=>(by cases h)⟩,rfl,by simp only [ly,List.length_singleton];omega,by simp only [ly,List.length_singleton];omega,fun h=>(by rw [h25] at h;cases h),fun _=>⟨by simp,by simp only;omega⟩⟩ (.cons rfl (.cons rfl (.cons rfl (.cons rfl (.cons rfl (.cons rfl (.cons rfl .nil))))))) pulled
     · obtain ⟨hr0,_⟩:=hcase.resolve_right (fun ⟨t,h⟩=>by rw [h.2] at h25;cases h25)
       refine kj ?_
       exact Vc.inv1 (⟨R.fs,R.cur,[],D1,R.lv,R.nv,R.s1,R.s9,R.s6,g1,g2,false⟩:CutS) ⟨⟨by have:=hI0.all;rw [hr0] at this;exact this,hI0.up,hI0.ids,hI0.le,hI0.sorter,hI0.ol,hI0.on,by rw [hr0] at hR2;exact hR2,hD1,hO.wz,hI0.gd.trans hG.any,hI0.runs.same hG (fun _ h=>h),fun h=>(by cases h)⟩,rfl,by simp only;rw [hr0] at hcnt;exact hcnt,by simp only;omega,fun _=>⟨rfl,hcur⟩,fun h=>(by rw [h25] at h;cases h)⟩ (.cons rfl (.cons (by show some (Value.int .i64 ((l.length-R.rest.length:Nat):Int))=some (Value.int .i64 ((l.length-([]:List Rc).length:Nat):Int));rw [hr0]) (.cons rfl (.cons rfl (.cons rfl (.cons rfl (.cons rfl .nil))))))) pulled
   · clear hI0 hcnt hcur hrl hIr hIc hnf hol hon hcase hR2 hR1 R1 hO hG hRt hni hD1
     rintro R ⟨hI0,hfs,hcnt,hcB,hisF,hisT⟩
     have hIc:InRs R.cur:=fun r hr=>hI r (hI0.all.mem_iff.1 (by simp [hr]))
     have hnf:R.fs.length≤K:=Nat.le_trans hI0.le hK
     have hol:=hI0.ol.one
     have hon:=hI0.on.one
     obtain ⟨pl,cl,hlv⟩:=hI0.ol.shape
     refine wj<|wj<|Vc.cut1 (fun (bb:Bool)=>bb=(decide (R.cur.length=B)||(!is&&decide (0<R.cur.length)))) (fun bb=>[(44,.bool bb),(12,.bool is),(7,.int .i64 ((l.length-R.rest.length:Nat):Int)),(1,.pointer (some ⟨rb,0,none⟩)),(2,.int .i64 (B:Int)),(6,.pointer (some ⟨b6,0,none⟩)),(9,.pointer (some ⟨b9,0,none⟩)),(10,.func (.func 264) #[] #[.pointer (some ⟨b3,0,none⟩),.pointer (some ⟨b9,0,none⟩),.pointer (some ⟨b6,0,none⟩)])]) (fun bb=>(b3,cellsO [.pointer (some ⟨sb,0,none⟩)] 311)::(b9,cellsO [R.lv] 289)::(b6,cellsO [R.nv] 100)::(R.s1++(R.s9++(R.s6++(R.sr++R.sd))))) ?_ ?_
     · refine tj [.r,.p,.p,.p,.p,.p,.p,.p,.r,.p,.p,.p,.p] Z<|rj Z (Ev.as (.slice pl R.cur.length cl) (Ev.ld Z Z) hlv)<|uj Z (Pv.lenS Z)<|mj Z<|uj Z (Pv.eql Z Z)<|mj Z<|Rg.split (t:=36) Z (fun h36=>?_) (fun h36=>?_)
       · iterate 7 (first | refine Rg.skipP rfl rfl rfl ?_ | refine Rg.skipR rfl rfl rfl ?_ | refine Rg.skipE rfl rfl rfl ?_)
         refine qj Z Z<|nl ?_
         exact Vc.inv1 true (by have h1:R.cur.length=B:=(by simp at h36;omega);simp [h1]) (.cons rfl (.cons rfl (.cons rfl (.cons rfl (.cons rfl (.cons rfl (.cons rfl (.cons rfl .nil)))))))) pulled
       · refine mj Z<|uj Z (Pv.not Z)<|mj Z<|Rg.split (t:=39) Z (fun h39=>?_) (fun h39=>?_)
         · refine rj Z (Ev.as (.slice pl R.cur.length cl) (Ev.ld Z Z) hlv)<|uj Z (Pv.lenS Z)<|uj Z (Pv.gtr Z Z)<|qj Z Z<|pj Z Z<|nl ?_
           exact Vc.inv1 (decide ((0:Int)<(R.cur.length:Int))) (by have h1 : ¬R.cur.length=B:=(by simp at h36;omega);simp at h39;simp [h1,h39]) (.cons rfl (.cons rfl (.cons rfl (.cons rfl (.cons rfl (.cons rfl (.cons rfl (.cons rfl .nil)))))))) pulled
         · iterate 3 (first | refine Rg.skipP rfl rfl rfl ?_ | refine Rg.skipR rfl rfl rfl ?_ | refine Rg.skipE rfl rfl rfl ?_)
           refine pj Z Z<|pj Z Z<|nl ?_
           exact Vc.inv1 false (by have h1 : ¬R.cur.length=B:=(by simp at h36;omega);simp at h39;simp [h1,h39]) (.cons rfl (.cons rfl (.cons rfl (.cons rfl (.cons rfl (.cons rfl (.cons rfl (.cons rfl .nil)))))))) pulled
     · rintro bb hbb
       refine Vc.cut1 (fun (R:CutS)=>CutI C db sb rb nm l B D R∧(is=true→R.fs.length*B+R.cur.length+R.rest.length=l.length∧R.cur.length<B)∧(is=false→R.rest=[]∧R.cur=[])∧(is=true→R.rest.length<N0)) (fun R=>[(12,.bool is),(7,.int .i64 ((l.length-R.rest.length:Nat):Int)),(1,.pointer (some ⟨rb,0,none⟩)),(2,.int .i64 (B:Int)),(6,.pointer (some ⟨b6,0,none⟩)),(9,.pointer (some ⟨b9,0,none⟩)),(10,.func (.func 264) #[] #[.pointer (some ⟨b3,0,none⟩),.pointer (some ⟨b9,0,none⟩),.pointer (some ⟨b6,0,none⟩)])]) (fun R=>(b3,cellsO [.pointer (some ⟨sb,0,none⟩)] 311)::(b9,cellsO [R.lv] 289)::(b6,cellsO [R.nv] 100)::(R.s1++(R.s9++(R.s6++(R.sr++R.sd))))) ?_ ?_
       · refine cj Z (fun h44=>?_) (fun h44=>?_)
         · subst h44
           have hout:R.fs.length*B<l.length∧R.fs.length+1≤K:=by
            have h1:R.fs.length*B<l.length:=by
             simp at hbb
             rcases hbb with h | ⟨_,h⟩<;>omega
            have h2:=(nc_lt (len:=l.length) hB).2 h1
            exact ⟨h1,by omega⟩
           refine sj [.p,.e,.p] Z<|mj Z<|Rg.callH Z Z Z (run_callV rfl rfl) (fun F' hF'=>cut1_z (F:=F') (m:=R.fs.length) (s1:=R.s1) (s2:=R.sd) (s9:=R.s9) (s6:=R.s6) hC hI0.sorter (by omega) (by omega) hI0.dk hI0.wz hI0.ol hI0.on (by simp [namesF];omega) hIc (by omega) (by omega) (hk _ (by omega) hout.2) (hI0.runs.non _ (by omega) (by omega) hI0.not_mem)) rfl ?_
           rintro _ _ ⟨e,D2,nv2,g1,g6,g2,rfl,rfl,hS2,on2,hD2,hO2⟩
           rw [List.append_nil,List.cons_append,List.cons_append,List.cons_append,lx,lx]
           refine aj Z<|nl<|sj [.p,.p] Z<|mj Z<|uj Z (Pv.neq Z Z)<|nl<|cj Z (fun h48=>?_) (fun h48=>?_)
           · simp only [bne_iff_ne,ne_eq] at h48
             obtain ⟨he7,hB7⟩:=hO2.bad h48
             refine sj [.p,.e,.p,.p] Z<|mj Z<|Rg.store Z Z Z Z Z Z Z Z<|aj Z<|aj Z<|nl ?_
             exact vr (hl':=g1++g2) rfl (.cons (.cell1 rfl rfl) (.cons (.tmp rfl) (tz Z))) ⟨.slice none 0 0,0,e,D2,_,_,g1,[],g2,rfl,rfl,hS2,by omega,hD2,rfl,hO2.wz,.inr ⟨he7,hI0.gd.dn (hB7.mono fun x hx=>⟨_,by omega,by omega,hx⟩)⟩⟩ pulled
           · simp only [bne_eq_false_iff_eq] at h48
             subst h48
             obtain ⟨_,hG2,hf2⟩:=hO2.good (by decide)
             have hI2:=hI0.push hB hout.1 (by omega) hS2 on2 hD2 hO2.wz hG2 hf2
             refine kj ?_
             exact Vc.inv1 _ ⟨hI2,fun h=>⟨by have h9:R.cur.length=B:=(by simp [h] at hbb;exact hbb);simp only [ly,List.length_singleton,List.length_nil,Nat.add_mul];omega,hB⟩,fun h=>⟨(hisF h).1,rfl⟩,fun h=>(hisT h).2⟩ (.cons rfl (.cons rfl (.cons rfl (.cons rfl (.cons rfl (.cons rfl (.cons rfl .nil))))))) pulled
         · subst h44
           simp at hbb
           refine kj ?_
           exact Vc.inv1 R ⟨hI0,fun h=>⟨hcnt,by omega⟩,fun h=>⟨(hisF h).1,(by have h5:=hbb.2 h;first | exact h5 | exact List.length_eq_zero_iff.1 (by omega))⟩,fun h=>(hisT h).2⟩ (.cons rfl (.cons rfl (.cons rfl (.cons rfl (.cons rfl (.cons rfl (.cons rfl .nil))))))) pulled
       · clear hI0 hcnt hcB hisF hisT hIc hnf hol hon hlv pl cl hbb
         rintro R ⟨hI0,hisT,hisF,hms⟩
         have hnf:R.fs.length≤K:=Nat.le_trans hI0.le hK
         have hol:=hI0.ol.one
         have hon:=hI0.on.one
         refine sj [.p,.p] Z<|mj Z<|uj Z (Pv.not Z)<|nl<|cj Z (fun h51=>?_) (fun h51=>?_)
         · simp only [Bool.not_eq_true'] at h51
           obtain ⟨hr0,hc0⟩:=hisF h51
           refine sj [.r,.p,.e,.p,.p] Z<|lj Z Z<|mj Z<|Rg.store Z Z Z Z Z hon Z Z<|aj Z<|aj Z<|nl ?_
           exact vr (hl':=R.s1++(R.s6++R.sd)) rfl (.cons (.cell1 rfl rfl) (.cons (.tmp rfl) (tz Z))) ⟨R.nv,_,0,R.D,_,_,R.s1,R.s6,R.sd,rfl,rfl,hI0.sorter,by omega,hI0.dk,hon,hI0.wz,.inl ⟨rfl,hI0.gd,R.fs,by have:=hI0.all;rw [hr0,hc0,List.append_nil,List.append_nil] at this;exact this,hI0.up,hI0.ids,hI0.le,rfl,hI0.runs,hI0.on,by rw [hr0];rfl⟩⟩ pulled
         · simp only [Bool.not_eq_false'] at h51
           obtain ⟨hcnt,hcur⟩:=hisT h51
           refine kj<|dj ?_
           exact Vc.inv1 R ⟨⟨hI0,hcnt,hcur⟩,by have:=hms h51;omega⟩ (.cons rfl (.cons rfl (.cons rfl (.cons rfl (.cons rfl (.cons rfl .nil)))))) pulled
end
def rcS (x:SH.Sr):Rc:=⟨x.key,x.val⟩
def recsI (its:List (SH.Sr×List Rc)):List Rc:=its.flatMap fun p=>rcS p.1::p.2
theorem ltS (a b:SH.Sr):SH.ltR a b=ltR (rcS a) (rcS b):=rfl
inductive RdsAt (db:Nat):List (SH.Sr×List Rc)→Hl→Prop
 | nil:RdsAt db [] []
 | cons {p:SH.Sr×List Rc} {its:List (SH.Sr×List Rc)} {s q:Hl} {rb:Nat} {nm:Nm} (hr:p.1.run=some ⟨rb,0,none⟩) (h:RdT rb db nm p.2 false s) (t:RdsAt db its q):RdsAt db (p::its) (s++q)
theorem RdsAt.pick {db:Nat} {p:SH.Sr×List Rc} {b:List (SH.Sr×List Rc)}:∀{a:List (SH.Sr×List Rc)} {q:Hl},RdsAt db (a++p::b) q→∃rb nm s q',p.1.run=some ⟨rb,0,none⟩∧RdT rb db nm p.2 false s∧RdsAt db (a++b) q'∧q.Perm (s++q')
 | [],q,h=>by
  cases h with
  | cons hr h t=>exact ⟨_,_,_,_,hr,h,t,.refl _⟩
 | x::a,q,h=>by
  cases h with
  | @cons _ _ s1 q1 _ _ hr h t =>
   obtain ⟨rb,nm,s,q',h1,h2,h3,h4⟩:=RdsAt.pick t
   refine ⟨rb,nm,s,s1++q',h1,h2,.cons hr h h3,(h4.append_left s1).trans ?_⟩
   rw [←lx,←lx]
   exact List.perm_append_comm.append_right q'
structure MgS where
 its:List (SH.Sr×List Rc)
 xs:List SH.Sr
 D:Dk
 sH:Hl
 sR:Hl
 sd:Hl
structure MgI (its:List (SH.Sr×List Rc)) (xs:List SH.Sr):Prop where
 ok:SH.HeapOK xs
 perm:xs.Perm (its.map (·.1))
 up:∀p∈its,Rises (rcS p.1::p.2)
theorem MgI.push {its:List (SH.Sr×List Rc)} {xs:List SH.Sr} (h:MgI its xs) {y:SH.Sr} {t:List Rc} (hy:Rises (rcS y::t)):MgI ((y,t)::its) (SH.pushL xs y) where
 ok:=SH.push_ok h.ok y
 perm:=(SH.push_perm xs y).trans (h.perm.cons y)
 up:=fun p hp=>by
  rcases List.mem_cons.1 hp with rfl | hp
  · exact hy
  · exact h.up p hp
theorem MgI.pop {its:List (SH.Sr×List Rc)} {xs:List SH.Sr} (h:MgI its xs) (h0:0<xs.length):∃a p b,its=a++p::b∧p.1=SH.hd xs∧MgI (a++b) (SH.popL xs)∧(∀y∈recsI its,ltR y (rcS (SH.hd xs))=false):=by
 have hx:SH.hd xs=xs[0]! := SH.hd_get h0
 have hp:=SH.pop_perm xs h0
 have hm:xs[0]! ∈ its.map (·.1):=h.perm.mem_iff.1 (by rw [getElem!_pos xs 0 h0];exact List.getElem_mem h0)
 obtain ⟨p,hpm,hpe⟩:=List.mem_map.1 hm
 obtain ⟨a,b,rfl⟩:=List.append_of_mem hpm
 refine ⟨a,p,b,rfl,by rw [hx,hpe],⟨SH.pop_ok h.ok,?_,fun q hq=>h.up q (by rcases List.mem_append.1 hq with hq | hq<;>simp [hq])⟩,fun y hy=>?_⟩
 · have h1:=hp.symm.trans h.perm
   rw [List.map_append,List.map_cons,hpe] at h1
   have h2:=h1.trans List.perm_middle
   rw [List.map_append]
   exact h2.cons_inv
 · obtain ⟨q,hq,hy⟩:=List.mem_flatMap.1 hy
   have hq1:q.1∈xs:=h.perm.mem_iff.2 (List.mem_map.2 ⟨q,hq,rfl⟩)
   have hle:=SH.heap_le h.ok hq1
   rw [ltS] at hle
   rw [hx]
   rcases List.mem_cons.1 hy with rfl | hy
   · exact hle
   · exact geR_trans ((List.pairwise_cons.1 (h.up q hq)).1 y hy) hle
theorem recsI_split (a b:List (SH.Sr×List Rc)) (p:SH.Sr×List Rc):(recsI (a++p::b)).Perm (rcS p.1::(p.2++recsI (a++b))):=by
 simp only [recsI,List.flatMap_append,List.flatMap_cons]
 refine (List.perm_append_comm.trans ?_)
 rw [lx,List.cons_append]
 refine List.Perm.cons _ (List.Perm.append_left _ List.perm_append_comm)
section
variable {F : Fm} {sb db rb hb nx m : Nat} {C : Cx} {D : Dk} {s1 s2 sH sr : Hl} {nm : Nm}
theorem merge1_z (hC:C.Ok) {xs:List SH.Sr} (hh:SH.HeapAt hb xs sH) (hxl:xs.length<1000) {rest:List Rc} {fresh:Bool} (hR:RdT rb db nm rest fresh sr) (hrl:rest.length<50) (hI:InRs rest) (hD:DiskAt db D s2) (hw:Wz C D) (hup:D.down=false) (hf:fresh=true→∃f,findF D.files nm=some f∧f.now=fileB rest) :
 Spec Tryz.prog 268 #[.pointer (some ⟨rb,0,none⟩),.pointer (some ⟨hb,0,none⟩)] F (sH++(sr++s2)) fun v s'=>∃e D' xs' h1 h2 h3,v=.int .i64 e∧s'=h1++(h2++h3)∧SH.HeapAt hb xs' h1∧DiskAt db D' h3∧(e=0→RdT rb db nm rest.tail false h2) ∧
  Out C none1 (fun _=>(rest=[]∧xs'=xs)∨(∃x t,rest=x::t∧xs'=SH.pushL xs ⟨x.key,x.val,some ⟨rb,0,none⟩⟩)) D 0 e D':=by
 refine Spec.of (n:=19) (vs:=[.pointer (some ⟨rb,0,none⟩),.pointer (some ⟨hb,0,none⟩)]) Tryz.func268 rfl Tryz.ntmps268 rfl ?_
 refine sj [.p] Z<|aj Z<|nl<|sj [.p,.e,.p,.p,.p,.p,.e,.e,.p,.p] Z<|mj Z<|Rg.callH Z Z Z (mz Z) (fun F' hF'=>next_z (F:=F') hC hR hrl hI hD hw hup hf) Z ?_
 rintro _ _ ⟨x,is,e,D1,g1,g2,rfl,rfl,hD1,hO,hRt,hni,_⟩
 rw [lx]
 refine mj Z<|xj Z Z<|xj Z Z<|xj Z Z<|Rg.alloc Z Z Z Z (fun b4=>?_)
 refine Rg.storeA Z Z Z Z Z Z Z Z<|aj Z<|aj Z<|nl<|wj<|sj [.p] Z<|mj Z<|nl<|cj Z (fun h13=>?_) (fun h13=>?_)
 · have he0:e=0:=Classical.byContradiction fun h=>by rw [hni h] at h13;cases h13
   subst he0
   obtain ⟨_,hG,hcase⟩:=hO.good (by decide)
   obtain ⟨t,ht,_⟩:=hcase.resolve_left (fun h=>by rw [h.2] at h13;cases h13)
   refine tj [.r,.p,.p,.e] Z<|rj Z (Ev.as (recV x) (Ev.ldA Z Z) Z)<|mj Z<|uj Z (Pv.build (c:=#[.int .u64 x.key,.int .u64 x.val,.pointer (some ⟨rb,0,none⟩)]) Z Z)<|Rg.callH Z Z Z (mz Z) (fun F' hF'=>SH.push_at F' hb xs ⟨x.key,x.val,some ⟨rb,0,none⟩⟩ sH hh (by omega)) rfl ?_
   rintro v17 g0 hh17
   refine nl<|sj [.p,.p] Z<|mj Z<|aj Z<|nl ?_
   exact vr (hl':=g0++(g1++g2)) rfl (tz Z) ⟨0,D1,_,g0,g1,g2,rfl,rfl,hh17,hD1,hRt,hO.wz,.inl ⟨rfl,hG,.inr ⟨x,t,ht,rfl⟩⟩⟩ pulled
 · refine kj<|sj [.p,.p] Z<|mj Z<|aj Z<|nl ?_
   exact vr (hl':=sH++(g1++g2)) rfl (tz Z) ⟨e,D1,xs,sH,g1,g2,rfl,rfl,hh,hD1,hRt,hO.wz,hO.2.imp (fun h=>⟨h.1,h.2.1,.inl ⟨(h.2.2.resolve_right (fun ⟨t,h2⟩=>by rw [h2.2] at h13;cases h13)).1,rfl⟩⟩) id⟩ pulled
theorem MgI.nil:MgI [] []:=⟨fun j h1 h2=>absurd h2 (by simp),List.Perm.refl _,fun p hp=>(by cases hp)⟩
theorem MgI.len {its:List (SH.Sr×List Rc)} {xs:List SH.Sr} (h:MgI its xs):xs.length≤(recsI its).length:=by
 rw [h.perm.length_eq,List.length_map]
 clear h
 induction its with
 | nil=>exact Nat.zero_le _
 | cons p its ih=>simp only [recsI,List.flatMap_cons,List.length_cons,ly] at ih ⊢; omega
theorem recsI_len_mem {its:List (SH.Sr×List Rc)} {p:SH.Sr×List Rc} (h:p∈its):p.2.length<(recsI its).length:=by
 obtain ⟨a,b,rfl⟩:=List.append_of_mem h
 have:=(recsI_split a b p).length_eq
 rw [List.length_cons,ly] at this
 omega
theorem rises_snoc {l:List Rc} {x:Rc} (h:Rises l) (hx:∀d∈l,ltR x d=false):Rises (l++[x]):=by
 rw [Rises,List.pairwise_append]
 exact ⟨h,by simp,fun a ha b hb=>by rw [List.mem_singleton] at hb;subst hb;exact hx a ha⟩
theorem recsF_take {fs:List (Nat×List Rc)} {k:Nat} (hk:k<fs.length):recsF (fs.take (k+1))=recsF (fs.take k)++fs[k]!.2:=by
 rw [List.take_succ_eq_append_getElem hk,recsF_snoc,getElem!_pos fs k hk]
theorem recsF_take_le (fs:List (Nat×List Rc)) (k:Nat):(recsF (fs.take k)).length≤(recsF fs).length:=by
 conv=>rhs;rw [←List.take_append_drop k fs]
 rw [show recsF (fs.take k++fs.drop k)=recsF (fs.take k)++recsF (fs.drop k) by simp only [recsF,List.map_append,List.flatten_append],ly]
 omega
set_option maxHeartbeats 8000000 in
theorem merge_z (hC:C.Ok) (hS:SrAt sb db nx m s1) (hD:DiskAt db D s2) (hw:Wz C D) (hup:D.down=false) {vn:Value} {fs:List (Nat×List Rc)} (ha:Arg strE F vn (namesF fs)) (hfl:fs.length<1000) (hfs:∀p∈fs,findF D.files (runN p.1)=some ⟨fileB p.2,fileB p.2⟩) (hri:∀p∈fs,Rises p.2)
 (hl:(recsF fs).length<50) (hI:InRs (recsF fs)) (hcap:16*(recsF fs).length+6≤C.cap) {k:Nat} (hk:runN k∈C.S) (hno:findF D.files (runN k)=none) :
 Spec Tryz.prog 251 #[.pointer (some ⟨sb,0,none⟩),vn,kS (runN k)] F (s1++s2) fun v s'=>∃e D' h2,v=.int .i64 e∧s'=s1++h2∧DiskAt db D' h2∧Out C (· = runN k) (fun D'=>findF D'.files (runN k)=some ⟨fileB (sortL (recsF fs)),fileB (sortL (recsF fs))⟩) D 0 e D':=by
 obtain ⟨p,c,rfl⟩:=ha.shape
 have hnl:(namesF fs).length=fs.length:=by simp [namesF]
 rw [hnl] at ha ⊢
 obtain ⟨n,hn⟩:∃n,n=fs.length:=⟨_,rfl⟩
 rw [←hn] at ha hfl ⊢
 obtain ⟨mv,xs0,sg,own0,hm0,rfl⟩:=hS
 rw [List.cons_append]
 refine Spec.of (n:=132) (vs:=[.pointer (some ⟨sb,0,none⟩),.slice p n c,kS (runN k)]) Tryz.func251 rfl Tryz.ntmps251 rfl ?_
 refine sj [.p] Z<|aj Z<|nl<|sj [.e] Z<|Rg.alloc Z Z Z Z (fun b7=>?_)
 refine nl<|sj [.p,.p] Z<|uj Z (Pv.mkF Z Z)<|aj Z<|nl<|wj<|sj [.p,.p,.p] Z<|mj Z<|uj Z (Pv.lenS Z)<|mj Z<|nl<|bj ?_
 refine Vc.loop6 (fun (i:Nat) (its:List (SH.Sr×List Rc)) (xs:List SH.Sr) (D':Dk) (sH:Hl) (q:Hl×Hl)=>i≤n∧MgI its xs∧(recsI its).Perm (recsF (fs.take i))∧SH.HeapAt b7 xs sH∧RdsAt db its q.1∧DiskAt db D' q.2∧Wz C D'∧Gd none1 D D') (fun i its xs D' sH q=>[(22,.slice p n c),(23,.int .i64 (n:Int)),(24,.int .i64 (i:Int)),(0,.pointer (some ⟨sb,0,none⟩)),(2,kS (runN k)),(7,.pointer (some ⟨b7,0,none⟩)),(8,.func (.func 268) #[] #[.pointer (some ⟨b7,0,none⟩)])]) (fun i its xs D' sH q=>(sb,srO db nx mv)::(sg++(sH++(q.1++q.2)))) (fun i its xs D' sH q=>n-i) 0 [] [] D [(b7,cellsO [.slice none 0 0] 371)] ([],s2) ⟨Nat.zero_le _,.nil,.refl _,SH.heap_nil b7,.nil,hD,hw,.refl hup⟩ (.cons Z (.cons Z (.cons Z (.cons Z (.cons Z (.cons Z (.cons Z .nil))))))) pulled ?_
 rintro i its xs D' sH ⟨q1,q2⟩ ⟨hi,hM,hP,hH,hRs,hD',hw',hG⟩
 simp only at hRs hD' ⊢
 have hlt:=recsF_take_le fs i
 have hpl:=hP.length_eq
 have hxl:=hM.len
 refine sj [.p] Z<|uj Z (Pv.lss Z Z)<|nl<|wj<|cj Z (fun h25=>?_) (fun h25=>?_)
 · simp only [dt] at h25
   have hi1:i<fs.length:=by omega
   obtain ⟨b,off,c',e,_⟩:=ha.block (by omega)
   simp only [Value.slice.injEq] at e
   obtain ⟨rfl,_,rfl⟩:=e
   have hfm:fs[i]! ∈ fs:=by rw [getElem!_pos fs i hi1];exact List.getElem_mem _
   have htk:=recsF_take hi1
   have hlt2:=recsF_take_le fs (i+1)
   have hlt3:=congrArg List.length htk
   rw [ly] at hlt3
   have hIi:InRs fs[i]!.2:=fun r hr=>hI r (List.mem_flatten.2 ⟨_,List.mem_map.2 ⟨_,hfm,rfl⟩,hr⟩)
   have hname:(namesF fs)[i]! = runN fs[i]!.1:=by rw [getElem!_pos _ i (by rw [hnl];exact hi1),getElem!_pos fs i hi1];simp [namesF]
   refine kj<|wj<|bj<|sj [.p,.r,.p] Z<|uj Z (Pv.ixA (i) rfl rfl (by omega) (by omega))<|rj Z (Ev.as (kS (runN fs[i]!.1)) (Ev.ldS (E:=strE) i ha.src rfl rfl rfl (by omega)) (congrArg kS hname))<|aj Z<|nl<|sj [.p,.p,.p,.r,.p,.e,.p,.p,.p,.p,.p] Z<|mj Z<|nj Z<|fj Z<|lj Z Z<|mj Z ?_
   refine Rg.callH Z Z Z (mz Z) (fun F' hF'=>newReader_z (F:=F') hC hD' hw' (by rw [hG.same _ (fun h=>h.elim)];exact hfs _ hfm) rfl) rfl ?_
   rintro _ _ ⟨pr,e,D1,g1,g2,rfl,rfl,hD1,hO1,hR1⟩
   rw [lx]
   refine mj Z<|xj Z Z<|xj Z Z<|aj Z<|aj Z<|nl<|wj<|sj [.p,.p] Z<|mj Z<|uj Z (Pv.eql Z Z)<|nl<|Vc.cut6 (fun (e2:Int) (D2:Dk) (xs2:List SH.Sr) (h1:Hl) (h2:Hl) (h3:Hl)=>Wz C D2∧DiskAt db D2 h3∧SH.HeapAt b7 xs2 h1∧((e2=7∧Dn none1 D D2)∨(e2=0∧Gd none1 D D2∧∃its2,MgI its2 xs2∧(recsI its2).Perm (recsF (fs.take (i+1)))∧RdsAt db its2 h2))) (fun e2 D2 xs2 h1 h2 h3=>[(12,.int .i64 e2),(22,.slice (some ⟨b,off,none⟩) n c),(23,.int .i64 (n:Int)),(24,.int .i64 (i:Int)),(0,.pointer (some ⟨sb,0,none⟩)),(2,kS (runN k)),(7,.pointer (some ⟨b7,0,none⟩)),(8,.func (.func 268) #[] #[.pointer (some ⟨b7,0,none⟩)])]) (fun e2 D2 xs2 h1 h2 h3=>(sb,srO db nx mv)::(sg++(h1++(h2++h3)))) ?_ ?_
   · refine cj Z (fun h38=>?_) (fun h38=>?_)
     · simp only [beq_iff_eq] at h38
       subst h38
       obtain ⟨_,hG1,_⟩:=hO1.good (by decide)
       obtain ⟨rb,rfl,hR⟩:=hR1 rfl
       refine tj [.p,.p,.e,.p] Z<|mj Z<|mj Z<|Rg.callH Z Z Z (run_callV rfl rfl) (fun F' hF'=>merge1_z (F:=F') (hb:=b7) hC hH (by omega) hR (by omega) hIi hD1 hO1.wz hG1.up (fun _=>⟨_,by rw [hG1.same _ (fun h=>h.elim),hG.same _ (fun h=>h.elim)];exact hfs _ hfm,rfl⟩)) rfl ?_
       rintro _ _ ⟨e2,D2,xs2,f1,f2,f3,rfl,rfl,hH2,hD2,hR2,hO2⟩
       rw [lx,lx]
       refine aj Z<|nl ?_
       rcases hO2.2 with ⟨rfl,hG2,hcs⟩ | ⟨he7,hB7⟩
       · rcases hcs with ⟨hr0,rfl⟩ | ⟨x,t,hr0,rfl⟩
         · exact Vc.inv6 0 D2 xs2 f1 q1 f3 ⟨hO2.wz,hD2,hH2,.inr ⟨rfl,(hG.trans hG1).trans hG2,its,hM,by rw [htk,hr0,List.append_nil];exact hP,hRs⟩⟩ (.cons rfl (.cons rfl (.cons rfl (.cons rfl (.cons rfl (.cons rfl (.cons rfl (.cons rfl .nil)))))))) pulled
         · exact Vc.inv6 0 D2 _ f1 (f2++q1) f3 ⟨hO2.wz,hD2,hH2,.inr ⟨rfl,(hG.trans hG1).trans hG2,(⟨x.key,x.val,some ⟨rb,0,none⟩⟩,t)::its,hM.push (by have:=hri _ hfm;rw [hr0] at this;exact this),by rw [htk,hr0];exact List.perm_append_comm.trans (hP.append_right (x::t)),.cons rfl (by have:=hR2 rfl;rw [hr0] at this;exact this) hRs⟩⟩ (.cons rfl (.cons rfl (.cons rfl (.cons rfl (.cons rfl (.cons rfl (.cons rfl (.cons rfl .nil)))))))) (by rw [lx f2 q1 f3];exact pulled)
       · exact Vc.inv6 e2 D2 xs2 f1 q1 f3 ⟨hO2.wz,hD2,hH2,.inl ⟨he7,(hG.trans hG1).dn hB7⟩⟩ (.cons rfl (.cons rfl (.cons rfl (.cons rfl (.cons rfl (.cons rfl (.cons rfl (.cons rfl .nil)))))))) pulled
     · simp only [beq_eq_false_iff_ne,ne_eq] at h38
       obtain ⟨he7,hB7⟩:=hO1.bad h38
       refine kj ?_
       exact Vc.inv6 e D1 xs sH q1 g2 ⟨hO1.wz,hD1,hH,.inl ⟨he7,hG.dn hB7⟩⟩ (.cons rfl (.cons rfl (.cons rfl (.cons rfl (.cons rfl (.cons rfl (.cons rfl (.cons rfl .nil)))))))) pulled
   · clear hM hP hH hRs hD' hw' hG hlt hpl hxl hO1 hR1 hD1 its xs sH q1 q2
     rintro e2 D2 xs sH q1 q2 ⟨hw2,hD2,hH,hcase⟩
     refine sj [.p,.p] Z<|mj Z<|uj Z (Pv.neq Z Z)<|nl<|cj Z (fun h43=>?_) (fun h43=>?_)
     · simp only [bne_iff_ne,ne_eq] at h43
       obtain ⟨he7,hB7⟩:=hcase.resolve_right (fun h=>h43 h.1)
       refine sj [.p,.p] Z<|mj Z<|aj Z<|nl ?_
       exact vr (hl':=(sb,srO db nx mv)::(sg++q2)) rfl (tz Z) ⟨e2,D2,q2,rfl,rfl,hD2,hw2,.inr ⟨he7,hB7.any⟩⟩ pulled
     · simp only [bne_eq_false_iff_eq] at h43
       obtain ⟨_,hG2,its,hM,hP,hRs⟩:=hcase.resolve_left (fun h=>by rw [h43] at h;cases h.1)
       refine kj<|dj<|tj [.p,.p] Z<|uj Z (Pv.asI (i+1) (Pv.add rfl rfl (by omega)) (by omega))<|mj Z<|nl ?_
       exact Vc.inv6 (i+1) its xs D2 sH (q1,q2) ⟨⟨by omega,hM,hP,hH,hRs,hD2,hw2,hG2⟩,by omega⟩ (.cons rfl (.cons rfl (.cons rfl (.cons rfl (.cons rfl (.cons rfl (.cons rfl .nil))))))) pulled
 · simp only [df] at h25
   obtain rfl:i=n:=by omega
   rw [hn,List.take_length] at hP
   refine Vc.exit Z<|sj [.p,.p,.p,.r,.p,.e,.p,.p,.p,.p,.p] Z<|mj Z<|nj Z<|fj Z<|lj Z Z<|mj Z ?_
   refine Rg.callH Z Z Z (mz Z) (fun F' hF'=>newWriter_z (F:=F') hC hD' hw' hk (by rw [hG.same _ (fun h=>h.elim)];exact hno)) rfl ?_
   rintro _ _ ⟨pw,e,D1,g1,g2,rfl,rfl,hD1,hO1,hW1⟩
   rw [lx]
   refine mj Z<|xj Z Z<|xj Z Z<|aj Z<|aj Z<|nl<|wj<|sj [.p,.p] Z<|mj Z<|uj Z (Pv.neq Z Z)<|nl<|cj Z (fun h56=>?_) (fun h56=>?_)
   · simp only [bne_iff_ne,ne_eq] at h56
     obtain ⟨he7,hB7⟩:=hO1.bad h56
     refine sj [.p,.p] Z<|mj Z<|aj Z<|nl ?_
     exact vr (hl':=(sb,srO db nx mv)::(sg++g2)) rfl (tz Z) ⟨e,D1,g2,rfl,rfl,hD1,hO1.wz,.inr ⟨he7,(hG.any).dn hB7⟩⟩ pulled
   · simp only [bne_eq_false_iff_eq] at h56
     subst h56
     obtain ⟨_,hG1,hf1⟩:=hO1.good (by decide)
     obtain ⟨wb,rfl,hW⟩:=hW1 rfl
     have hG1:=(hG.any (T:=(· = runN k))).trans hG1
     refine kj<|sj [.p] Z<|aj Z<|nl<|wj<|sj [.e,.p,.p,.p,.e,.e,.p] Z<|Rg.callH Z Z Z (mz Z) (fun F' hF'=>SH.pop_hd F' b7 xs sH hH (by omega)) rfl ?_
     rintro _ sH1 ⟨rfl,hH1⟩
     refine mj Z<|xj Z Z<|xj Z Z<|Rg.alloc Z Z Z Z (fun b16=>?_)
     refine Rg.storeA (us:=SH.headC (SH.hd xs)) Z Z Z Z Z Z Z Z<|aj Z<|nl<|bj ?_
     refine Vc.loop7 (fun (M:MgS) (b16:Nat) (lp:Option Addr) (ll done:List Rc) (sL sW:Hl)=>MgI M.its M.xs∧(done++ll++recsI M.its).Perm (recsF fs)∧Rises (done++ll)∧(∀d∈done++ll,∀y∈recsI M.its,ltR y d=false)∧((lp=none∧ll=[]∧sL=[])∨∃bl x0,lp=some ⟨bl,0,none⟩∧ll=[rcS x0]∧sL=[(bl,cellsO (SH.headC x0) 374)])∧SH.HeapAt b7 (SH.popL M.xs) M.sH∧RdsAt db M.its M.sR∧DiskAt db M.D M.sd∧Wz C M.D∧Gd (· = runN k) D M.D∧findF M.D.files (runN k)=some ⟨[],[]⟩∧WtAt wb db (runN k) done sW) (fun M b16 lp ll done sL sW=>[(15,.pointer lp),(16,.pointer (some ⟨b16,0,none⟩)),(17,.bool (decide (0<M.xs.length))),(2,kS (runN k)),(7,.pointer (some ⟨b7,0,none⟩)),(8,.func (.func 268) #[] #[.pointer (some ⟨b7,0,none⟩)]),(0,.pointer (some ⟨sb,0,none⟩)),(13,.pointer (some ⟨wb,0,none⟩))]) (fun M b16 lp ll done sL sW=>(sb,srO db nx mv)::(b16,cellsO (SH.headC (SH.hd M.xs)) 374)::(sg++(M.sH++(M.sR++(sL++(sW++M.sd)))))) (fun M b16 lp ll done sL sW=>(recsI M.its).length) ⟨its,xs,D1,sH1,q1,g2⟩ b16 none [] [] [] g1 ⟨hM,hP,.nil,fun d hd=>(by cases hd),.inl ⟨rfl,rfl,rfl⟩,hH1,hRs,hD1,hO1.wz,hG1,hf1,hW⟩ (.cons rfl (.cons rfl (.cons rfl (.cons rfl (.cons rfl (.cons rfl (.cons rfl (.cons rfl .nil)))))))) pulled ?_
     clear hM hP hH hRs hD' hw' hG hlt hpl hxl hO1 hW1 hW hD1 hH1 hG1 hf1
     rintro M bo lp ll done sL sW ⟨hM,hP,hRi,hgt,hlast,hH,hRs,hD',hw',hG,hfo,hW⟩
     have hpl:=hP.length_eq
     rw [ly,ly] at hpl
     have hxl:=hM.len
     refine wj<|sj [.p] Z<|mj Z<|nl<|cj Z (fun h62=>?_) (fun h62=>?_)
     · simp only [dt] at h62
       obtain ⟨ia,pp,ib,hits,hp1,hM1,hmin⟩:=hM.pop h62
       rw [hits] at hRs
       obtain ⟨rb,nmr,sr0,sR1,hrun,hRt,hRs1,hRp⟩:=hRs.pick
       rw [hp1] at hrun
       have hppm:pp∈M.its:=by rw [hits];simp
       have hpl2:=recsI_len_mem hppm
       have hsp:=recsI_split ia ib pp
       rw [←hits,hp1] at hsp
       have hspl:=hsp.length_eq
       rw [List.length_cons,ly] at hspl
       have hIp:InRs pp.2:=fun r hr=>hI r (hP.mem_iff.1 (List.mem_append_right _ (hsp.mem_iff.2 (by simp [hr]))))
       have hppr:=hM.up pp hppm
       rw [hp1] at hppr
       have hIx:InR (rcS (SH.hd M.xs)):=hI _ (hP.mem_iff.1 (List.mem_append_right _ (hsp.mem_iff.2 (by simp))))
       have hpop:=SH.popL_length M.xs
       refine Vc.perm (((((hRp.append_right (sL++(sW++M.sd))).append_left M.sH).append_left sg).cons _).cons _) ?_
       generalize hx:SH.hd M.xs=x at hrun hp1 hmin hsp hppr hIx ⊢
       rw [lx]
       refine kj<|wj<|bj<|wj<|sj [.p,.p,.r,.e,.p] Z<|mj Z<|fj Z<|rj Z (Ev.as (.pointer (some ⟨rb,0,none⟩)) (Ev.ld Z Z) (congrArg Value.pointer hrun)) ?_
       refine Rg.callH Z Z Z (run_callV rfl rfl) (fun F' hF'=>merge1_z (F:=F') (hb:=b7) (sr:=sr0) hC hH (by omega) hRt (by omega) hIp hD' hw' hG.up (fun h=>by cases h)) rfl ?_
       rintro _ _ ⟨e2,D2,xs2,f1,f2,f3,rfl,rfl,hH2,hD2,hR2,hO2⟩
       rw [lx,lx]
       refine aj Z<|nl<|sj [.p,.p] Z<|mj Z<|uj Z (Pv.neq Z Z)<|nl<|cj Z (fun h72=>?_) (fun h72=>?_)
       · simp only [bne_iff_ne,ne_eq] at h72
         obtain ⟨he7,hB7⟩:=hO2.bad h72
         refine sj [.p,.p] Z<|mj Z<|aj Z<|nl ?_
         exact vr (hl':=(sb,srO db nx mv)::(sg++f3)) rfl (tz Z) ⟨e2,D2,f3,rfl,rfl,hD2,hO2.wz,.inr ⟨he7,hG.dn hB7.any⟩⟩ pulled
       · simp only [bne_eq_false_iff_eq] at h72
         subst h72
         obtain ⟨_,hG2,hcs⟩:=hO2.good (by decide)
         have hR3:=hR2 rfl
         refine kj<|wj<|wj<|Vc.cut3 (fun (bb:Bool) (its2:List (SH.Sr×List Rc)) (sR2:Hl)=>bb=false∧MgI its2 xs2∧(recsI M.its).Perm (rcS x::recsI its2)∧RdsAt db its2 sR2) (fun bb its2 sR2=>[(92,.bool bb),(15,.pointer lp),(16,.pointer (some ⟨bo,0,none⟩)),(2,kS (runN k)),(7,.pointer (some ⟨b7,0,none⟩)),(8,.func (.func 268) #[] #[.pointer (some ⟨b7,0,none⟩)]),(0,.pointer (some ⟨sb,0,none⟩)),(13,.pointer (some ⟨wb,0,none⟩))]) (fun bb its2 sR2=>(sb,srO db nx mv)::(bo,cellsO (SH.headC x) 374)::(sg++(f1++(sR2++(sL++(sW++f3)))))) ?_ ?_
         · refine Vc.draw [] (sd [(0,.pure),(1,.pure),(2,.pure),(3,.pure),(4,.pure),(5,.pure),(6,.read),(7,.pure),(8,.pure),(9,.pure),(10,.pure),(11,.pure),(12,.pure),(13,.read),(14,.pure),(15,.pure),(16,.read),(17,.pure),(18,.pure)]) mixed (by kernel_rfl)<|mj Z<|uj Z (Pv.neqNil Z Z)<|mj Z<|Rg.split (t:=76) Z (fun h76=>?_) (fun h76=>?_)
           · refine mj Z<|nj Z<|fj Z<|lj Z Z<|uj Z (Pv.neq Z Z)<|qj Z Z<|mj Z ?_
             refine Rg.split (t:=83) rfl (fun h83=>absurd h83 (by decide)) (fun h83=>?_)
             iterate 8 (first | refine Rg.skipP rfl rfl rfl ?_ | refine Rg.skipR rfl rfl rfl ?_ | refine Rg.skipE rfl rfl rfl ?_)
             refine pj Z Z<|nl ?_
             exact hcs.elim (fun ⟨hr0,e⟩=>by subst e;exact Vc.inv3 false (ia++ib) sR1 ⟨rfl,hM1,by rw [hr0] at hsp;exact hsp,hRs1⟩ (.cons rfl (.cons rfl (.cons rfl (.cons rfl (.cons rfl (.cons rfl (.cons rfl (.cons rfl .nil)))))))) pulled) (fun ⟨y,t,hr0,e⟩=>by subst e;exact Vc.inv3 false ((⟨y.key,y.val,some ⟨rb,0,none⟩⟩,t)::(ia++ib)) (f2++sR1) ⟨rfl,hM1.push (by rw [hr0] at hppr;exact (List.pairwise_cons.1 hppr).2),by rw [hr0] at hsp;exact hsp,.cons rfl (by rw [hr0] at hR3;exact hR3) hRs1⟩ (.cons rfl (.cons rfl (.cons rfl (.cons rfl (.cons rfl (.cons rfl (.cons rfl (.cons rfl .nil)))))))) (by rw [lx f2 sR1];exact pulled))
           · iterate 5 (first | refine Rg.skipP rfl rfl rfl ?_ | refine Rg.skipR rfl rfl rfl ?_ | refine Rg.skipE rfl rfl rfl ?_)
             refine pj Z Z<|mj Z ?_
             iterate 8 (first | refine Rg.skipP rfl rfl rfl ?_ | refine Rg.skipR rfl rfl rfl ?_ | refine Rg.skipE rfl rfl rfl ?_)
             refine pj Z Z<|nl ?_
             exact hcs.elim (fun ⟨hr0,e⟩=>by subst e;exact Vc.inv3 false (ia++ib) sR1 ⟨rfl,hM1,by rw [hr0] at hsp;exact hsp,hRs1⟩ (.cons rfl (.cons rfl (.cons rfl (.cons rfl (.cons rfl (.cons rfl (.cons rfl (.cons rfl .nil)))))))) pulled) (fun ⟨y,t,hr0,e⟩=>by subst e;exact Vc.inv3 false ((⟨y.key,y.val,some ⟨rb,0,none⟩⟩,t)::(ia++ib)) (f2++sR1) ⟨rfl,hM1.push (by rw [hr0] at hppr;exact (List.pairwise_cons.1 hppr).2),by rw [hr0] at hsp;exact hsp,.cons rfl (by rw [hr0] at hR3;exact hR3) hRs1⟩ (.cons rfl (.cons rfl (.cons rfl (.cons rfl (.cons rfl (.cons rfl (.cons rfl (.cons rfl .nil)))))))) (by rw [lx f2 sR1];exact pulled))
         · rintro bb its2 sR2 ⟨rfl,hM2,hrec2,hRs2⟩
           have hrl2:=hrec2.length_eq
           rw [List.length_cons] at hrl2
           have hxl2:=hM2.len
           refine Vc.condF Z<|kj<|wj<|sj [.p,.p] Z<|mj Z<|uj Z (Pv.neqNil Z Z)<|nl<|Vc.cut1 (fun (sW2:Hl)=>WtAt wb db (runN k) (done++ll) sW2) (fun sW2=>[(16,.pointer (some ⟨bo,0,none⟩)),(2,kS (runN k)),(7,.pointer (some ⟨b7,0,none⟩)),(8,.func (.func 268) #[] #[.pointer (some ⟨b7,0,none⟩)]),(0,.pointer (some ⟨sb,0,none⟩)),(13,.pointer (some ⟨wb,0,none⟩))]) (fun sW2=>(sb,srO db nx mv)::(bo,cellsO (SH.headC x) 374)::(sg++(f1++(sR2++(sW2++f3))))) ?_ ?_
           · refine cj Z (fun h109=>?_) (fun h109=>?_)
             · obtain ⟨bl,x0,rfl,rfl,rfl⟩:=hlast.resolve_left (fun h=>by rw [h.1] at h109;cases h109)
               have hIx0:InR (rcS x0):=hI _ (hP.mem_iff.1 (by simp))
               rw [List.length_singleton] at hpl
               refine sj [.p,.p,.p,.r,.e,.p] Z<|mj Z<|mj Z<|nj Z<|rj Z (Ev.as (recV (rcS x0)) (Ev.ldA Z Z) Z)<|Rg.callH Z Z Z (mz Z) (fun F' hF'=>putR_z (F:=F') hW (by omega) (rcS x0) hIx0) rfl ?_
               rintro _ sW3 ⟨rfl,hW3⟩
               refine aj Z<|nl<|sj [.p,.p] Z<|mj Z<|uj Z (Pv.neq Z Z)<|nl<|cj Z (fun h116=>absurd h116 (by decide)) (fun h116=>?_)
               refine kj ?_
               exact Vc.inv1 sW3 hW3 (.cons rfl (.cons rfl (.cons rfl (.cons rfl (.cons rfl (.cons rfl .nil)))))) pulled
             · obtain ⟨rfl,rfl,rfl⟩:=hlast.resolve_right (fun ⟨bl,x0,h,_⟩=>by rw [h] at h109;cases h109)
               refine kj ?_
               exact Vc.inv1 sW (by rw [List.append_nil];exact hW) (.cons rfl (.cons rfl (.cons rfl (.cons rfl (.cons rfl (.cons rfl .nil)))))) pulled
           · rintro sW2 hW2
             refine tj [.p,.p] Z<|fj Z<|aj Z<|nl<|dj<|wj<|sj [.r] Z<|rj Z (Ev.as (SH.headV x) (Ev.ldA Z Z) Z)<|nl<|tj [.e,.e] Z ?_
             refine Rg.alloc Z Z Z Z (fun b16=>?_)
             refine Rg.storeA (us:=SH.headC x) Z Z Z Z Z Z Z Z<|nl<|tj [.e,.p,.p,.p,.e,.p] Z<|Rg.callH Z Z Z (mz Z) (fun F' hF'=>SH.pop_hd F' b7 xs2 f1 hH2 (by omega)) rfl ?_
             rintro _ sH2 ⟨rfl,hH3⟩
             refine mj Z<|xj Z Z<|xj Z Z<|Rg.storeA (us:=SH.headC (SH.hd xs2)) Z Z Z Z Z Z Z Z<|aj Z<|nl ?_
             exact Vc.inv7 (⟨its2,xs2,D2,sH2,sR2,f3⟩:MgS) b16 (some ⟨bo,0,none⟩) [rcS x] (done++ll) [(bo,cellsO (SH.headC x) 374)] sW2 ⟨⟨hM2,by rw [lx,List.singleton_append];exact (hrec2.symm.append_left _).trans hP,rises_snoc hRi (fun d hd=>hgt d hd _ (hrec2.mem_iff.2 (by simp))),fun d hd y hy=>(List.mem_append.1 hd).elim (fun hd=>hgt d hd y (hrec2.mem_iff.2 (List.mem_cons_of_mem _ hy))) (fun hd=>by rw [List.mem_singleton] at hd;rw [hd];exact hmin y (hrec2.mem_iff.2 (List.mem_cons_of_mem _ hy))),.inr ⟨bo,x,rfl,rfl,rfl⟩,hH3,hRs2,hD2,hO2.wz,hG.trans hG2.any,by rw [hG2.same _ (fun h=>h.elim)];exact hfo,hW2⟩,by simp only;omega⟩ (.cons rfl (.cons rfl (.cons rfl (.cons rfl (.cons rfl (.cons rfl (.cons rfl (.cons rfl .nil)))))))) pulled
     · simp only [df] at h62
       have hi0:M.its=[]:=List.length_eq_zero_iff.1 (by have:=hM.perm.length_eq;rw [List.length_map] at this;omega)
       rw [hi0] at hP
       rw [show recsI []=[] from rfl,List.append_nil] at hP
       have hsort:=sortL_of hP hRi
       have hll:=sortL_length (recsF fs)
       rw [←hsort,ly] at hll
       refine Vc.exit Z<|wj<|sj [.p,.p] Z<|mj Z<|uj Z (Pv.neqNil Z Z)<|nl<|Vc.cut1 (fun (sW2:Hl)=>WtAt wb db (runN k) (done++ll) sW2) (fun sW2=>[(2,kS (runN k)),(7,.pointer (some ⟨b7,0,none⟩)),(8,.func (.func 268) #[] #[.pointer (some ⟨b7,0,none⟩)]),(0,.pointer (some ⟨sb,0,none⟩)),(13,.pointer (some ⟨wb,0,none⟩))]) (fun sW2=>(sb,srO db nx mv)::(sg++(sW2++M.sd))) ?_ ?_
       · refine cj Z (fun h121=>?_) (fun h121=>?_)
         · obtain ⟨bl,x0,rfl,rfl,rfl⟩:=hlast.resolve_left (fun h=>by rw [h.1] at h121;cases h121)
           have hIx0:InR (rcS x0):=hI _ (hP.mem_iff.1 (by simp))
           rw [List.length_singleton] at hll
           refine sj [.p,.p,.p,.r,.e,.p] Z<|mj Z<|mj Z<|nj Z<|rj Z (Ev.as (recV (rcS x0)) (Ev.ldA Z Z) Z)<|Rg.callH Z Z Z (mz Z) (fun F' hF'=>putR_z (F:=F') hW (by omega) (rcS x0) hIx0) rfl ?_
           rintro _ sW3 ⟨rfl,hW3⟩
           refine aj Z<|nl<|sj [.p,.p] Z<|mj Z<|uj Z (Pv.neq Z Z)<|nl<|cj Z (fun h128=>absurd h128 (by decide)) (fun h128=>?_)
           refine kj ?_
           exact Vc.inv1 sW3 hW3 (.cons rfl (.cons rfl (.cons rfl (.cons rfl (.cons rfl .nil))))) pulled
         · obtain ⟨rfl,rfl,rfl⟩:=hlast.resolve_right (fun ⟨bl,x0,h,_⟩=>by rw [h] at h121;cases h121)
           refine kj ?_
           exact Vc.inv1 sW (by rw [List.append_nil];exact hW) (.cons rfl (.cons rfl (.cons rfl (.cons rfl (.cons rfl .nil))))) pulled
       · rintro sW2 hW2
         rw [hsort] at hW2
         refine sj [.p,.e,.p] Z<|mj Z<|Rg.callH Z Z Z (mz Z) (fun F' hF'=>closeR_z (F:=F') hC hW2 (by rw [sortL_length];omega) hD' hw' hG.up hfo (by rw [sortL_length];exact hcap)) rfl ?_
         rintro _ g ⟨e3,D3,rfl,hD3,hO3⟩
         refine aj Z<|nl ?_
         exact vr (hl':=(sb,srO db nx mv)::(sg++g)) rfl (tz Z) ⟨e3,D3,g,rfl,rfl,hD3,hO3.wz,hO3.2.imp (fun h=>⟨h.1,hG.trans h.2.1,h.2.2⟩) (fun h=>⟨h.1,hG.dn h.2⟩)⟩ pulled
end
abbrev chunkVS (p:Option Addr) (n len i:Nat):Value:=.slice (chunkP p (i*n*1)) (min n (len-i*n)) (min n (len-i*n))
def chunkLS {α:Type} (n:Nat) (xs:List α) (i:Nat):List α:=(xs.drop (i*n)).take (min n (xs.length-i*n))
theorem chunkS_arg {F:Fm} {p:Option Addr} {n c i:Nat} {xs:List (List UInt8)} (ha:Arg strE F (.slice p xs.length c) xs) (hi:i*n<xs.length):Arg strE F (chunkVS p n xs.length i) (chunkLS n xs i):=by
 rcases ha with ⟨e,h⟩ | ⟨b,off,c',e,hc,hcell⟩
 · subst h;simp at hi
 · cases e
   have hlen:(chunkLS n xs i).length=min n (xs.length-i*n):=by simp [chunkLS]
   refine .inr ⟨b,off+i*n*1,min n (xs.length-i*n),by rw [hlen];rfl,by rw [hlen];exact Nat.le_refl _,fun w hw q u hu=>?_⟩
   have e1:flat strE xs=flat strE (xs.take (i*n))++(flat strE (chunkLS n xs i)++flat strE ((xs.drop (i*n)).drop (min n (xs.length-i*n)))):=by
    rw [chunkLS,←flat_append,List.take_append_drop,←flat_append,List.take_append_drop]
   have hl2:(flat strE (xs.take (i*n))).length=i*n*1:=by rw [flat_length,List.length_take,Nat.min_eq_left (by omega)];rfl
   have:=hcell w hw (i*n*1+q) u (by
    rw [e1,List.getElem?_append_right (by omega),hl2,show i*n*1+q-i*n*1=q by omega,List.getElem?_append_left (List.getElem?_eq_some_iff.1 hu).1,hu])
   rwa [←Nat.add_assoc] at this
theorem chunkS_spec {F:Fm} {p:Option Addr} {m c:Nat} (n:Nat) (hn:1≤n) :
 Spec Tryz.prog 249 #[.slice p m c,.int .i64 (n:Int)] F [] fun v s=>∃b1 b2,v=.func (.func 267) #[] #[.pointer (some ⟨b1,0,none⟩),.pointer (some ⟨b2,0,none⟩)]∧s=[(b2,cellsO [.int .i64 (n:Int)] 3),(b1,cellsO [.slice p m c] 100)]:=by
 refine Spec.of (n:=9) (vs:=[.slice p m c,.int .i64 (n:Int)]) Tryz.func249 rfl Tryz.ntmps249 rfl ?_
 refine sj [.e,.e,.p] Z<|Rg.box Z Z Z Z Z (fun b2=>?_)
 refine Rg.box Z Z Z Z Z (fun b3=>?_)
 refine aj Z<|nl<|wj<|sj [.r,.p] Z<|lj Z Z<|uj Z (Pv.lss Z Z)<|nl<|cj Z (fun h6=>absurd h6 (by simp only [dt];omega)) (fun h6=>?_)
 refine kj<|sj [.p,.p] Z<|uj Z (Pv.mkF Z Z)<|aj Z<|nl ?_
 exact vr rfl (tz Z) (⟨b2,b3,rfl,rfl⟩) pulled
theorem chunkS_iter {F:Fm} {p:Option Addr} {c:Nat} {xs:List (List UInt8)} (ha:Arg strE F (.slice p xs.length c) xs) (hN:xs.length<1073741824) (n:Nat) (hn:1≤n) (hn2:n≤1000) (b1 b2:Nat) :
 IterE Tryz.prog 267 [.pointer (some ⟨b1,0,none⟩),.pointer (some ⟨b2,0,none⟩)] F (fun i=>[chunkVS p n xs.length i]) (fun pre=>∃m,m≤nc n xs.length∧pre=List.range m) (fun ys=>ys=List.range (nc n xs.length)) [(b2,cellsO [.int .i64 (n:Int)] 3),(b1,cellsO [.slice p xs.length c] 100)]:=by
 intro lr J X F1 hF1 hY hc0 hJ0
 have ha1:=ha.mono hF1
 have hcap:=ha1.cap.2
 refine Spec.of (n:=31) (vs:=[.func (.yield lr) #[] #[],.pointer (some ⟨b1,0,none⟩),.pointer (some ⟨b2,0,none⟩)]) Tryz.func267 rfl Tryz.ntmps267 rfl ?_
 refine sj [.p] Z<|aj Z<|nl<|bj ?_
 refine Vc.loop3 (fun (k i:Nat) (hc:Hl)=>i=k*n∧k≤nc n xs.length∧i≤xs.length+n∧J (List.range k) hc) (fun k i hc=>[(0,.func (.yield lr) #[] #[]),(1,.pointer (some ⟨b1,0,none⟩)),(2,.pointer (some ⟨b2,0,none⟩)),(4,.int .i64 (i:Int))]) (fun k i hc=>(b2,cellsO [.int .i64 (n:Int)] 3)::(b1,cellsO [.slice p xs.length c] 100)::hc) (fun k i hc=>xs.length+n-i) 0 0 hc0 ⟨by omega,Nat.zero_le _,Nat.zero_le _,hJ0⟩ (.cons rfl (.cons rfl (.cons rfl (.cons rfl .nil)))) pulled ?_
 rintro k i hc ⟨hik,hk,hib,hJ⟩
 refine wj<|sj [.p,.r,.p,.p] Z<|mj Z<|lj Z Z<|uj Z (Pv.lenS Z)<|uj Z (Pv.lss Z Z)<|nl<|cj Z (fun h9=>?_) (fun h9=>?_)
 · simp only [dt] at h9
   obtain ⟨b,off,c',e,_⟩:=ha1.block (by omega)
   cases e
   have hi1:i<xs.length:=by omega
   have hk1:k<nc n xs.length:=(nc_lt hn).2 (by omega)
   have hks:(k+1)*n=k*n+n:=by rw [Nat.add_mul,Nat.one_mul]
   have hY1:=hY (List.range k) k ⟨k+1,hk1,List.range_succ.symm⟩ hc hJ
   simp only [chunkVS,←hik] at hY1
   refine kj<|wj<|bj<|wj ?_
   refine Vc.draw [] (sd [(0,.read),(1,.read),(2,.pure),(3,.pure),(4,.pure),(5,.pure),(6,.pure)]) mixed (by kernel_rfl)<|lj Z Z<|lj Z Z<|mj Z<|uj Z (Pv.slFrom (i) rfl rfl (by omega) (by omega))<|uj Z (Pv.lenS Z)<|uj Z (Pv.asI (min n (xs.length-i)) (Pv.min rfl rfl) (by omega))<|aj Z<|nl<|sj [.p,.r,.p,.p,.p,.p,.p,.p,.p,.p,.e,.p] Z<|mj Z<|lj Z Z<|mj Z<|mj Z<|mj Z ?_
   refine uj Z (Pv.asI (i+min n (xs.length-i)) (Pv.add rfl rfl (by omega)) (by omega))<|mj Z<|mj Z<|uj Z (Pv.asI (i+min n (xs.length-i)) (Pv.add rfl rfl (by omega)) (by omega))<|uj Z (Pv.as (.slice (chunkP (some ⟨b,off,none⟩) (i*1)) (min n (xs.length-i)) (min n (xs.length-i))) (Pv.sl3 i (i+min n (xs.length-i)) (i+min n (xs.length-i)) rfl rfl rfl rfl (by omega) (by omega) (by omega)) (by rw [if_neg (by omega),show i+min n (xs.length-i)-i=min n (xs.length-i) by omega];rfl))<|Rg.yieldH Z Z Z Z Z (fun F' hF'=>hY1 F' (fun b o h=>hF' b o (.inr h))) Z ?_
   rintro v29 hc' hor
   obtain ⟨vb,rfl⟩:∃vb,v29=.bool vb:=hor.elim (fun h=>⟨_,h.1⟩) (fun h=>⟨_,h.1⟩)
   refine uj Z (Pv.not Z)<|nl<|cj Z (fun h30=>?_) (fun h30=>?_)
   · have hX:X hc':=(hor.resolve_left (fun h=>by cases h.1;cases h30)).2
     exact vr rfl (.nil) ((.inr hX)) pulled
   · have hJ':J (List.range (k+1)) hc':=by rw [List.range_succ];exact (hor.resolve_right (fun h=>by cases h.1;cases h30)).2
     refine kj<|dj<|tj [.p,.r,.p,.p] Z<|mj Z<|lj Z Z<|uj Z (Pv.asI (i+n) (Pv.add rfl rfl (by omega)) (by omega))<|aj Z<|nl ?_
     exact Vc.inv3 (k+1) (i+n) hc' ⟨⟨by omega,hk1,by omega,hJ'⟩,by omega⟩ (.cons rfl (.cons rfl (.cons rfl (.cons rfl .nil)))) pulled
 · simp only [df] at h9
   have hkn:k=nc n xs.length:=by
    have:=mt (nc_lt (k:=k) (len:=xs.length) hn).1 (by omega)
    omega
   refine Vc.exit Z ?_
   exact Vc.fin (Vc.retsH rfl .nil ((.inl ⟨List.range (nc n xs.length),rfl,hkn▸hJ⟩)) pulled)
end Go.Proofs.YtkpiakgmkpbikaaGreatDoor
