/- Steps of the proof. -/
import Derived.Test.YtkpiakgmkpbikaaGreatDoorSlN
import Derived.Test.YtkpiakgmkpbikaaGreatDoorRows
import Derived.Test.YtkpiakgmkpbikaaGreatDoorSlD
import Derived.ReadAgain
import Derived.Deep.Slices
import Derived.RowKit
import Derived.OpenShut
import Derived.Below
import Derived.ChangeSame
import Derived.Deep.Modes
set_option linter.unusedVariables false
namespace Go.Proofs.YtkpiakgmkpbikaaGreatDoor
open Go.ChangeShapes Go.WideShapes Go.RowKit
abbrev fmOf (W:World):Fm:=⟨W.os,W.tape,W.output,fun b o=>W.heap[b]? = some o,W.drawn⟩
theorem hp_start (W:World):Hp (fmOf W) [] W :=
 ⟨rfl,rfl,rfl,fun _ _ h=>(by cases h),fun _ _ h=>h,List.nodup_nil,fun _ _ _ h=>(by cases h),Nat.le_refl _⟩
theorem below_end {W W':World} {hl:Hl} (h:Hp (fmOf W) hl W'):Below W.heap.size W W':=by
 have hb:∀k,k<W.heap.size→W'.heap[k]? = W.heap[k]? := fun k hk=>by
  have e:W.heap[k]? = some W.heap[k]:=Array.getElem?_eq_getElem hk
  rw [e];exact h.frame k _ e
 refine ⟨h.os,h.tape,h.output,?_,hb⟩
 by_cases h0:W.heap.size=0
 · omega
 · have:=hb (W.heap.size-1) (by omega)
   rw [Array.getElem?_eq_getElem (show W.heap.size-1<W.heap.size by omega)] at this
   have:=(Array.getElem?_eq_some_iff.1 this).1
   omega
section
variable {H : Type} {enc : TypeId × Value → H} {P : Program}
theorem carryAll {W W':World} {base:Nat} {spare:Nat→Bool} {held:Bool} (hs:∀p:MemPlace,p.block<W.heap.size→W.sameAt W' p):∀{ts:List TypeId} {vs:List Value} {ds:List (DataW H)} {ps:List MemPlace},
 DataW.TrodAll enc P W base spare held ts vs ds ps→DataW.TrodAll enc P W' base spare held ts vs ds ps
 | [],[],[],_,h=>h
 | _::_,_::_,_::_,_,⟨p,q,⟨n,h1⟩,h2,e⟩=>⟨p,q,⟨n,DataW.trod_carry n _ _ _ h1 fun x hx=>hs x (DataW.trod_lt n _ _ _ h1 x hx)⟩,carryAll hs h2,e⟩
theorem sameAt_below {W W':World} (h:Below W.heap.size W W') (p:MemPlace) (hp:p.block<W.heap.size):W.sameAt W' p:=by
 cases p with
 | cell b off=>exact World.cell?_of_block (h.block b hp)
 | map b=>exact h.block b hp
theorem post_kept {f:Func} {s:ChangeSpec} {apart fresh handsOn:Bool} {W W':World} {args:Array Value} {ds gs:List (DataW H)} {before:List MemPlace} {tb:TypeId} {r:Bool}
 (hl:laidOutB P=true) (hm:mapsRowed P=true)
 (hz:((List.range P.types.size).all fun t=>match P.underlying t with | some (.slice e)=>decide (0<P.cellsOf e) | _=>true)=true) (ht:f.params.toList.all (fun t=>decide (t<P.types.size))=true)
 (hW:DataW.Whole enc P f.params.toList s.vars apart W args.toList ds gs before) (hv:s.vars=[]) (hs:s.fn H (ds++gs)={ results:=[.lit (.bool r)],args:=ds }) (htb:P.underlying tb=some .bool) (hrt:f.resultTypes=#[tb])
 (hb:Below W.heap.size W W'):s.post enc P f apart fresh handsOn false W args (.bool r) W':=by
 have hW':=hW
 obtain ⟨p,q,hA,hV,e,hfz,hnd⟩:=hW
 have hlt:∀x∈p,x.block<W.heap.size:=fun x hx=>hA.lt x hx
 have hA2:DataW.TrodAll enc P W' 0 (fun b=>decide (b<W.heap.size)) true f.params.toList args.toList ds p :=
  carryAll (sameAt_below hb) (DataW.TrodAll.respare (T:=(· < P.types.size)) (kids_rows hl hm) (slices_full_of P hz) (fun t h=>of_decide_eq_true (List.all_eq_true.1 ht t h)) hA (fun x hx=>by simpa using hlt x hx))
 refine ⟨ds,gs,before,[],p,[],hW',?_,?_,?_,World.keptBut_mono (fun x hx=>⟨hx,?_⟩) (hb.frame (· ∈ before)),fun h=>by cases h⟩
 · rw [hs,hrt]
   exact trodAll_cons_mk (shut_bool htb r) trodAll_mk0
 · rw [hs];exact hA2
 · rw [hs,hv];exact rfl
 · rw [hv] at hV
   have hq:q=[]:=by
    cases gs with
    | nil=>exact hV
    | cons g gs=>exact hV.elim
   rw [e,hq,List.append_nil] at hx
   exact .inr (.inl hx)
theorem cell_mono {W w:World} {a:Addr} {u:Value} (h:W.cell? a=some u) (hw:∀(b:Nat) (o:Obj),W.heap[b]? = some o→w.heap[b]? = some o):w.cell? a=some u:=by
 have e:∃o,W.heap[a.block]? = some o:=by
  cases he:W.heap[a.block]? with
  | some o=>exact ⟨o,rfl⟩
  | none=>simp [World.cell?,he] at h
 obtain ⟨o,ho⟩:=e
 rw [←h]
 exact World.cell?_of_block (by rw [hw _ _ ho,ho])
theorem open_arg {α:Type} [Inhabited α] {E:Enc α} {W:World} {r:Reach} {base:Nat} {t e:TypeId} {v:Value} {d:DataW H} {ps:List MemPlace} (good:α→Prop) (ht:P.underlying t=some (.slice e)) (he:P.cellsOf e=E.k)
 (hval:Value.okWide P W r base t v) (h:DataW.Trod enc P W 0 (fun _=>true) true t v d ps)
 (dec:∀(n:Nat) (cs:List Value) (y:DataW H×List MemPlace),cs.length=E.k→DataW.trod enc P W 0 (fun _=>true) true n e cs=some y→∃x,cs=E.cells x∧good x) :
 ∃xs:List α,Arg E (fmOf W) v xs∧∀x∈xs,good x:=by
 obtain ⟨a,len,cap,rfl⟩:=okWide_slice ht hval
 obtain ⟨fuel,h⟩:=h
 rcases Go.Deep.open_slice ht h with ⟨h0,_⟩ | ⟨a',len',cap',m,n,D,Pl,h0,_,hle,hcap,hm,_,hx⟩
 · have:Value.slice a len cap=.slice none 0 0:=by simpa [Value.cells] using h0
   exact ⟨[],.inl ⟨⟨_,_,this⟩,rfl⟩,fun x hx=>by cases hx⟩
 · have e0:Value.slice a len cap=.slice (some a') len' cap':=by simpa [Value.cells] using h0
   obtain ⟨rfl,rfl,rfl⟩:a=some a'∧len=len'∧cap=cap':=by simpa using e0
   have hspot:a'.spot=none:=by
    simp only [Value.okWide,ht,Cell.okWide,Cell.ok] at hval
    exact hval.2.2.2.1
   obtain ⟨b,off,sp⟩:=a'
   simp only at hspot
   subst hspot
   simp only [if_true] at hm
   subst hm
   have each:∀i,i<m→∃x,(∀j,j<E.k→W.cell? ⟨b,off+i*E.k+j,none⟩=(E.cells x)[j]?)∧good x:=fun i hi=>by
    obtain ⟨cs,h1,h2⟩:=hx i hi
    rw [he] at h1
    obtain ⟨_,hlen,hcell⟩:=World.cells?_some h1
    obtain ⟨x,rfl,hg⟩:=dec _ _ _ hlen h2
    refine ⟨x,fun j hj=>?_,hg⟩
    rw [←hcell j hj,addr_add,addr_add]
   obtain ⟨f,hf⟩:=Go.Deep.choose_lt each
   refine ⟨(List.range len).map f,.inr ⟨b,off,m,by simp,by simpa using hle,fun w hw j u hu=>?_⟩,fun x hxm=>?_⟩
   · have hj:=(List.getElem?_eq_some_iff.1 hu).1
     rw [flat_length,List.length_map,List.length_range] at hj
     have hpos:=E.pos
     have hi:j / E.k<len:=Nat.div_lt_of_lt_mul (by rw [Nat.mul_comm];exact hj)
     have hr:j % E.k<E.k:=Nat.mod_lt _ hpos
     have ej:j / E.k*E.k+j % E.k=j:=by rw [Nat.mul_comm];exact Nat.div_add_mod j E.k
     have hg:=flat_get E ((List.range len).map f) (j / E.k) (j % E.k) (f (j / E.k)) (by simp [hi]) hr
     rw [ej] at hg
     rw [hg,←(hf (j / E.k) (by omega)).1 _ hr] at hu
     have:=cell_mono hu hw
     rwa [Nat.add_assoc,ej] at this
   · obtain ⟨i,hi,rfl⟩:=List.mem_map.1 hxm
     exact (hf i (by have:=List.mem_range.1 hi;omega)).2
end
end Go.Proofs.YtkpiakgmkpbikaaGreatDoor
namespace Go.Proofs.YtkpiakgmkpbikaaGreatDoor
theorem Arg.cap {α:Type} {E:Enc α} {F:Fm} {p:Option Addr} {m c:Nat} {ys:List α} (h:Arg E F (.slice p m c) ys):m=ys.length∧ys.length≤c:=by
 rcases h with ⟨⟨p',c',e⟩,rfl⟩ | ⟨b,off,c',e,hc,_⟩
 · cases e;exact ⟨rfl,Nat.zero_le _⟩
 · cases e;exact ⟨rfl,hc⟩
section
variable {P : Program} {n : Nf} {F : Fm} {l : Env} {hl : Hl} {d : Option Tmp} {ty : TypeId} {pos : String} {af : Array Edge} {g : Option (Nat × Bool)} {α : Type} {E : Enc α}
variable {Qf : Exit → Act → World → Prop} {ks : List KItem} {ops : List Oper} {clr : List Nat} {hs : Hl} {r : Sd} {i : Nat}
theorem flat_parts (xs:List α) (k:Nat):flat E xs=flat E (xs.take k)++flat E (xs.drop k):=by
 conv=>lhs;rw [←List.take_append_drop k xs]
 simp only [flat,List.flatMap_append]
theorem Rg.bslice1R {t st e k:Nat} {x:Operand} {v z:Value} {zs:List Value} (y:α) [hu:TyUnder P st (.slice e)] [hs0:TySize P e k] [hz:TyZero P e z] (ho:nth ops i=some ⟨some t,.buildSlice st 1 #[(0,x)],ty,pos,af,g⟩) (hg:wantB ops l g=some true) (ht:Nat.blt t n.n=true)
 (hx:ev l x=some v) (hc:cl v=some (E.cells y)) (hcz:cl z=some zs) (hk:((E.cells y).length==k&&zs.length==k&&Nat.blt 0 k&&Nat.ble k 16777216)=true) (hr:cellsO (E.cells y) e=rowS E [y] [])
 (h:∀b,Own E (.slice (some ⟨b,0,none⟩) 1 1) [y] [(b,rowS E [y] [])]→Rg P Qf n F ks ops clr ((b,rowS E [y] [])::hl) r ((t,.slice (some ⟨b,0,none⟩) 1 1)::l) ((b,rowS E [y] [])::hl)):Rg P Qf n F ks ops clr hl (.st i .eff r) l hl :=
 Rg.bslice1 ho hg ht hx hc hcz hk fun b=>by
  rw [hr]
  exact h b (Own.blk' b 1 1 [y] [] rfl (by simp) (by decide))
theorem Rg.bsliceR {t st e k m:Nat} {ps:List (Nat×Operand)} {vs:List (Nat×Value)} {z:Value} {zs cs:List Value} (ys:List α) [hu:TyUnder P st (.slice e)] [hs0:TySize P e k] [hz:TyZero P e z] (ho:nth ops i=some ⟨some t,.buildSlice st m ps.toArray,ty,pos,af,g⟩) (hg:wantB ops l g=some true) (ht:Nat.blt t n.n=true)
 (hv:evp l ps=some vs) (hcz:cl z=some zs) (hk:(zs.length==k&&Nat.blt 0 k&&Nat.blt 0 m&&Nat.ble (m*k) 16777216)=true) (hc:Instr.fill (fun i=>some (i*k,k)) ((List.replicate m zs).flatten).toArray vs=some cs.toArray)
 (hr:cellsO cs e=rowS E ys []) (hm:m=ys.length) (hml:m≤maxLen)
 (h:∀b,Own E (.slice (some ⟨b,0,none⟩) m m) ys [(b,rowS E ys [])]→Rg P Qf n F ks ops clr ((b,rowS E ys [])::hl) r ((t,.slice (some ⟨b,0,none⟩) m m)::l) ((b,rowS E ys [])::hl)):Rg P Qf n F ks ops clr hl (.st i .eff r) l hl :=
 Rg.bsliceN ho hg ht hv hcz hk hc fun b=>by
  rw [hr]
  exact h b (Own.blk' b m m ys [] hm (by simp) hml)
theorem Arg.srcF {s:Hl} {v:Value} {ys:List α} (h:Arg E (frz F s) v ys) [hsb:Sb s hl]:Src E F hl v ys:=by
 rcases h with h | ⟨b,off,c,e,_,h⟩
 · exact .inl h
 · exact .inr ⟨b,off,c,e,fun w ⟨hn,hw⟩=>h w fun b o hbo=>hbo.elim (fun hm=>hw.own b o (List.mem_append_right _ (hsb.sub _ hm))) (hw.frame b o)⟩
theorem flat_set1 [Inhabited α] {ys:List α} {j i:Nat} {z:α} {u:Value} (hj:j<ys.length) (hi:i<E.k) (hz:E.cells z=(E.cells ys[j]!).set i u):flat E (ys.set j z)=(flat E ys).set (j*E.k+i) u:=by
 have e:flat E ys=(flat E ys).take (j*E.k)++E.cells ys[j]! ++ (flat E ys).drop (j*E.k+E.k):=by
  have:=flat_set (E:=E) ys j ys[j]! hj
  rw [getElem!_pos ys j hj,List.set_getElem_self] at this
  rw [getElem!_pos ys j hj]
  exact this
 have hlen:=flat_lt E ys (i:=E.k-1) hj (by have:=E.pos;omega)
 have ht:((flat E ys).take (j*E.k)).length=j*E.k:=by simp;omega
 rw [flat_set ys j z hj,hz]
 conv=>rhs;rw [e]
 rw [lx,lx,List.set_append_right _ _ (by omega),ht,show j*E.k+i-j*E.k=i by omega,List.set_append_left _ _ (by rw [E.len];exact hi)]
theorem Rg.storeRf [Inhabited α] {t b off:Nat} {x y:Operand} {d:Option Tmp} {z:α} {v:Value} {ys:List α} {sp:List Value} {put:Obj→Hl} (j i0:Nat) (ho:nth ops i=some ⟨d,.store t x y,ty,pos,af,g⟩) (hg:wantB ops l g=some true) (hd:d=none)
 (hx:ev l x=some (.pointer (some ⟨b,off,none⟩))) (hy:ev l y=some v) [hb:Lens hl b (rowS E ys sp) put] [ht:TyOne P t] (hc1:v.oneCell'=true) (hz:E.cells z=(E.cells ys[j]!).set i0 v) (hi:i0<E.k) (hoff:off=j*E.k+i0) (hj:j<ys.length) (hclr:clr.contains i=true)
 (h:Rg P Qf n F ks ops clr (put (rowS E (ys.set j z) sp)) r l (put (rowS E (ys.set j z) sp))):Rg P Qf n F ks ops clr hs (.st i .eff r) l hl :=
 Rg.run ho hg fun a w hf hh=>by
  subst hd;subst hoff
  have hlen:=flat_lt E ys hj hi
  have hq:setsL (flat E ys++sp) (j*E.k+i0) [v]=some (flat E (ys.set j z)++sp):=by
   rw [setsL_mk _ _ _ (by simp;omega),flat_set1 hj hi hz,List.set_eq_take_append_cons_drop,if_pos hlen,List.take_append_of_le_length (by omega),List.drop_append_of_le_length (by simp;omega)]
   simp
  have hrun:=run_storeAt (P:=P) (t:=t) (us:=[v]) ht.size (cells_one hc1) rfl (by simpa using hc1) (hh.own b _ hb.mem) hq
  exact ⟨_,l,_,_,.inr ⟨by simp [execOp,hf.ev hx,hf.ev hy,hrun,rowS],hf⟩,hb.putB hh _,(hb.putB hh _).st,.inl hclr,h⟩
theorem Rg.ext {t f:Nat} {xs:List Operand} {vs:List Value} {ats:Array TypeId} {v:Value} (ho:nth ops i=some ⟨some t,.call { callee:=.value (.func f),args:=xs.toArray,argTypes:=ats },ty,pos,af,g⟩) (hg:wantB ops l g=some true) (ht:Nat.blt t n.n=true)
 (hv:evs l xs=some vs) (hc:∀w,(callFunc f vs.toArray).run P w=.ok (.value v) w) (h:Rg P Qf n F ks ops clr hl r ((t,v)::l) hl):Rg P Qf n F ks ops clr hl (.st i .eff r) l hl :=
 Rg.run ho hg fun a w hf hh=>⟨w,(t,v)::l,hl,hl,.inl ⟨v,by simp [execOp,resolve,Deferred.ofValue,Act.eval,invoke,hc,hf.evs hv],hf.put ht v⟩,hh,hh.st,.same,h⟩
theorem Rg.callHN {t f:Nat} {o:Op} {args:Array Value} {pre rest q:Hl} {post:Value→Hl→Prop} (ho:nth ops i=some ⟨some t,o,ty,pos,af,g⟩) (hg:wantB ops l g=some true) (ht:Nat.blt t n.n=true) (hc:Callz P n l ⟨some t,o,ty,pos,af,g⟩ f args)
 (hspec:∀F',(∀b o,(b,o)∈rest∨F.at_ b o→F'.at_ b o)→Spec P f args F' pre post) [hp:PullL hl pre rest] [hq:PullL rest hs q] (h:∀v hl',post v hl'→Rg P Qf n F ks ops clr hs r ((t,v)::l) (hl'++rest)):Rg P Qf n F ks ops clr hs (.st i .eff r) l hl :=
 Rg.calls pre rest ho hg (fun a w hf _=>hc a w hf) hp.perm (hspec (frz F rest) fun _ _ h=>h) fun v hl' hpost=>⟨hs,fun w hw=>⟨hl'++q,hw.perm (by rw [lx];exact (hq.perm.trans List.perm_append_comm).append_left hl')⟩,.same,fun a hf=>⟨_,hf.put ht v,h v hl' hpost⟩⟩
theorem Pv.remN {t t':TypeId} {x y:Operand} {k:IntKind} (p q:Nat) (hx:ev l x=some (.int k (p:Int))) (hy:ev l y=some (.int k (q:Int))) (hq:0<q):Pv P n l ⟨d,.binOp .rem t x y t',ty,pos,af,g⟩ (.int k ((p % q:Nat):Int)):=Pv.ar hx hy fun w=>by
 have h0:(q:Int)≠0:=by omega
 have hd:(p:Int).tmod (q:Int)=((p % q:Nat):Int):=by rw [Int.tmod_eq_emod_of_nonneg (by omega)];rfl
 simp [binOp,Op.intDiv,hd]
 intro hk
 omega
end
instance : TyOne Tryz.prog 3:=⟨Tryz.isAgg3,Tryz.sizeOf3⟩
instance : TyZero Tryz.prog 3 (.int .i64 0):=⟨Tryz.zeroValue3⟩
instance : TyUnder Tryz.prog 3 (.int .i64):=⟨Tryz.underlying3⟩
instance : TyOne Tryz.prog 4:=⟨Tryz.isAgg4,Tryz.sizeOf4⟩
instance : TyZero Tryz.prog 4 (.bool false):=⟨Tryz.zeroValue4⟩
instance : TyUnder Tryz.prog 4 .bool:=⟨Tryz.underlying4⟩
instance : TyOne Tryz.prog 5:=⟨Tryz.isAgg5,Tryz.sizeOf5⟩
instance : TyZero Tryz.prog 5 (.int .u8 0):=⟨Tryz.zeroValue5⟩
instance : TyUnder Tryz.prog 5 (.int .u8):=⟨Tryz.underlying5⟩
instance : TyOne Tryz.prog 9:=⟨Tryz.isAgg9,Tryz.sizeOf9⟩
instance : TyZero Tryz.prog 9 (.string ⟨#[]⟩):=⟨Tryz.zeroValue9⟩
instance : TyUnder Tryz.prog 9 .string:=⟨Tryz.underlying9⟩
instance : TyOne Tryz.prog 22:=⟨Tryz.isAgg22,Tryz.sizeOf22⟩
instance : TyUnder Tryz.prog 22 (.int .u32):=⟨Tryz.underlying22⟩
instance : TyAgg Tryz.prog 24 2:=⟨Tryz.isAgg24,Tryz.sizeOf24⟩
instance : TyZero Tryz.prog 24 (.agg #[.int .i64 0,.int .u32 0]):=⟨Tryz.zeroValue24⟩
instance : TyField Tryz.prog 24 0 0:=tyField_mk Tryz.underlying24 rfl rfl Tryz.sizeOf3 (by decide)
instance : TyField Tryz.prog 24 1 1:=tyField_mk Tryz.underlying24 rfl rfl Tryz.sizeOf22 (by decide)
instance : TyStruct Tryz.prog 24 [.int .i64 0,.int .u32 0] [(0,1),(1,1)]:=⟨fun ps w=>by simp [Instr.build,Value.cells];generalize Instr.fill _ _ _=z;cases z<;>rfl⟩
instance : TyOne Tryz.prog 25:=⟨Tryz.isAgg25,Tryz.sizeOf25⟩
instance : TyUnder Tryz.prog 25 (.slice 79):=⟨Tryz.underlying25⟩
instance : TyAgg Tryz.prog 27 2:=⟨Tryz.isAgg27,Tryz.sizeOf27⟩
instance : TyZero Tryz.prog 27 (.agg #[.int .i64 0,.slice none 0 0]):=⟨Tryz.zeroValue27⟩
instance : TyField Tryz.prog 27 0 0:=tyField_mk Tryz.underlying27 rfl rfl Tryz.sizeOf3 (by decide)
instance : TyField Tryz.prog 27 1 1:=tyField_mk Tryz.underlying27 rfl rfl Tryz.sizeOf25 (by decide)
instance : TyStruct Tryz.prog 27 [.int .i64 0,.slice none 0 0] [(0,1),(1,1)]:=⟨fun ps w=>by simp [Instr.build,Value.cells];generalize Instr.fill _ _ _=z;cases z<;>rfl⟩
instance : TyUnder Tryz.prog 33 (.pointer 70):=⟨Tryz.underlying33⟩
instance : TyOne Tryz.prog 35:=⟨Tryz.isAgg35,Tryz.sizeOf35⟩
instance : TyZero Tryz.prog 35 (.int .i64 0):=⟨Tryz.zeroValue35⟩
instance : TyOne Tryz.prog 36:=⟨Tryz.isAgg36,Tryz.sizeOf36⟩
instance : TyZero Tryz.prog 36 (.int .u64 0):=⟨Tryz.zeroValue36⟩
instance : TyUnder Tryz.prog 36 (.int .u64):=⟨Tryz.underlying36⟩
instance : TyAgg Tryz.prog 38 6:=⟨Tryz.isAgg38,Tryz.sizeOf38⟩
instance : TyZero Tryz.prog 38 (.agg #[.int .i64 0,.int .i64 0,.int .u64 0,.bool false,.int .i64 0,.int .u32 0]):=⟨Tryz.zeroValue38⟩
instance : TyField Tryz.prog 38 0 0:=tyField_mk Tryz.underlying38 rfl rfl Tryz.sizeOf35 (by decide)
instance : TyField Tryz.prog 38 1 1:=tyField_mk Tryz.underlying38 rfl rfl Tryz.sizeOf3 (by decide)
instance : TyField Tryz.prog 38 2 2:=tyField_mk Tryz.underlying38 rfl rfl Tryz.sizeOf36 (by decide)
instance : TyField Tryz.prog 38 3 3:=tyField_mk Tryz.underlying38 rfl rfl Tryz.sizeOf4 (by decide)
instance : TyField Tryz.prog 38 4 4:=tyField_mk Tryz.underlying38 rfl rfl Tryz.sizeOf24 (by decide)
instance : TyStruct Tryz.prog 38 [.int .i64 0,.int .i64 0,.int .u64 0,.bool false,.int .i64 0,.int .u32 0] [(0,1),(1,1),(2,1),(3,1),(4,2)]:=⟨fun ps w=>by simp [Instr.build,Value.cells];generalize Instr.fill _ _ _=z;cases z<;>rfl⟩
instance : TyOne Tryz.prog 40:=⟨Tryz.isAgg40,Tryz.sizeOf40⟩
instance : TyZero Tryz.prog 40 (.slice none 0 0):=⟨Tryz.zeroValue40⟩
instance : TyUnder Tryz.prog 40 (.slice 5):=⟨Tryz.underlying40⟩
instance : TyOne Tryz.prog 41:=⟨Tryz.isAgg41,Tryz.sizeOf41⟩
instance : TyUnder Tryz.prog 41 (.slice 4):=⟨Tryz.underlying41⟩
instance : TyAgg Tryz.prog 43 7:=⟨Tryz.isAgg43,Tryz.sizeOf43⟩
instance : TyField Tryz.prog 43 0 0:=tyField_mk Tryz.underlying43 rfl rfl Tryz.sizeOf3 (by decide)
instance : TyField Tryz.prog 43 1 1:=tyField_mk Tryz.underlying43 rfl rfl Tryz.sizeOf3 (by decide)
instance : TyField Tryz.prog 43 2 2:=tyField_mk Tryz.underlying43 rfl rfl Tryz.sizeOf3 (by decide)
instance : TyField Tryz.prog 43 3 3:=tyField_mk Tryz.underlying43 rfl rfl Tryz.sizeOf24 (by decide)
instance : TyField Tryz.prog 43 4 5:=tyField_mk Tryz.underlying43 rfl rfl Tryz.sizeOf40 (by decide)
instance : TyField Tryz.prog 43 5 6:=tyField_mk Tryz.underlying43 rfl rfl Tryz.sizeOf41 (by decide)
instance : TyStruct Tryz.prog 43 [.int .i64 0,.int .i64 0,.int .i64 0,.int .i64 0,.int .u32 0,.slice none 0 0,.slice none 0 0] [(0,1),(1,1),(2,1),(3,2),(5,1),(6,1)]:=⟨fun ps w=>by simp [Instr.build,Value.cells];generalize Instr.fill _ _ _=z;cases z<;>rfl⟩
instance : TyOne Tryz.prog 45:=⟨Tryz.isAgg45,Tryz.sizeOf45⟩
instance : TyUnder Tryz.prog 45 (.slice 3):=⟨Tryz.underlying45⟩
instance : TyField Tryz.prog 61 1 0:=tyField_mk Tryz.underlying61 rfl rfl Tryz.sizeOf59 (by decide)
instance : TyField Tryz.prog 64 1 0:=tyField_mk Tryz.underlying64 rfl rfl Tryz.sizeOf22 (by decide)
instance : TyOne Tryz.prog 67:=⟨Tryz.isAgg67,Tryz.sizeOf67⟩
instance : TyOne Tryz.prog 68:=⟨Tryz.isAgg68,Tryz.sizeOf68⟩
instance : TyUnder Tryz.prog 68 (.pointer 130):=⟨Tryz.underlying68⟩
instance : TyField Tryz.prog 70 0 0:=tyField_mk Tryz.underlying70 rfl rfl Tryz.sizeOf61 (by decide)
instance : TyField Tryz.prog 70 2 5:=tyField_mk Tryz.underlying70 rfl rfl Tryz.sizeOf67 (by decide)
instance : TyField Tryz.prog 70 3 6:=tyField_mk Tryz.underlying70 rfl rfl Tryz.sizeOf68 (by decide)
instance : TyField Tryz.prog 70 4 7:=tyField_mk Tryz.underlying70 rfl rfl Tryz.sizeOf3 (by decide)
instance : TyField Tryz.prog 70 5 8:=tyField_mk Tryz.underlying70 rfl rfl Tryz.sizeOf4 (by decide)
instance : TyStruct Tryz.prog 70 [.int .i32 0,.int .u32 0,.int .u32 0,.int .i32 0,.int .u32 0,.pointer none,.pointer none,.int .i64 0,.bool false] [(0,2),(2,3),(5,1),(6,1),(7,1),(8,1)]:=⟨fun ps w=>by simp [Instr.build,Value.cells];generalize Instr.fill _ _ _=z;cases z<;>rfl⟩
instance : TyZero Tryz.prog 74 (.nilFunc):=⟨Tryz.zeroValue74⟩
instance : TyOne Tryz.prog 75:=⟨Tryz.isAgg75,Tryz.sizeOf75⟩
instance : TyUnder Tryz.prog 75 (.map 3 74):=⟨Tryz.underlying75⟩
instance : TyAgg Tryz.prog 79 3:=⟨Tryz.isAgg79,Tryz.sizeOf79⟩
instance : TyZero Tryz.prog 79 (.agg #[.int .u32 0,.int .u32 0,.int .u32 0]):=⟨Tryz.zeroValue79⟩
instance : TyField Tryz.prog 79 0 0:=tyField_mk Tryz.underlying79 rfl rfl Tryz.sizeOf22 (by decide)
instance : TyField Tryz.prog 79 1 1:=tyField_mk Tryz.underlying79 rfl rfl Tryz.sizeOf22 (by decide)
instance : TyField Tryz.prog 79 2 2:=tyField_mk Tryz.underlying79 rfl rfl Tryz.sizeOf22 (by decide)
instance : TyStruct Tryz.prog 79 [.int .u32 0,.int .u32 0,.int .u32 0] [(0,1),(1,1),(2,1)]:=⟨fun ps w=>by simp [Instr.build,Value.cells];generalize Instr.fill _ _ _=z;cases z<;>rfl⟩
instance : TyUnder Tryz.prog 81 (.int .u64):=⟨Tryz.underlying81⟩
instance : TyOne Tryz.prog 82:=⟨Tryz.isAgg82,Tryz.sizeOf82⟩
instance : TyUnder Tryz.prog 82 (.slice 36):=⟨Tryz.underlying82⟩
instance : TyAgg Tryz.prog 84 2:=⟨Tryz.isAgg84,Tryz.sizeOf84⟩
instance : TyZero Tryz.prog 84 (.agg #[.slice none 0 0,.slice none 0 0]):=⟨Tryz.zeroValue84⟩
instance : TyField Tryz.prog 84 0 0:=tyField_mk Tryz.underlying84 rfl rfl Tryz.sizeOf82 (by decide)
instance : TyField Tryz.prog 84 1 1:=tyField_mk Tryz.underlying84 rfl rfl Tryz.sizeOf41 (by decide)
instance : TyStruct Tryz.prog 84 [.slice none 0 0,.slice none 0 0] [(0,1),(1,1)]:=⟨fun ps w=>by simp [Instr.build,Value.cells];generalize Instr.fill _ _ _=z;cases z<;>rfl⟩
instance : TyOne Tryz.prog 93:=⟨Tryz.isAgg93,Tryz.sizeOf93⟩
instance : TyUnder Tryz.prog 93 (.map 9 105):=⟨Tryz.underlying93⟩
instance : TyField Tryz.prog 96 2 0:=tyField_mk Tryz.underlying96 rfl rfl Tryz.sizeOf2 (by decide)
instance : TyField Tryz.prog 98 0 0:=tyField_mk Tryz.underlying98 rfl rfl Tryz.sizeOf93 (by decide)
instance : TyField Tryz.prog 98 1 1:=tyField_mk Tryz.underlying98 rfl rfl Tryz.sizeOf3 (by decide)
instance : TyField Tryz.prog 98 2 2:=tyField_mk Tryz.underlying98 rfl rfl Tryz.sizeOf3 (by decide)
instance : TyField Tryz.prog 98 3 3:=tyField_mk Tryz.underlying98 rfl rfl Tryz.sizeOf96 (by decide)
instance : TyField Tryz.prog 98 4 4:=tyField_mk Tryz.underlying98 rfl rfl Tryz.sizeOf3 (by decide)
instance : TyField Tryz.prog 98 5 5:=tyField_mk Tryz.underlying98 rfl rfl Tryz.sizeOf41 (by decide)
instance : TyField Tryz.prog 98 6 6:=tyField_mk Tryz.underlying98 rfl rfl Tryz.sizeOf64 (by decide)
instance : TyStruct Tryz.prog 98 [.map none,.int .i64 0,.int .i64 0,.int .i64 0,.int .i64 0,.slice none 0 0,.int .u32 0] [(0,1),(1,1),(2,1),(3,1),(4,1),(5,1),(6,1)]:=⟨fun ps w=>by simp [Instr.build,Value.cells];generalize Instr.fill _ _ _=z;cases z<;>rfl⟩
instance : TyOne Tryz.prog 100:=⟨Tryz.isAgg100,Tryz.sizeOf100⟩
instance : TyZero Tryz.prog 100 (.slice none 0 0):=⟨Tryz.zeroValue100⟩
instance : TyUnder Tryz.prog 100 (.slice 9):=⟨Tryz.underlying100⟩
instance : TyZero Tryz.prog 105 (.pointer none):=⟨Tryz.zeroValue105⟩
instance : TyUnder Tryz.prog 105 (.pointer 109):=⟨Tryz.underlying105⟩
instance : TyField Tryz.prog 109 0 0:=tyField_mk Tryz.underlying109 rfl rfl Tryz.sizeOf40 (by decide)
instance : TyField Tryz.prog 109 1 1:=tyField_mk Tryz.underlying109 rfl rfl Tryz.sizeOf40 (by decide)
instance : TyStruct Tryz.prog 109 [.slice none 0 0,.slice none 0 0] [(0,1),(1,1)]:=⟨fun ps w=>by simp [Instr.build,Value.cells];generalize Instr.fill _ _ _=z;cases z<;>rfl⟩
instance : TyAgg Tryz.prog 126 6:=⟨Tryz.isAgg126,Tryz.sizeOf126⟩
instance : TyZero Tryz.prog 126 (.agg #[.int .u64 0,.int .i64 0,.int .i64 0,.int .i64 0,.int .i64 0,.int .u32 0]):=⟨Tryz.zeroValue126⟩
instance : TyField Tryz.prog 126 0 0:=tyField_mk Tryz.underlying126 rfl rfl Tryz.sizeOf36 (by decide)
instance : TyField Tryz.prog 126 1 1:=tyField_mk Tryz.underlying126 rfl rfl Tryz.sizeOf3 (by decide)
instance : TyField Tryz.prog 126 2 2:=tyField_mk Tryz.underlying126 rfl rfl Tryz.sizeOf3 (by decide)
instance : TyField Tryz.prog 126 3 3:=tyField_mk Tryz.underlying126 rfl rfl Tryz.sizeOf3 (by decide)
instance : TyField Tryz.prog 126 4 4:=tyField_mk Tryz.underlying126 rfl rfl Tryz.sizeOf24 (by decide)
instance : TyStruct Tryz.prog 126 [.int .u64 0,.int .i64 0,.int .i64 0,.int .i64 0,.int .i64 0,.int .u32 0] [(0,1),(1,1),(2,1),(3,1),(4,2)]:=⟨fun ps w=>by simp [Instr.build,Value.cells];generalize Instr.fill _ _ _=z;cases z<;>rfl⟩
instance : TyField Tryz.prog 130 0 0:=tyField_mk Tryz.underlying130 rfl rfl Tryz.sizeOf67 (by decide)
instance : TyField Tryz.prog 130 1 1:=tyField_mk Tryz.underlying130 rfl rfl Tryz.sizeOf3 (by decide)
instance : TyField Tryz.prog 130 2 2:=tyField_mk Tryz.underlying130 rfl rfl Tryz.sizeOf126 (by decide)
instance : TyField Tryz.prog 130 3 8:=tyField_mk Tryz.underlying130 rfl rfl Tryz.sizeOf4 (by decide)
instance : TyField Tryz.prog 130 4 9:=tyField_mk Tryz.underlying130 rfl rfl Tryz.sizeOf4 (by decide)
instance : TyStruct Tryz.prog 130 [.pointer none,.int .i64 0,.int .u64 0,.int .i64 0,.int .i64 0,.int .i64 0,.int .i64 0,.int .u32 0,.bool false,.bool false] [(0,1),(1,1),(2,6),(8,1),(9,1)]:=⟨fun ps w=>by simp [Instr.build,Value.cells];generalize Instr.fill _ _ _=z;cases z<;>rfl⟩
instance : TyZero Tryz.prog 148 (.agg #[.slice none 0 0,.slice none 0 0]):=⟨Tryz.zeroValue148⟩
instance : TyUnder Tryz.prog 148 (.array 2 40):=⟨Tryz.underlying148⟩
instance : TyOne Tryz.prog 157:=⟨Tryz.isAgg157,Tryz.sizeOf157⟩
instance : TyZero Tryz.prog 157 (.nilFunc):=⟨Tryz.zeroValue157⟩
instance : TyOne Tryz.prog 161:=⟨Tryz.isAgg161,Tryz.sizeOf161⟩
instance : TyZero Tryz.prog 187 (.agg #[.int .u64 0,.int .u64 0,.int .u64 0,.int .u64 0,.int .u64 0,.int .u64 0]):=⟨Tryz.zeroValue187⟩
instance : TyUnder Tryz.prog 187 (.array 6 36):=⟨Tryz.underlying187⟩
instance : TyConc Tryz.prog 198:=⟨fun x w=>by simp [Instr.makeInterface]⟩
instance : TyConc Tryz.prog 201:=⟨fun x w=>by simp [Instr.makeInterface]⟩
instance : TyStruct Tryz.prog 222 [.string ⟨#[]⟩,.string ⟨#[]⟩,.nilIface] [(0,1),(1,1),(2,1)]:=⟨fun ps w=>by simp [Instr.build,Value.cells];generalize Instr.fill _ _ _=z;cases z<;>rfl⟩
instance : TyUnder Tryz.prog 238 (.slice 40):=⟨Tryz.underlying238⟩
instance : TyOne Tryz.prog 289:=⟨Tryz.isAgg289,Tryz.sizeOf289⟩
instance : TyZero Tryz.prog 289 (.slice none 0 0):=⟨Tryz.zeroValue289⟩
instance : TyUnder Tryz.prog 289 (.slice 293):=⟨Tryz.underlying289⟩
instance : TyAgg Tryz.prog 293 2:=⟨Tryz.isAgg293,Tryz.sizeOf293⟩
instance : TyZero Tryz.prog 293 (.agg #[.int .u64 0,.int .u64 0]):=⟨Tryz.zeroValue293⟩
instance : TyField Tryz.prog 293 0 0:=tyField_mk Tryz.underlying293 rfl rfl Tryz.sizeOf36 (by decide)
instance : TyField Tryz.prog 293 1 1:=tyField_mk Tryz.underlying293 rfl rfl Tryz.sizeOf36 (by decide)
instance : TyStruct Tryz.prog 293 [.int .u64 0,.int .u64 0] [(0,1),(1,1)]:=⟨fun ps w=>by simp [Instr.build,Value.cells];generalize Instr.fill _ _ _=z;cases z<;>rfl⟩
instance : TyOne Tryz.prog 308:=⟨Tryz.isAgg308,Tryz.sizeOf308⟩
instance : TyOne Tryz.prog 311:=⟨Tryz.isAgg311,Tryz.sizeOf311⟩
instance : TyField Tryz.prog 313 0 0:=tyField_mk Tryz.underlying313 rfl rfl Tryz.sizeOf67 (by decide)
instance : TyField Tryz.prog 313 1 1:=tyField_mk Tryz.underlying313 rfl rfl Tryz.sizeOf9 (by decide)
instance : TyField Tryz.prog 313 2 2:=tyField_mk Tryz.underlying313 rfl rfl Tryz.sizeOf3 (by decide)
instance : TyField Tryz.prog 313 3 3:=tyField_mk Tryz.underlying313 rfl rfl Tryz.sizeOf3 (by decide)
instance : TyField Tryz.prog 313 4 4:=tyField_mk Tryz.underlying313 rfl rfl Tryz.sizeOf3 (by decide)
instance : TyField Tryz.prog 313 5 5:=tyField_mk Tryz.underlying313 rfl rfl Tryz.sizeOf100 (by decide)
instance : TyStruct Tryz.prog 313 [.pointer none,.string ⟨#[]⟩,.int .i64 0,.int .i64 0,.int .i64 0,.slice none 0 0] [(0,1),(1,1),(2,1),(3,1),(4,1),(5,1)]:=⟨fun ps w=>by simp [Instr.build,Value.cells];generalize Instr.fill _ _ _=z;cases z<;>rfl⟩
instance : TyUnder Tryz.prog 319 (.slice 157):=⟨Tryz.underlying319⟩
instance : TyOne Tryz.prog 323:=⟨Tryz.isAgg323,Tryz.sizeOf323⟩
instance : TyUnder Tryz.prog 323 (.map 36 36):=⟨Tryz.underlying323⟩
instance : TyField Tryz.prog 325 0 0:=tyField_mk Tryz.underlying325 rfl rfl Tryz.sizeOf67 (by decide)
instance : TyField Tryz.prog 325 1 1:=tyField_mk Tryz.underlying325 rfl rfl Tryz.sizeOf9 (by decide)
instance : TyField Tryz.prog 325 2 2:=tyField_mk Tryz.underlying325 rfl rfl Tryz.sizeOf3 (by decide)
instance : TyField Tryz.prog 325 3 3:=tyField_mk Tryz.underlying325 rfl rfl Tryz.sizeOf3 (by decide)
instance : TyField Tryz.prog 325 4 4:=tyField_mk Tryz.underlying325 rfl rfl Tryz.sizeOf323 (by decide)
instance : TyField Tryz.prog 325 5 5:=tyField_mk Tryz.underlying325 rfl rfl Tryz.sizeOf100 (by decide)
instance : TyField Tryz.prog 325 6 6:=tyField_mk Tryz.underlying325 rfl rfl Tryz.sizeOf3 (by decide)
instance : TyStruct Tryz.prog 325 [.pointer none,.string ⟨#[]⟩,.int .i64 0,.int .i64 0,.map none,.slice none 0 0,.int .i64 0] [(0,1),(1,1),(2,1),(3,1),(4,1),(5,1),(6,1)]:=⟨fun ps w=>by simp [Instr.build,Value.cells];generalize Instr.fill _ _ _=z;cases z<;>rfl⟩
instance : TyField Tryz.prog 337 0 0:=tyField_mk Tryz.underlying337 rfl rfl Tryz.sizeOf67 (by decide)
instance : TyField Tryz.prog 337 1 1:=tyField_mk Tryz.underlying337 rfl rfl Tryz.sizeOf9 (by decide)
instance : TyField Tryz.prog 337 2 2:=tyField_mk Tryz.underlying337 rfl rfl Tryz.sizeOf40 (by decide)
instance : TyField Tryz.prog 337 3 3:=tyField_mk Tryz.underlying337 rfl rfl Tryz.sizeOf4 (by decide)
instance : TyStruct Tryz.prog 337 [.pointer none,.string ⟨#[]⟩,.slice none 0 0,.bool false] [(0,1),(1,1),(2,1),(3,1)]:=⟨fun ps w=>by simp [Instr.build,Value.cells];generalize Instr.fill _ _ _=z;cases z<;>rfl⟩
instance : TyField Tryz.prog 340 0 0:=tyField_mk Tryz.underlying340 rfl rfl Tryz.sizeOf67 (by decide)
instance : TyField Tryz.prog 340 1 1:=tyField_mk Tryz.underlying340 rfl rfl Tryz.sizeOf9 (by decide)
instance : TyField Tryz.prog 340 2 2:=tyField_mk Tryz.underlying340 rfl rfl Tryz.sizeOf3 (by decide)
instance : TyField Tryz.prog 340 3 3:=tyField_mk Tryz.underlying340 rfl rfl Tryz.sizeOf3 (by decide)
instance : TyField Tryz.prog 340 4 4:=tyField_mk Tryz.underlying340 rfl rfl Tryz.sizeOf40 (by decide)
instance : TyField Tryz.prog 340 5 5:=tyField_mk Tryz.underlying340 rfl rfl Tryz.sizeOf4 (by decide)
instance : TyField Tryz.prog 340 6 6:=tyField_mk Tryz.underlying340 rfl rfl Tryz.sizeOf35 (by decide)
instance : TyStruct Tryz.prog 340 [.pointer none,.string ⟨#[]⟩,.int .i64 0,.int .i64 0,.slice none 0 0,.bool false,.int .i64 0] [(0,1),(1,1),(2,1),(3,1),(4,1),(5,1),(6,1)]:=⟨fun ps w=>by simp [Instr.build,Value.cells];generalize Instr.fill _ _ _=z;cases z<;>rfl⟩
instance : TyOne Tryz.prog 352:=⟨Tryz.isAgg352,Tryz.sizeOf352⟩
instance : TyUnder Tryz.prog 352 (.slice 355):=⟨Tryz.underlying352⟩
instance : TyField Tryz.prog 354 0 0:=tyField_mk Tryz.underlying354 rfl rfl Tryz.sizeOf352 (by decide)
instance : TyField Tryz.prog 354 1 1:=tyField_mk Tryz.underlying354 rfl rfl Tryz.sizeOf45 (by decide)
instance : TyField Tryz.prog 354 2 2:=tyField_mk Tryz.underlying354 rfl rfl Tryz.sizeOf3 (by decide)
instance : TyField Tryz.prog 354 3 3:=tyField_mk Tryz.underlying354 rfl rfl Tryz.sizeOf35 (by decide)
instance : TyField Tryz.prog 354 4 4:=tyField_mk Tryz.underlying354 rfl rfl Tryz.sizeOf4 (by decide)
instance : TyStruct Tryz.prog 354 [.slice none 0 0,.slice none 0 0,.int .i64 0,.int .i64 0,.bool false] [(0,1),(1,1),(2,1),(3,1),(4,1)]:=⟨fun ps w=>by simp [Instr.build,Value.cells];generalize Instr.fill _ _ _=z;cases z<;>rfl⟩
instance : TyOne Tryz.prog 355:=⟨Tryz.isAgg355,Tryz.sizeOf355⟩
instance : TyZero Tryz.prog 355 (.pointer none):=⟨Tryz.zeroValue355⟩
instance : TyField Tryz.prog 357 0 0:=tyField_mk Tryz.underlying357 rfl rfl Tryz.sizeOf308 (by decide)
instance : TyField Tryz.prog 357 1 1:=tyField_mk Tryz.underlying357 rfl rfl Tryz.sizeOf79 (by decide)
instance : TyField Tryz.prog 357 2 4:=tyField_mk Tryz.underlying357 rfl rfl Tryz.sizeOf4 (by decide)
instance : TyStruct Tryz.prog 357 [.pointer none,.int .u32 0,.int .u32 0,.int .u32 0,.bool false] [(0,1),(1,3),(4,1)]:=⟨fun ps w=>by simp [Instr.build,Value.cells];generalize Instr.fill _ _ _=z;cases z<;>rfl⟩
instance : TyOne Tryz.prog 361:=⟨Tryz.isAgg361,Tryz.sizeOf361⟩
instance : TyZero Tryz.prog 361 (.slice none 0 0):=⟨Tryz.zeroValue361⟩
instance : TyUnder Tryz.prog 361 (.slice 289):=⟨Tryz.underlying361⟩
instance : TyUnder Tryz.prog 364 (.map 22 3):=⟨Tryz.underlying364⟩
instance : TyOne Tryz.prog 369:=⟨Tryz.isAgg369,Tryz.sizeOf369⟩
instance : TyUnder Tryz.prog 369 (.slice 374):=⟨Tryz.underlying369⟩
instance : TyZero Tryz.prog 371 (.agg #[.slice none 0 0]):=⟨Tryz.zeroValue371⟩
instance : TyField Tryz.prog 371 0 0:=tyField_mk Tryz.underlying371 rfl rfl Tryz.sizeOf369 (by decide)
instance : TyAgg Tryz.prog 374 3:=⟨Tryz.isAgg374,Tryz.sizeOf374⟩
instance : TyZero Tryz.prog 374 (.agg #[.int .u64 0,.int .u64 0,.pointer none]):=⟨Tryz.zeroValue374⟩
instance : TyConc Tryz.prog 374:=⟨fun x w=>by simp [Instr.makeInterface]⟩
instance : TyField Tryz.prog 374 0 0:=tyField_mk Tryz.underlying374 rfl rfl Tryz.sizeOf293 (by decide)
instance : TyField Tryz.prog 374 1 2:=tyField_mk Tryz.underlying374 rfl rfl Tryz.sizeOf308 (by decide)
instance : TyStruct Tryz.prog 374 [.int .u64 0,.int .u64 0,.pointer none] [(0,2),(2,1)]:=⟨fun ps w=>by simp [Instr.build,Value.cells];generalize Instr.fill _ _ _=z;cases z<;>rfl⟩
instance : TyUnder Tryz.prog 376 (.pointer 293):=⟨Tryz.underlying376⟩
instance : TyOne Tryz.prog 385:=⟨Tryz.isAgg385,Tryz.sizeOf385⟩
instance : TyUnder Tryz.prog 385 (.slice 390):=⟨Tryz.underlying385⟩
instance : TyZero Tryz.prog 387 (.agg #[.slice none 0 0]):=⟨Tryz.zeroValue387⟩
instance : TyField Tryz.prog 387 0 0:=tyField_mk Tryz.underlying387 rfl rfl Tryz.sizeOf385 (by decide)
instance : TyAgg Tryz.prog 390 3:=⟨Tryz.isAgg390,Tryz.sizeOf390⟩
instance : TyZero Tryz.prog 390 (.agg #[.int .u64 0,.int .u64 0,.int .i64 0]):=⟨Tryz.zeroValue390⟩
instance : TyConc Tryz.prog 390:=⟨fun x w=>by simp [Instr.makeInterface]⟩
instance : TyField Tryz.prog 390 0 0:=tyField_mk Tryz.underlying390 rfl rfl Tryz.sizeOf293 (by decide)
instance : TyField Tryz.prog 390 1 2:=tyField_mk Tryz.underlying390 rfl rfl Tryz.sizeOf3 (by decide)
instance : TyStruct Tryz.prog 390 [.int .u64 0,.int .u64 0,.int .i64 0] [(0,2),(2,1)]:=⟨fun ps w=>by simp [Instr.build,Value.cells];generalize Instr.fill _ _ _=z;cases z<;>rfl⟩
instance : TyAgg Tryz.prog 398 2:=⟨Tryz.isAgg398,Tryz.sizeOf398⟩
instance : TyZero Tryz.prog 398 (.agg #[.int .i64 0,.slice none 0 0]):=⟨Tryz.zeroValue398⟩
instance : TyField Tryz.prog 398 0 0:=tyField_mk Tryz.underlying398 rfl rfl Tryz.sizeOf3 (by decide)
instance : TyField Tryz.prog 398 1 1:=tyField_mk Tryz.underlying398 rfl rfl Tryz.sizeOf289 (by decide)
instance : TyStruct Tryz.prog 398 [.int .i64 0,.slice none 0 0] [(0,1),(1,1)]:=⟨fun ps w=>by simp [Instr.build,Value.cells];generalize Instr.fill _ _ _=z;cases z<;>rfl⟩
instance : TyCall Tryz.prog 6:=⟨Tryz.call6⟩
instance : TyCall Tryz.prog 9:=⟨Tryz.call9⟩
instance : TyCall Tryz.prog 10:=⟨Tryz.call10⟩
instance : TyCall Tryz.prog 14:=⟨Tryz.call14⟩
instance : TyCall Tryz.prog 17:=⟨Tryz.call17⟩
instance : TyCall Tryz.prog 18:=⟨Tryz.call18⟩
instance : TyCall Tryz.prog 19:=⟨Tryz.call19⟩
instance : TyCall Tryz.prog 20:=⟨Tryz.call20⟩
instance : TyCall Tryz.prog 22:=⟨Tryz.call22⟩
instance : TyCall Tryz.prog 27:=⟨Tryz.call27⟩
instance : TyCall Tryz.prog 29:=⟨Tryz.call29⟩
instance : TyCall Tryz.prog 30:=⟨Tryz.call30⟩
instance : TyCall Tryz.prog 31:=⟨Tryz.call31⟩
instance : TyCall Tryz.prog 32:=⟨Tryz.call32⟩
instance : TyCall Tryz.prog 33:=⟨Tryz.call33⟩
instance : TyCall Tryz.prog 34:=⟨Tryz.call34⟩
instance : TyCall Tryz.prog 35:=⟨Tryz.call35⟩
instance : TyCall Tryz.prog 36:=⟨Tryz.call36⟩
instance : TyCall Tryz.prog 37:=⟨Tryz.call37⟩
instance : TyCall Tryz.prog 38:=⟨Tryz.call38⟩
instance : TyCall Tryz.prog 52:=⟨Tryz.call52⟩
instance : TyCall Tryz.prog 53:=⟨Tryz.call53⟩
instance : TyCall Tryz.prog 54:=⟨Tryz.call54⟩
instance : TyCall Tryz.prog 56:=⟨Tryz.call56⟩
instance : TyCall Tryz.prog 57:=⟨Tryz.call57⟩
instance : TyCall Tryz.prog 58:=⟨Tryz.call58⟩
instance : TyCall Tryz.prog 59:=⟨Tryz.call59⟩
instance : TyCall Tryz.prog 60:=⟨Tryz.call60⟩
instance : TyCall Tryz.prog 61:=⟨Tryz.call61⟩
instance : TyCall Tryz.prog 70:=⟨Tryz.call70⟩
instance : TyCall Tryz.prog 71:=⟨Tryz.call71⟩
instance : TyCall Tryz.prog 72:=⟨Tryz.call72⟩
instance : TyCall Tryz.prog 73:=⟨Tryz.call73⟩
instance : TyCall Tryz.prog 74:=⟨Tryz.call74⟩
instance : TyCall Tryz.prog 75:=⟨Tryz.call75⟩
instance : TyCall Tryz.prog 76:=⟨Tryz.call76⟩
instance : TyCall Tryz.prog 79:=⟨Tryz.call79⟩
instance : TyCall Tryz.prog 80:=⟨Tryz.call80⟩
instance : TyCall Tryz.prog 81:=⟨Tryz.call81⟩
instance : TyCall Tryz.prog 82:=⟨Tryz.call82⟩
instance : TyCall Tryz.prog 83:=⟨Tryz.call83⟩
instance : TyCall Tryz.prog 84:=⟨Tryz.call84⟩
instance : TyCall Tryz.prog 85:=⟨Tryz.call85⟩
instance : TyCall Tryz.prog 86:=⟨Tryz.call86⟩
instance : TyCall Tryz.prog 87:=⟨Tryz.call87⟩
instance : TyCall Tryz.prog 88:=⟨Tryz.call88⟩
instance : TyCall Tryz.prog 100:=⟨Tryz.call100⟩
instance : TyCall Tryz.prog 101:=⟨Tryz.call101⟩
instance : TyCall Tryz.prog 102:=⟨Tryz.call102⟩
instance : TyCall Tryz.prog 103:=⟨Tryz.call103⟩
instance : TyCall Tryz.prog 104:=⟨Tryz.call104⟩
instance : TyCall Tryz.prog 105:=⟨Tryz.call105⟩
instance : TyCall Tryz.prog 106:=⟨Tryz.call106⟩
instance : TyCall Tryz.prog 107:=⟨Tryz.call107⟩
instance : TyCall Tryz.prog 108:=⟨Tryz.call108⟩
instance : TyCall Tryz.prog 116:=⟨Tryz.call116⟩
instance : TyCall Tryz.prog 117:=⟨Tryz.call117⟩
instance : TyCall Tryz.prog 119:=⟨Tryz.call119⟩
instance : TyCall Tryz.prog 123:=⟨Tryz.call123⟩
instance : TyCall Tryz.prog 127:=⟨Tryz.call127⟩
instance : TyCall Tryz.prog 128:=⟨Tryz.call128⟩
instance : TyCall Tryz.prog 129:=⟨Tryz.call129⟩
instance : TyCall Tryz.prog 130:=⟨Tryz.call130⟩
instance : TyCall Tryz.prog 131:=⟨Tryz.call131⟩
instance : TyCall Tryz.prog 135:=⟨Tryz.call135⟩
instance : TyCall Tryz.prog 141:=⟨Tryz.call141⟩
instance : TyCall Tryz.prog 142:=⟨Tryz.call142⟩
instance : TyCall Tryz.prog 143:=⟨Tryz.call143⟩
instance : TyCall Tryz.prog 144:=⟨Tryz.call144⟩
instance : TyCall Tryz.prog 149:=⟨Tryz.call149⟩
instance : TyCall Tryz.prog 150:=⟨Tryz.call150⟩
instance : TyCall Tryz.prog 151:=⟨Tryz.call151⟩
instance : TyCall Tryz.prog 169:=⟨Tryz.call169⟩
instance : TyCall Tryz.prog 175:=⟨Tryz.call175⟩
instance : TyCall Tryz.prog 176:=⟨Tryz.call176⟩
instance : TyCall Tryz.prog 177:=⟨Tryz.call177⟩
instance : TyCall Tryz.prog 178:=⟨Tryz.call178⟩
instance : TyCall Tryz.prog 179:=⟨Tryz.call179⟩
instance : TyCall Tryz.prog 180:=⟨Tryz.call180⟩
instance : TyCall Tryz.prog 181:=⟨Tryz.call181⟩
instance : TyCall Tryz.prog 182:=⟨Tryz.call182⟩
instance : TyCall Tryz.prog 183:=⟨Tryz.call183⟩
instance : TyCall Tryz.prog 184:=⟨Tryz.call184⟩
instance : TyCall Tryz.prog 185:=⟨Tryz.call185⟩
instance : TyCall Tryz.prog 186:=⟨Tryz.call186⟩
instance : TyCall Tryz.prog 187:=⟨Tryz.call187⟩
instance : TyCall Tryz.prog 188:=⟨Tryz.call188⟩
instance : TyCall Tryz.prog 189:=⟨Tryz.call189⟩
instance : TyCall Tryz.prog 190:=⟨Tryz.call190⟩
instance : TyCall Tryz.prog 191:=⟨Tryz.call191⟩
instance : TyCall Tryz.prog 192:=⟨Tryz.call192⟩
instance : TyCall Tryz.prog 193:=⟨Tryz.call193⟩
instance : TyCall Tryz.prog 194:=⟨Tryz.call194⟩
instance : TyCall Tryz.prog 195:=⟨Tryz.call195⟩
instance : TyCall Tryz.prog 196:=⟨Tryz.call196⟩
instance : TyCall Tryz.prog 197:=⟨Tryz.call197⟩
instance : TyCall Tryz.prog 198:=⟨Tryz.call198⟩
instance : TyCall Tryz.prog 199:=⟨Tryz.call199⟩
instance : TyCall Tryz.prog 200:=⟨Tryz.call200⟩
instance : TyCall Tryz.prog 201:=⟨Tryz.call201⟩
instance : TyCall Tryz.prog 202:=⟨Tryz.call202⟩
instance : TyCall Tryz.prog 203:=⟨Tryz.call203⟩
instance : TyCall Tryz.prog 204:=⟨Tryz.call204⟩
instance : TyCall Tryz.prog 205:=⟨Tryz.call205⟩
instance : TyCall Tryz.prog 206:=⟨Tryz.call206⟩
instance : TyCall Tryz.prog 207:=⟨Tryz.call207⟩
instance : TyCall Tryz.prog 208:=⟨Tryz.call208⟩
instance : TyCall Tryz.prog 209:=⟨Tryz.call209⟩
instance : TyCall Tryz.prog 210:=⟨Tryz.call210⟩
instance : TyCall Tryz.prog 211:=⟨Tryz.call211⟩
instance : TyCall Tryz.prog 212:=⟨Tryz.call212⟩
instance : TyCall Tryz.prog 213:=⟨Tryz.call213⟩
instance : TyCall Tryz.prog 214:=⟨Tryz.call214⟩
instance : TyCall Tryz.prog 215:=⟨Tryz.call215⟩
instance : TyCall Tryz.prog 216:=⟨Tryz.call216⟩
instance : TyCall Tryz.prog 217:=⟨Tryz.call217⟩
instance : TyCall Tryz.prog 218:=⟨Tryz.call218⟩
instance : TyCall Tryz.prog 219:=⟨Tryz.call219⟩
instance : TyCall Tryz.prog 220:=⟨Tryz.call220⟩
instance : TyCall Tryz.prog 221:=⟨Tryz.call221⟩
instance : TyCall Tryz.prog 222:=⟨Tryz.call222⟩
instance : TyCall Tryz.prog 223:=⟨Tryz.call223⟩
instance : TyCall Tryz.prog 224:=⟨Tryz.call224⟩
instance : TyCall Tryz.prog 225:=⟨Tryz.call225⟩
instance : TyCall Tryz.prog 226:=⟨Tryz.call226⟩
instance : TyCall Tryz.prog 227:=⟨Tryz.call227⟩
instance : TyCall Tryz.prog 228:=⟨Tryz.call228⟩
instance : TyCall Tryz.prog 229:=⟨Tryz.call229⟩
instance : TyCall Tryz.prog 230:=⟨Tryz.call230⟩
instance : TyCall Tryz.prog 231:=⟨Tryz.call231⟩
instance : TyCall Tryz.prog 232:=⟨Tryz.call232⟩
instance : TyCall Tryz.prog 233:=⟨Tryz.call233⟩
instance : TyCall Tryz.prog 234:=⟨Tryz.call234⟩
instance : TyCall Tryz.prog 235:=⟨Tryz.call235⟩
instance : TyCall Tryz.prog 236:=⟨Tryz.call236⟩
instance : TyCall Tryz.prog 237:=⟨Tryz.call237⟩
instance : TyCall Tryz.prog 238:=⟨Tryz.call238⟩
instance : TyCall Tryz.prog 239:=⟨Tryz.call239⟩
instance : TyCall Tryz.prog 240:=⟨Tryz.call240⟩
instance : TyCall Tryz.prog 241:=⟨Tryz.call241⟩
instance : TyCall Tryz.prog 242:=⟨Tryz.call242⟩
instance : TyCall Tryz.prog 243:=⟨Tryz.call243⟩
instance : TyCall Tryz.prog 244:=⟨Tryz.call244⟩
instance : TyCall Tryz.prog 245:=⟨Tryz.call245⟩
instance : TyCall Tryz.prog 246:=⟨Tryz.call246⟩
instance : TyCall Tryz.prog 247:=⟨Tryz.call247⟩
instance : TyCall Tryz.prog 248:=⟨Tryz.call248⟩
instance : TyCall Tryz.prog 249:=⟨Tryz.call249⟩
instance : TyCall Tryz.prog 250:=⟨Tryz.call250⟩
instance : TyCall Tryz.prog 251:=⟨Tryz.call251⟩
instance : TyCall Tryz.prog 252:=⟨Tryz.call252⟩
instance : TyCall Tryz.prog 253:=⟨Tryz.call253⟩
instance : TyCall Tryz.prog 254:=⟨Tryz.call254⟩
instance : TyCall Tryz.prog 255:=⟨Tryz.call255⟩
instance : TyCall Tryz.prog 256:=⟨Tryz.call256⟩
instance : TyCall Tryz.prog 257:=⟨Tryz.call257⟩
instance : TyCall Tryz.prog 258:=⟨Tryz.call258⟩
instance : TyCall Tryz.prog 259:=⟨Tryz.call259⟩
instance : TyCall Tryz.prog 260:=⟨Tryz.call260⟩
instance : TyCall Tryz.prog 261:=⟨Tryz.call261⟩
instance : TyCall Tryz.prog 262:=⟨Tryz.call262⟩
instance : TyCall Tryz.prog 263:=⟨Tryz.call263⟩
instance : TyCall Tryz.prog 264:=⟨Tryz.call264⟩
instance : TyCall Tryz.prog 265:=⟨Tryz.call265⟩
instance : TyCall Tryz.prog 266:=⟨Tryz.call266⟩
instance : TyCall Tryz.prog 267:=⟨Tryz.call267⟩
instance : TyCall Tryz.prog 268:=⟨Tryz.call268⟩
instance : TyCall Tryz.prog 269:=⟨Tryz.call269⟩
instance : TyCall Tryz.prog 270:=⟨Tryz.call270⟩
instance : TyCall Tryz.prog 271:=⟨Tryz.call271⟩
instance : TyCall Tryz.prog 272:=⟨Tryz.call272⟩
instance : TyCall Tryz.prog 274:=⟨Tryz.call274⟩
instance : TyCall Tryz.prog 275:=⟨Tryz.call275⟩
instance : TyCall Tryz.prog 276:=⟨Tryz.call276⟩
instance : TyCall Tryz.prog 277:=⟨Tryz.call277⟩
instance : TyCall Tryz.prog 278:=⟨Tryz.call278⟩
instance : TyCall Tryz.prog 279:=⟨Tryz.call279⟩
instance : TyCall Tryz.prog 280:=⟨Tryz.call280⟩
instance : TyCall Tryz.prog 281:=⟨Tryz.call281⟩
instance : TyCall Tryz.prog 282:=⟨Tryz.call282⟩
instance : TyCall Tryz.prog 283:=⟨Tryz.call283⟩
instance : TyCall Tryz.prog 284:=⟨Tryz.call284⟩
instance : TyCall Tryz.prog 285:=⟨Tryz.call285⟩
instance : TyCall Tryz.prog 286:=⟨Tryz.call286⟩
instance : TyCall Tryz.prog 287:=⟨Tryz.call287⟩
instance : TyCall Tryz.prog 288:=⟨Tryz.call288⟩
instance : TyCall Tryz.prog 290:=⟨Tryz.call290⟩
instance : TyCall Tryz.prog 291:=⟨Tryz.call291⟩
instance : TyCall Tryz.prog 292:=⟨Tryz.call292⟩
instance : TyCall Tryz.prog 293:=⟨Tryz.call293⟩
instance : TyCall Tryz.prog 294:=⟨Tryz.call294⟩
instance : TyCall Tryz.prog 295:=⟨Tryz.call295⟩
instance : TyCall Tryz.prog 296:=⟨Tryz.call296⟩
instance : TyCall Tryz.prog 297:=⟨Tryz.call297⟩
instance : TyCall Tryz.prog 312:=⟨Tryz.call312⟩
instance : TyCall Tryz.prog 313:=⟨Tryz.call313⟩
instance : TyMeth Tryz.prog 374 "Before" 312 := ⟨fun v w => by kernel_rfl⟩
instance : TyMeth Tryz.prog 390 "Before" 313 := ⟨fun v w => by kernel_rfl⟩
structure Rc where
 key:Int
 val:Int
 deriving Inhabited,DecidableEq
def ltR (a b:Rc):Bool:=decide (a.key<b.key)||(a.key==b.key&&decide (a.val<b.val))
def leastI (xs:List Rc) (i:Nat):Int:=if xs.length≤2*i+1 then -1 else if 2*i+2<xs.length∧ltR xs[2*i+2]! xs[2*i+1]! = true then ((2*i+2:Nat):Int) else ((2*i+1:Nat):Int)
def siftUp (x:Rc) (xs:List Rc) (i:Nat):List Rc :=
 if h:0<i∧ltR x xs[(i-1) / 2]! = true then siftUp x (xs.set i xs[(i-1) / 2]!) ((i-1) / 2) else xs.set i x
termination_by i
decreasing_by omega
theorem siftUp_go {x:Rc} {xs:List Rc} {i:Nat} (h0:0<i) (h:ltR x xs[(i-1) / 2]! = true):siftUp x xs i=siftUp x (xs.set i xs[(i-1) / 2]!) ((i-1) / 2):=by
 rw [siftUp,dif_pos ⟨h0,h⟩]
theorem siftUp_stop {x:Rc} {xs:List Rc} {i:Nat} (h : ¬(0<i∧ltR x xs[(i-1) / 2]! = true)):siftUp x xs i=xs.set i x:=by
 rw [siftUp,dif_neg h]
def siftDown (x:Rc) (xs:List Rc) (i:Nat):List Rc :=
 if h:0≤leastI xs i∧ltR xs[(leastI xs i).toNat]! x=true then siftDown x (xs.set i xs[(leastI xs i).toNat]!) (leastI xs i).toNat else xs.set i x
termination_by xs.length-i
decreasing_by
 have:=h.1
 unfold leastI at this ⊢
 simp only [List.length_set]
 split at this
 · omega
 · rename_i h1
   rw [if_neg h1]
   split<;>omega
theorem leastI_lt {xs:List Rc} {i:Nat} (h:0≤leastI xs i):i<(leastI xs i).toNat∧(leastI xs i).toNat<xs.length:=by
 unfold leastI at h ⊢
 split at h
 · omega
 · rename_i h1
   rw [if_neg h1]
   split<;>omega
theorem siftDown_go {x:Rc} {xs:List Rc} {i:Nat} (h0:0≤leastI xs i) (h:ltR xs[(leastI xs i).toNat]! x=true):siftDown x xs i=siftDown x (xs.set i xs[(leastI xs i).toNat]!) (leastI xs i).toNat:=by
 rw [siftDown,dif_pos ⟨h0,h⟩]
theorem siftDown_stop {x:Rc} {xs:List Rc} {i:Nat} (h : ¬(0≤leastI xs i∧ltR xs[(leastI xs i).toNat]! x=true)):siftDown x xs i=xs.set i x:=by
 rw [siftDown,dif_neg h]
def popL (xs:List Rc):List Rc:=if xs.length≤1 then [] else siftDown xs[xs.length-1]! (xs.take (xs.length-1)) 0
def putDown (r:Rc) (ys:List Rc) (k:Nat):List Rc :=
 if 0<k∧ltR r ys[k-1]! = true then putDown r (ys.set k ys[k-1]!) (k-1) else ys.set k r
termination_by k
decreasing_by omega
theorem putDown_go {r:Rc} {ys:List Rc} {k:Nat} (h0:0<k) (h:ltR r ys[k-1]! = true):putDown r ys k=putDown r (ys.set k ys[k-1]!) (k-1):=by
 rw [putDown,if_pos ⟨h0,h⟩]
theorem putDown_stop {r:Rc} {ys:List Rc} {k:Nat} (h : ¬(0<k∧ltR r ys[k-1]! = true)):putDown r ys k=ys.set k r:=by
 rw [putDown,if_neg h]
def putL (xs:List Rc) (r:Rc):List Rc:=putDown r (xs++[r]) xs.length
theorem ltR_iff {a b:Rc}:ltR a b=true↔a.key<b.key∨(a.key=b.key∧a.val<b.val):=by simp [ltR]
theorem ltR_asymm {a b:Rc} (h:ltR a b=true):ltR b a=false:=by
 cases h2:ltR b a with
 | false=>rfl
 | true=>rw [ltR_iff] at h h2;omega
theorem ltR_trans {a b c:Rc} (h:ltR a b=true) (h2:ltR b c=true):ltR a c=true:=by
 rw [ltR_iff] at *; omega
theorem geR_trans {a b c:Rc} (h:ltR a b=false) (h2:ltR b c=false):ltR a c=false:=by
 cases h3:ltR a c with
 | false=>rfl
 | true =>
  rw [←Bool.not_eq_true,ltR_iff] at h h2
  rw [ltR_iff] at h3
  omega
theorem geR_lt {a b c:Rc} (h:ltR a c=false) (h2:ltR b c=true):ltR a b=false:=by
 cases h3:ltR a b with
 | false=>rfl
 | true=>rw [ltR_trans h3 h2] at h;cases h
theorem geR_antisymm {a b:Rc} (h:ltR a b=false) (h2:ltR b a=false):a=b:=by
 rw [←Bool.not_eq_true,ltR_iff] at h h2
 cases a;cases b
 simp only [Rc.mk.injEq] at *
 omega
theorem ltR_irrefl (a:Rc):ltR a a=false:=by
 cases h:ltR a a with
 | false=>rfl
 | true=>rw [ltR_iff] at h;omega
theorem get_set (l:List Rc) (i j:Nat) (x:Rc):(l.set i x)[j]! = if i=j∧j<l.length then x else l[j]! := by
 by_cases hj:j<l.length
 · rw [getElem!_pos _ j (by simpa using hj),List.getElem_set,getElem!_pos l j hj]
   by_cases hij:i=j<;>simp [hij,hj]
 · rw [getElem!_neg _ j (by simpa using hj),if_neg (fun h=>hj h.2),getElem!_neg l j hj]
theorem perm_swap (l:List Rc) (i p:Nat) (x:Rc) (hi:i<l.length) (hp:p<l.length) (hne:i≠p):((l.set i l[p]!).set p x).Perm (l.set i x):=by
 rw [List.perm_iff_count]
 intro a
 have h1:(l.set i l[p]!)[p]! = l[p]! := by rw [get_set,if_neg (fun h=>hne h.1)]
 have hc:∀(m:List Rc) (j:Nat) (y:Rc),j<m.length→(m.set j y).count a+(if m[j]! = a then 1 else 0)=m.count a+(if y=a then 1 else 0):=by
  intro m j y hj
  induction m generalizing j with
  | nil=>simp at hj
  | cons z m ih =>
   cases j with
   | zero =>
    simp only [List.set_cons_zero,List.count_cons]
    have hz:(z::m)[0]! = z:=rfl
    rw [hz]
    simp only [beq_iff_eq]
    omega
   | succ j =>
    simp only [List.set_cons_succ,List.count_cons]
    have:=ih j (by simpa using hj)
    have hz:(z::m)[j+1]! = m[j]! := by simp
    rw [hz]
    omega
 have e1:=hc (l.set i l[p]!) p x (by simpa using hp)
 have e2:=hc l i l[p]! hi
 have e3:=hc l i x hi
 rw [h1] at e1
 omega
theorem siftUp_length (x:Rc):∀(i:Nat) (ys:List Rc),(siftUp x ys i).length=ys.length:=by
 intro i
 induction i using Nat.strongRecOn with
 | _ i ih =>
  intro ys
  by_cases h:0<i∧ltR x ys[(i-1) / 2]! = true
  · rw [siftUp_go h.1 h.2,ih _ (by omega)];simp
  · rw [siftUp_stop h];simp
theorem siftUp_perm (x:Rc):∀(i:Nat) (ys:List Rc),i<ys.length→(siftUp x ys i).Perm (ys.set i x):=by
 intro i
 induction i using Nat.strongRecOn with
 | _ i ih =>
  intro ys hi
  by_cases h:0<i∧ltR x ys[(i-1) / 2]! = true
  · rw [siftUp_go h.1 h.2]
    exact (ih _ (by omega) _ (by simp;omega)).trans (perm_swap ys i ((i-1) / 2) x hi (by omega) (by omega))
  · rw [siftUp_stop h]
def HeapOK (xs:List Rc):Prop:=∀j,0<j→j<xs.length→ltR xs[j]! xs[(j-1) / 2]! = false
theorem siftUp_ok (x:Rc):∀(i:Nat) (ys:List Rc),i<ys.length →
 (∀j,0<j→j<ys.length→j≠i→ltR (ys.set i x)[j]! (ys.set i x)[(j-1) / 2]! = false) →
 (∀j,0<j→j<ys.length→(j-1) / 2=i→0<i→ltR (ys.set i x)[j]! (ys.set i x)[(i-1) / 2]! = false)→HeapOK (siftUp x ys i):=by
 intro i
 induction i using Nat.strongRecOn with
 | _ i ih =>
  intro ys hi h1 h2
  by_cases h:0<i∧ltR x ys[(i-1) / 2]! = true
  · rw [siftUp_go h.1 h.2]
    obtain ⟨h0,hx⟩:=h
    have hp:(i-1) / 2<ys.length:=by omega
    have hpi:(i-1) / 2<i:=by omega
    generalize hP:ys[(i-1) / 2]! = Q at hx
    have hi0:(ys.set i x)[i]! = x:=by rw [get_set,if_pos ⟨rfl,hi⟩]
    have hne:∀j,j≠i→(ys.set i x)[j]! = ys[j]! := fun j hj=>by rw [get_set,if_neg (fun h=>hj h.1.symm)]
    have zi:∀j,j<ys.length→((ys.set i Q).set ((i-1) / 2) x)[j]! = if j=(i-1) / 2 then x else if j=i then Q else ys[j]! := fun j hj=>by
     rw [get_set,get_set,List.length_set]
     by_cases a:j=(i-1) / 2
     · rw [if_pos ⟨a.symm,hj⟩,if_pos a]
     · rw [if_neg (fun h=>a h.1.symm),if_neg a]
       by_cases b:j=i
       · rw [if_pos ⟨b.symm,hj⟩,if_pos b]
       · rw [if_neg (fun h=>b h.1.symm),if_neg b]
    refine ih _ hpi _ (by simpa using hp) ?_ ?_
    · intro j hj0 hj hjp
      rw [List.length_set] at hj
      rw [zi j hj,zi ((j-1) / 2) (by omega),if_neg hjp]
      by_cases a:j=i
      · subst a
        rw [if_pos rfl,if_pos rfl]
        exact ltR_asymm hx
      · rw [if_neg a]
        have hj1:=h1 j hj0 hj a
        rw [hne j a] at hj1
        by_cases b:(j-1) / 2=(i-1) / 2
        · rw [if_pos b]
          rw [hne _ (by omega),b,hP] at hj1
          exact geR_lt hj1 hx
        · rw [if_neg b]
          by_cases c:(j-1) / 2=i
          · rw [if_pos c]
            have:=h2 j hj0 hj c h0
            rwa [hne j a,hne _ (by omega),hP] at this
          · rw [if_neg c]
            rwa [hne _ c] at hj1
    · intro j hj0 hj hjp hp0
      rw [List.length_set] at hj
      rw [zi j hj,zi (((i-1) / 2-1) / 2) (by omega),if_neg (show ¬j=(i-1) / 2 by omega),if_neg (show ¬((i-1) / 2-1) / 2=(i-1) / 2 by omega),if_neg (show ¬((i-1) / 2-1) / 2=i by omega)]
      have hq:=h1 ((i-1) / 2) hp0 hp (by omega)
      rw [hne _ (by omega),hne _ (by omega),hP] at hq
      by_cases a:j=i
      · rw [if_pos a];exact hq
      · rw [if_neg a]
        have hj1:=h1 j hj0 hj a
        rw [hne j a,hne _ (by omega),hjp,hP] at hj1
        exact geR_trans hj1 hq
  · rw [siftUp_stop h]
    intro j hj0 hj
    rw [List.length_set] at hj
    by_cases a:j=i
    · subst a
      rw [get_set,if_pos ⟨rfl,hj⟩,get_set,if_neg (by omega)]
      cases hq:ltR x ys[(j-1) / 2]! with
      | false=>rfl
      | true=>exact (h ⟨hj0,hq⟩).elim
    · exact h1 j hj0 hj a
theorem get_app (xs:List Rc) (x:Rc) (j:Nat) (hj:j<xs.length):(xs++[x])[j]! = xs[j]! := by
 rw [getElem!_pos _ j (by simp;omega),getElem!_pos xs j hj,List.getElem_append_left hj]
theorem set_app (xs:List Rc) (x y:Rc):(xs++[x]).set xs.length y=xs++[y]:=by
 rw [List.set_append_right _ _ (Nat.le_refl _)];simp
theorem push_perm (xs:List Rc) (x:Rc):(siftUp x (xs++[x]) xs.length).Perm (x::xs):=by
 have:=siftUp_perm x xs.length (xs++[x]) (by simp)
 rw [set_app] at this
 exact this.trans (List.perm_append_comm (l₁:=xs) (l₂:=[x]))
theorem push_ok {xs:List Rc} (h:HeapOK xs) (x:Rc):HeapOK (siftUp x (xs++[x]) xs.length):=by
 refine siftUp_ok x _ _ (by simp) ?_ ?_
 · intro j hj0 hj hne
   rw [set_app]
   have hj':j<xs.length:=by simp at hj;omega
   rw [get_app xs x j hj',get_app xs x _ (by omega)]
   exact h j hj0 hj'
 · intro j hj0 hj hp hi
   simp at hj
   omega
theorem siftDown_perm (x:Rc):∀(d i:Nat) (ys:List Rc),ys.length-i=d→i<ys.length→(siftDown x ys i).Perm (ys.set i x):=by
 intro d
 induction d using Nat.strongRecOn with
 | _ d ih =>
  intro i ys hd hi
  by_cases h:0≤leastI ys i∧ltR ys[(leastI ys i).toNat]! x=true
  · rw [siftDown_go h.1 h.2]
    obtain ⟨h1,h2⟩:=leastI_lt h.1
    exact (ih _ (by simp;omega) _ _ rfl (by simpa using h2)).trans (perm_swap ys i _ x hi h2 (by omega))
  · rw [siftDown_stop h]
theorem leastI_spec {ys:List Rc} {i k:Nat} (h:leastI ys i=(k:Int)):(k-1) / 2=i∧0<k∧k<ys.length∧∀j,0<j→j<ys.length→(j-1) / 2=i→ltR ys[j]! ys[k]! = false:=by
 unfold leastI at h
 split at h
 · omega
 · rename_i h1
   split at h
   · rename_i h2
     have hk:k=2*i+2:=by omega
     subst hk
     refine ⟨by omega,by omega,h2.1,fun j hj0 hj hp=>?_⟩
     have:j=2*i+1∨j=2*i+2:=by omega
     rcases this with rfl | rfl
     · exact ltR_asymm h2.2
     · exact ltR_irrefl _
   · rename_i h2
     have hk:k=2*i+1:=by omega
     subst hk
     refine ⟨by omega,by omega,by omega,fun j hj0 hj hp=>?_⟩
     have:j=2*i+1∨j=2*i+2:=by omega
     rcases this with rfl | rfl
     · exact ltR_irrefl _
     · cases hq:ltR ys[2*i+2]! ys[2*i+1]! with
       | false=>rfl
       | true=>exact (h2 ⟨hj,hq⟩).elim
theorem leastI_neg {ys:List Rc} {i:Nat} (h : ¬0≤leastI ys i):ys.length≤2*i+1:=by
 unfold leastI at h
 split at h
 · assumption
 · split at h<;>omega
theorem siftDown_ok (x:Rc):∀(d i:Nat) (ys:List Rc),ys.length-i=d→i<ys.length →
 (∀j,0<j→j<ys.length→(j-1) / 2≠i→ltR (ys.set i x)[j]! (ys.set i x)[(j-1) / 2]! = false) →
 (∀j,0<j→j<ys.length→(j-1) / 2=i→0<i→ltR (ys.set i x)[j]! (ys.set i x)[(i-1) / 2]! = false)→HeapOK (siftDown x ys i):=by
 intro d
 induction d using Nat.strongRecOn with
 | _ d ih =>
  intro i ys hd hi h1 h2
  have hi0:(ys.set i x)[i]! = x:=by rw [get_set,if_pos ⟨rfl,hi⟩]
  have hne:∀j,j≠i→(ys.set i x)[j]! = ys[j]! := fun j hj=>by rw [get_set,if_neg (fun h=>hj h.1.symm)]
  by_cases h:0≤leastI ys i∧ltR ys[(leastI ys i).toNat]! x=true
  · rw [siftDown_go h.1 h.2]
    obtain ⟨h0,hx⟩:=h
    obtain ⟨k,hk⟩:=Int.eq_ofNat_of_zero_le h0
    rw [hk,Int.toNat_natCast] at hx ⊢
    obtain ⟨k1,k2,k3,k4⟩:=leastI_spec hk
    generalize hP:ys[k]! = Q at hx k4
    have zi:∀j,j<ys.length→((ys.set i Q).set k x)[j]! = if j=k then x else if j=i then Q else ys[j]! := fun j hj=>by
     rw [get_set,get_set,List.length_set]
     by_cases a:j=k
     · rw [if_pos ⟨a.symm,hj⟩,if_pos a]
     · rw [if_neg (fun h=>a h.1.symm),if_neg a]
       by_cases b:j=i
       · rw [if_pos ⟨b.symm,hj⟩,if_pos b]
       · rw [if_neg (fun h=>b h.1.symm),if_neg b]
    refine ih _ (by simp;omega) k _ rfl (by simpa using k3) ?_ ?_
    · intro j hj0 hj hjp
      rw [List.length_set] at hj
      rw [zi j hj,zi ((j-1) / 2) (by omega),if_neg hjp]
      by_cases a:j=k
      · subst a
        rw [if_pos rfl,if_pos k1]
        exact ltR_asymm hx
      · rw [if_neg a]
        by_cases b:(j-1) / 2=i
        · rw [if_pos b,if_neg (by omega)]
          exact k4 j hj0 hj b
        · rw [if_neg b]
          have hj1:=h1 j hj0 hj b
          rw [hne _ b] at hj1
          by_cases c:j=i
          · subst c
            rw [if_pos rfl]
            have:=h2 k k2 k3 k1 hj0
            rwa [hne k (by omega),hne _ b,hP] at this
          · rw [if_neg c]
            rwa [hne j c] at hj1
    · intro j hj0 hj hjp hk0
      rw [List.length_set] at hj
      rw [zi j hj,zi _ (by omega),if_neg (by omega),if_neg (by omega),if_neg (by omega),if_pos k1]
      have:=h1 j hj0 hj (by omega)
      rwa [hne j (by omega),hjp,hne k (by omega),hP] at this
  · rw [siftDown_stop h]
    intro j hj0 hj
    rw [List.length_set] at hj
    by_cases a:(j-1) / 2=i
    · rw [a,hi0,hne j (by omega)]
      by_cases h0:0≤leastI ys i
      · obtain ⟨k,hk⟩:=Int.eq_ofNat_of_zero_le h0
        obtain ⟨_,_,_,k4⟩:=leastI_spec hk
        have:=k4 j hj0 hj a
        refine geR_trans this ?_
        cases hq:ltR ys[k]! x with
        | false=>rfl
        | true=>exact (h ⟨h0,by rw [hk,Int.toNat_natCast];exact hq⟩).elim
      · have:=leastI_neg h0
        omega
    · exact h1 j hj0 hj a
theorem get_take (xs:List Rc) (n j:Nat) (hj:j<n) (hn:n≤xs.length):(xs.take n)[j]! = xs[j]! := by
 rw [getElem!_pos _ j (by simp;omega),getElem!_pos xs j (by omega),List.getElem_take]
theorem pop_perm (xs:List Rc) (h0:0<xs.length):xs.Perm (xs[0]! :: popL xs):=by
 unfold popL
 by_cases h1:xs.length≤1
 · rw [if_pos h1]
   have:xs=[xs[0]!]:=by
    rcases xs with _ | ⟨a,_ | ⟨b,l⟩⟩
    · simp at h0
    · rfl
    · simp at h1
   rw [←this]
 · rw [if_neg h1]
   have hl:(xs.take (xs.length-1)).length=xs.length-1:=by simp
   have hp:=siftDown_perm xs[xs.length-1]! _ 0 (xs.take (xs.length-1)) rfl (by omega)
   have e1:xs=xs.take (xs.length-1)++[xs[xs.length-1]!]:=by
    conv=>lhs;rw [←List.take_append_drop (xs.length-1) xs]
    congr 1
    rw [List.drop_eq_getElem_cons (by omega),getElem!_pos xs _ (by omega),List.drop_eq_nil_of_le (by omega)]
   have e2:(xs.take (xs.length-1)).set 0 xs[xs.length-1]! = xs[xs.length-1]! :: (xs.take (xs.length-1)).drop 1:=by
    cases ht:xs.take (xs.length-1) with
    | nil=>rw [ht,List.length_nil] at hl;omega
    | cons a l=>rfl
   have e3:xs.take (xs.length-1)=xs[0]! :: (xs.take (xs.length-1)).drop 1:=by
    cases ht:xs.take (xs.length-1) with
    | nil=>rw [ht,List.length_nil] at hl;omega
    | cons a l =>
     have:(xs.take (xs.length-1))[0]! = xs[0]! := get_take xs _ 0 (by omega) (by omega)
     rw [ht] at this
     have h2:(a::l)[0]! = a:=rfl
     rw [h2] at this
     rw [this];rfl
   rw [e2] at hp
   have h4:xs.Perm (xs[0]! :: ((xs.take (xs.length-1)).drop 1++[xs[xs.length-1]!])):=by
    have h5:=List.Perm.refl xs
    rw [e1,e3] at h5
    rw [←List.cons_append,←e3]
    rw [←e1]
   exact h4.trans ((List.perm_append_comm.trans hp.symm).cons _)
theorem pop_ok {xs:List Rc} (h:HeapOK xs):HeapOK (popL xs):=by
 unfold popL
 by_cases h1:xs.length≤1
 · rw [if_pos h1];intro j hj0 hj;simp at hj
 · rw [if_neg h1]
   have hl:(xs.take (xs.length-1)).length=xs.length-1:=by simp
   refine siftDown_ok _ _ 0 _ rfl (by omega) ?_ ?_
   · intro j hj0 hj hp
     rw [hl] at hj
     rw [get_set,if_neg (by omega),get_set,if_neg (by omega),get_take xs _ _ hj (by omega),get_take xs _ _ (by omega) (by omega)]
     exact h j hj0 (by omega)
   · intro j hj0 hj hp hi;omega
theorem heap_first {xs:List Rc} (h:HeapOK xs):∀j,j<xs.length→ltR xs[j]! xs[0]! = false:=by
 intro j
 induction j using Nat.strongRecOn with
 | _ j ih =>
  intro hj
  by_cases h0:j=0
  · subst h0;exact ltR_irrefl _
  · exact geR_trans (h j (by omega) hj) (ih ((j-1) / 2) (by omega) (by omega))
theorem heap_le {xs:List Rc} (h:HeapOK xs) {a:Rc} (ha:a∈xs):ltR a xs[0]! = false:=by
 obtain ⟨j,hj,rfl⟩:=List.getElem_of_mem ha
 have:=heap_first h j hj
 rwa [getElem!_pos xs j hj] at this
def Rises (ys:List Rc):Prop:=ys.Pairwise fun a b=>ltR b a=false
theorem putDown_length (r:Rc):∀(k:Nat) (ys:List Rc),(putDown r ys k).length=ys.length:=by
 intro k
 induction k with
 | zero=>intro ys;rw [putDown_stop (by omega)];simp
 | succ k ih =>
  intro ys
  by_cases h:0<k+1∧ltR r ys[k+1-1]! = true
  · rw [putDown_go h.1 h.2];simp only [Nat.add_sub_cancel];rw [ih];simp
  · rw [putDown_stop h];simp
theorem putDown_perm (r:Rc):∀(k:Nat) (ys:List Rc),k<ys.length→(putDown r ys k).Perm (ys.set k r):=by
 intro k
 induction k with
 | zero=>intro ys _;rw [putDown_stop (by omega)]
 | succ k ih =>
  intro ys hk
  by_cases h:0<k+1∧ltR r ys[k+1-1]! = true
  · rw [putDown_go h.1 h.2]
    simp only [Nat.add_sub_cancel]
    exact (ih _ (by simp;omega)).trans (perm_swap ys (k+1) k r hk (by omega) (by omega))
  · rw [putDown_stop h]
theorem rises_iff {ys:List Rc}:Rises ys↔∀j,j+1<ys.length→ltR ys[j+1]! ys[j]! = false:=by
 constructor
 · intro h j hj
   have:=List.pairwise_iff_getElem.1 h j (j+1) (by omega) hj (by omega)
   rwa [getElem!_pos ys _ hj,getElem!_pos ys j (by omega)]
 · intro h
   refine List.pairwise_iff_getElem.2 fun i j hi hj hij=>?_
   obtain ⟨d,rfl⟩:∃d,j=i+d+1:=⟨j-i-1,by omega⟩
   induction d with
   | zero =>
    have:=h i hj
    rwa [getElem!_pos ys _ hj,getElem!_pos ys i hi] at this
   | succ d ih =>
    have h1:=ih (by omega) (by omega)
    have h2:=h (i+d+1) hj
    rw [getElem!_pos ys _ hj,getElem!_pos ys _ (by omega)] at h2
    exact geR_trans h2 h1
theorem putDown_rises (r:Rc):∀(k:Nat) (ys:List Rc),k<ys.length →
 (∀j,j+1<ys.length→j≠k→j+1≠k→ltR ys[j+1]! ys[j]! = false)→(k+1<ys.length→ltR ys[k+1]! r=false) →
 (0<k→k+1<ys.length→ltR ys[k+1]! ys[k-1]! = false)→Rises (putDown r ys k):=by
 intro k
 induction k with
 | zero =>
  intro ys hk h1 h2 _
  rw [putDown_stop (by omega),rises_iff]
  intro j hj
  rw [List.length_set] at hj
  rw [get_set,if_neg (by omega),get_set]
  by_cases a:0=j
  · subst a;rw [if_pos ⟨rfl,by omega⟩];exact h2 hj
  · rw [if_neg (fun h=>a h.1)];exact h1 j hj (by omega) (by omega)
 | succ k ih =>
  intro ys hk h1 h2 h3
  by_cases h:0<k+1∧ltR r ys[k+1-1]! = true
  · rw [putDown_go h.1 h.2]
    simp only [Nat.add_sub_cancel] at h ⊢
    have g:∀j,(ys.set (k+1) ys[k]!)[j]! = if k+1=j∧j<ys.length then ys[k]! else ys[j]! := fun j=>get_set _ _ _ _
    refine ih _ (by simp;omega) ?_ ?_ ?_
    · intro j hj a b
      rw [List.length_set] at hj
      rw [g,g,if_neg (fun h=>by omega)]
      by_cases c:k+1=j
      · subst c
        rw [if_pos ⟨rfl,by omega⟩]
        exact h3 (by omega) hj
      · rw [if_neg (fun h=>c h.1)];exact h1 j hj (by omega) (by omega)
    · intro hj
      rw [List.length_set] at hj
      rw [g,if_pos ⟨rfl,hj⟩]
      exact ltR_asymm h.2
    · intro hk0 hj
      rw [List.length_set] at hj
      rw [g,g,if_pos ⟨rfl,hj⟩,if_neg (fun h=>by omega)]
      have:=h1 (k-1) (by omega) (by omega) (by omega)
      rwa [show k-1+1=k by omega] at this
  · rw [putDown_stop h,rises_iff]
    intro j hj
    rw [List.length_set] at hj
    rw [get_set,get_set]
    by_cases a:k+1=j+1
    · have:k=j:=by omega
      subst this
      rw [if_pos ⟨rfl,hj⟩,if_neg (fun h=>by omega)]
      cases hq:ltR r ys[k]! with
      | false=>rfl
      | true=>exact (h ⟨by omega,by simpa using hq⟩).elim
    · rw [if_neg (fun h=>a h.1)]
      by_cases b:k+1=j
      · subst b
        rw [if_pos ⟨rfl,by omega⟩]
        exact h2 hj
      · rw [if_neg (fun h=>b h.1)];exact h1 j hj (by omega) (by omega)
theorem put_perm (xs:List Rc) (r:Rc):(putL xs r).Perm (r::xs):=by
 have:=putDown_perm r xs.length (xs++[r]) (by simp)
 rw [set_app] at this
 exact this.trans (List.perm_append_comm (l₁:=xs) (l₂:=[r]))
theorem put_rises {xs:List Rc} (h:Rises xs) (r:Rc):Rises (putL xs r):=by
 rw [rises_iff] at h
 refine putDown_rises r _ _ (by simp) ?_ (by simp) (by simp)
 intro j hj a b
 simp at hj
 rw [get_app xs r _ (by omega),get_app xs r _ (by omega)]
 exact h j (by omega)
def sortL (l:List Rc):List Rc:=l.foldl putL []
theorem sort_perm:∀(l acc:List Rc),(l.foldl putL acc).Perm (acc++l)
 | [],acc=>by simp
 | x::l,acc=>by
  have:=sort_perm l (putL acc x)
  refine this.trans ?_
  refine ((put_perm acc x).append_right l).trans ?_
  exact (List.perm_middle (a:=x) (l₁:=acc) (l₂:=l)).symm
theorem sort_rises:∀(l acc:List Rc),Rises acc→Rises (l.foldl putL acc)
 | [],acc,h=>h
 | x::l,acc,h=>sort_rises l _ (put_rises h x)
end Go.Proofs.YtkpiakgmkpbikaaGreatDoor
