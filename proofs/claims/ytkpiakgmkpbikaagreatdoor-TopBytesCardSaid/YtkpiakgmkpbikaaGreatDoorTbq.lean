/- Steps of the proof. -/
import Derived.Test.YtkpiakgmkpbikaaGreatDoorTbd
import Derived.Test.YtkpiakgmkpbikaaGreatDoorTi
import Derived.Lib.ConvBytes
import Derived.WideLaws
set_option linter.unusedVariables false
namespace Go.Proofs.YtkpiakgmkpbikaaGreatDoor
section
variable {P : Program} {n : Nf} {l : Env} {d : Option Tmp} {ty : TypeId} {pos : String} {af : Array Edge} {g : Option (Nat × Bool)}
theorem Pv.ixArr {t e k b off m:Nat} {x y:Operand} {i:Int} (j:Nat) [ht:TyUnder P t (.array m e)] [hs:TySize P e k] (hx:ev l x=some (.pointer (some ⟨b,off,none⟩))) (hy:ev l y=some (.int .i64 i)) (hij:i=(j:Int)) (hj:j<m) :
 Pv P n l ⟨d,.indexAddr t x y,ty,pos,af,g⟩ (.pointer (some ⟨b,off+j*k,none⟩)):=fun a w hf=>by
 subst hij
 have h2:((⟨b,off,none⟩:Addr).add (j*k))=⟨b,off+j*k,none⟩:=by unfold Addr.add;split<;>simp_all
 simp [execOp,Instr.indexAt,Instr.sureAddr,run_underlying ht.under,hf.ev hx,hf.ev hy,asIntOf,hs.size,hj,h2,Int.toNat_natCast]
end
theorem setL_at (z v:Value) (r:List Value):∀pre:List Value,setL (pre++z::r) pre.length v=some (pre++v::r)
 | []=>rfl
 | x::pre=>by
  show setL (x::(pre++z::r)) (pre.length+1) v=_
  rw [setL,setL_at z v r pre]
  rfl
def mixV (vs:List Value) (z:Value) (i:Nat):List Value:=vs.take i++List.replicate (vs.length-i) z
theorem mixV_set {vs:List Value} {z:Value} {i:Nat} (h:i<vs.length):setL (mixV vs z i) i vs[i]=some (mixV vs z (i+1)):=by
 unfold mixV
 obtain ⟨k,hk⟩:∃k,vs.length-i=k+1:=⟨vs.length-i-1,by omega⟩
 have hl:(vs.take i).length=i:=by rw [List.length_take];omega
 have:=setL_at z vs[i] (List.replicate k z) (vs.take i)
 rw [hl] at this
 rw [hk,List.replicate_succ,this,List.take_succ_eq_append_getElem h,lx,show vs.length-(i+1)=k by omega]
 rfl
def maVs (m:Ma):List Value:=(maN m).map fun x:Nat=>.int .u64 (x:Int)
theorem OkM.nums {m:Ma} (h:OkM m):∀x∈maN m,x<18446744073709551616:=by
 obtain ⟨hs1,hs2⟩:=h.seq
 have hn:=h.n
 obtain ⟨hsh1,hsh2⟩:=h.sh
 have hst:=h.start
 have hle : -1≤m.step∧m.step≤1099511627776:=by rcases h.how with ⟨e,_⟩ | ⟨_,e,_⟩<;>omega
 obtain ⟨hk0,hk5⟩:=h.kind
 intro x hx
 simp only [maN,List.mem_cons,List.not_mem_nil,or_false] at hx
 rcases hx with rfl | rfl | rfl | rfl | rfl | rfl<;>omega
theorem flatN_length (l:List Nat):(l.flatMap (leBytes 8)).length=8*l.length:=by
 induction l with
 | nil=>rfl
 | cons a l ih=>rw [List.flatMap_cons,ly,ih,leBytes_length,List.length_cons];omega
theorem getB_maT {m:Ma} (h:OkM m) {i:Nat} (hi:i<6):getB (maT m) (i*8) 8=(maN m)[i]! := by
 have hl:(maN m).length=6:=rfl
 have e:maT m=((maN m).take i).flatMap (leBytes 8)++(leBytes 8 (maN m)[i]! ++ ((maN m).drop (i+1)).flatMap (leBytes 8)):=by
  unfold maT
  conv=>lhs;rw [←List.take_append_drop i (maN m)]
  rw [List.flatMap_append,List.drop_eq_getElem_cons (by omega),List.flatMap_cons,getElem!_pos (maN m) i (by omega)]
 rw [e,getB_at (by rw [flatN_length,List.length_take];omega) (by simp),leNum_leBytes,Nat.mod_eq_of_lt]
 show _<18446744073709551616
 rw [getElem!_pos (maN m) i (by omega)]
 exact h.nums _ (List.getElem_mem _)
abbrev ma0:Ma:=⟨0,0,0,0,⟨0,0⟩⟩
set_option maxHeartbeats 4000000 in
theorem mdecode_spec {F:Fm} {v:Value} {m:Ma} (h:OkM m) (ha:Arg byteE F v (maB m)):Spec Tryz.prog 88 #[v] F [] fun v s=>v=.tuple #[maV m,.int .i64 0]:=by
 obtain ⟨p,c,rfl⟩:=ha.shape
 obtain ⟨hs1,hs2⟩:=h.seq
 have hn:=h.n
 obtain ⟨hsh1,hsh2⟩:=h.sh
 have hst:=h.start
 have hle : -1≤m.step∧m.step≤1099511627776:=by rcases h.how with ⟨e,_⟩ | ⟨_,e,_⟩<;>omega
 obtain ⟨hk0,hk5⟩:=h.kind
 have hd:decG (maB m)=(maT m,(maT m).length+6,0):=by
  have:=decG_encG (t:=maT m) (rest:=[]) (by rw [maT_length];omega)
  rwa [List.append_nil] at this
 have hL:(maVs m).length=6:=rfl
 refine Spec.of (n:=70) (vs:=[.slice p (maB m).length c]) Tryz.func88 rfl Tryz.ntmps88 rfl ?_
 refine sj [.e,.p] Z<|Rg.alloc Z Z Z Z (fun b2=>?_)
 refine aj Z<|nl<|sj [.p,.e,.p,.p,.p,.p,.p,.p,.p] Z<|mj Z<|Rg.callA Z Z Z (mz Z) (decode_spec (b:=maB m) (ha.mono fun b o h=>Or.inr h) (by rw [maB_length];omega)) ?_
 rintro v14 s14 ⟨u14,rfl,own14⟩
 rw [hd] at own14 ⊢
 dsimp only at own14 ⊢
 refine mj Z<|xj Z Z<|xj Z Z<|xj Z Z<|aj Z<|aj Z<|aj Z<|nl<|wj<|sj [.p,.p] Z<|mj Z<|uj Z (Pv.neq Z Z)<|nl<|cj Z (fun h19=>absurd h19 (by decide)) (fun h19=>?_)
 refine kj<|sj [.e] Z<|Rg.alloc Z Z Z Z (fun b7=>?_)
 refine nl<|wj<|sj [.p] Z<|mj Z<|nl<|bj ?_
 refine Vc.loop2 (fun (i:Nat) (cs:List Value)=>i≤6∧cs=mixV (maVs m) (.int .u64 0) i) (fun i cs=>[(0,.slice p (maB m).length c),(2,.pointer (some ⟨b2,0,none⟩)),(4,u14),(7,.pointer (some ⟨b7,0,none⟩)),(22,.int .i64 (i:Int))]) (fun i cs=>(b7,cellsO cs 187)::(b2,cellsO [.int .u64 0,.int .i64 0,.int .i64 0,.int .i64 0,.int .i64 0,.int .u32 0] 126)::s14) (fun i cs=>6-i) 0 [.int .u64 0,.int .u64 0,.int .u64 0,.int .u64 0,.int .u64 0,.int .u64 0] ⟨Nat.zero_le _,Z⟩ (.cons Z (.cons Z (.cons Z (.cons Z (.cons Z .nil))))) pulled ?_
 rintro i cs ⟨hi,rfl⟩
 refine sj [.p] Z<|uj Z (Pv.lss Z Z)<|nl<|wj<|cj Z (fun h23=>?_) (fun h23=>?_)
 · simp only [dt] at h23
   have hi6:i<6:=by omega
   refine kj<|wj<|bj<|sj [.p,.p] Z<|mj Z<|aj Z<|nl<|tj [.p,.p,.p,.p,.e,.p,.p,.p,.p,.e] Z<|mj Z<|mj Z<|mj Z<|uj Z (Pv.asI (i*8) (Pv.mul rfl rfl (by omega)) (by omega))<|Rg.callP Z Z Z (mz Z) (get_spec (Arg.own own14 frz_sb) (by rw [maT_length];omega) (i*8) 8 (by omega) (by omega) (by rw [maT_length];omega)) ?_
   rintro _ rfl
   rw [getB_maT h hi6]
   refine mj Z<|xj Z Z<|xj Z Z<|uj Z (Pv.ixArr i Z Z Z hi6)<|Rg.store Z Z Z Z Z Z (q:=mixV (maVs m) (.int .u64 0) (i+1)) (by
    rw [Nat.zero_add,Nat.mul_one]
    have:=mixV_set (vs:=maVs m) (z:=.int .u64 0) (i:=i) (by omega)
    rw [show (maVs m)[i]'(by omega)=.int .u64 (((maN m)[i]! : Nat):Int) by unfold maVs;rw [List.getElem_map,getElem!_pos (maN m) i hi6];rfl] at this
    exact this) rfl ?_
   refine nl<|dj<|tj [.p,.p] Z<|uj Z (Pv.asI (i+1) (Pv.add rfl rfl (by omega)) (by omega))<|mj Z<|nl ?_
   exact Vc.inv2 (i+1) _ ⟨⟨by omega,rfl⟩,by omega⟩ (.cons rfl (.cons rfl (.cons rfl (.cons rfl (.cons rfl .nil))))) pulled
 · simp only [df] at h23
   obtain rfl:i=6:=by omega
   rw [show mixV (maVs m) (.int .u64 0) 6=[.int .u64 (m.seq:Int),.int .u64 (m.n:Int),.int .u64 (m.sh:Int),.int .u64 (((m.step+1).toNat:Nat):Int),.int .u64 ((m.p.kind.toNat:Nat):Int),.int .u64 (m.p.start:Int)] from rfl]
   refine Vc.exit Z<|sj [.p,.r,.p,.r,.p,.p,.r,.p,.p,.r,.p,.p,.p,.r,.p,.p,.r,.p,.p,.p,.e,.e] Z<|uj Z (Pv.ixArr 0 rfl rfl rfl (by omega))<|lj Z Z<|uj Z (Pv.ixArr 1 rfl rfl rfl (by omega))<|lj Z Z<|uj Z (Pv.asI m.n (Pv.convI rfl) (i64_wrap (by omega)))<|uj Z (Pv.ixArr 2 rfl rfl rfl (by omega))<|lj Z Z<|uj Z (Pv.asI m.sh (Pv.convI rfl) (i64_wrap (by omega)))<|uj Z (Pv.ixArr 3 rfl rfl rfl (by omega))<|lj Z Z<|uj Z (Pv.asI (m.step+1).toNat (Pv.convI rfl) (i64_wrap (by omega)))<|uj Z (Pv.as (.int .i64 m.step) (Pv.sub rfl rfl (by omega)) (congrArg (Value.int .i64) (by omega)))<|uj Z (Pv.ixArr 4 rfl rfl rfl (by omega)) ?_
   refine lj Z Z<|uj Z (Pv.as (.int .i64 m.p.kind) (Pv.convI rfl) (congrArg (Value.int .i64) (by rw [i64_wrap (by omega)];omega)))<|uj Z (Pv.ixArr 5 rfl rfl rfl (by omega))<|lj Z Z<|uj Z (Pv.asI m.p.start (Pv.convI rfl) (wrap_ult rfl (by show _<2 ^ 32;omega)))<|uj Z (Pv.build (c:=#[.int .i64 m.p.kind,.int .u32 (m.p.start:Int)]) Z Z)<|uj Z (Pv.build (c:=#[.int .u64 (m.seq:Int),.int .i64 (m.n:Int),.int .i64 (m.sh:Int),.int .i64 m.step,.int .i64 m.p.kind,.int .u32 (m.p.start:Int)]) Z Z)<|Rg.alloc Z Z Z Z (fun b9=>?_)
   refine Rg.storeA (us:=maC m) Z Z Z Z Z Z Z Z<|nl<|wj<|sj [.r,.e,.p,.p,.p,.p,.p] Z<|rj Z (Ev.as (maV m) (Ev.ldA Z Z) Z)<|Rg.callA Z Z Z (mz Z) (mencode_spec h) ?_
   rintro v57 s57 ⟨u57,rfl,own57⟩
   refine mj Z<|xj Z Z<|xj Z Z<|aj Z<|aj Z<|nl<|sj [.p,.p,.p,.p,.p,.e,.p,.p] Z<|mj Z<|uj Z (Pv.neq Z Z)<|mj Z<|Rg.split (t:=62) rfl (fun h62=>absurd h62 (by decide)) (fun h62=>?_)
   refine mj Z<|mj Z<|Rg.callP Z Z Z (mz Z) (equal_spec (Arg.own own57 frz_sb) (ha.mono fun b o h=>Or.inr h)) ?_
   rintro _ rfl
   refine uj Z (Pv.not Z)<|pj Z Z<|nl<|cj Z (fun h67=>absurd h67 (by simp)) (fun h67=>?_)
   refine kj<|sj [.r,.e,.p] Z<|rj Z (Ev.as (maV m) (Ev.ldA Z Z) Z)<|Rg.storeA (us:=maC m) Z Z Z Z Z Z Z Z<|aj Z<|nl<|Vc.ret (Vc.rets Z (.cons (.cellA Z Z) (tz Z)) ?_)
   rfl
theorem mdecode_none {F:Fm} {v:Value} (ha:Arg byteE F v []):Spec Tryz.prog 88 #[v] F [] fun v s=>v=.tuple #[maV ma0,.int .i64 2]:=by
 obtain ⟨p,c,rfl⟩:=ha.shape
 refine Spec.of (n:=70) (vs:=[.slice p 0 c]) Tryz.func88 rfl Tryz.ntmps88 rfl ?_
 refine sj [.e,.p] Z<|Rg.alloc Z Z Z Z (fun b2=>?_)
 refine aj Z<|nl<|sj [.p,.e,.p,.p,.p,.p,.p,.p,.p] Z<|mj Z<|Rg.callA Z Z Z (mz Z) (decode_spec (b:=[]) (ha.mono fun b o h=>Or.inr h) (by simp)) ?_
 rintro v14 s14 ⟨u14,rfl,own14⟩
 rw [show decG []=([],0,2) from rfl] at own14 ⊢
 dsimp only at own14 ⊢
 refine mj Z<|xj Z Z<|xj Z Z<|xj Z Z<|aj Z<|aj Z<|aj Z<|nl<|wj<|sj [.p,.p] Z<|mj Z<|uj Z (Pv.neq Z Z)<|nl<|cj Z (fun h19=>?_) (fun h19=>absurd h19 (by decide))
 refine sj [.p,.p,.e,.p] Z<|uj Z (Pv.build (c:=#[.int .u64 0,.int .i64 0,.int .i64 0,.int .i64 0,.int .i64 0,.int .u32 0]) Z Z)<|mj Z<|Rg.storeA (us:=maC ma0) Z Z Z Z Z Z Z Z<|aj Z<|nl<|Vc.ret (Vc.rets Z (.cons (.cellA Z Z) (tz Z)) ?_)
 rfl
def pickM:Option Ma→Option Ma→Option Ma
 | none,o=>o
 | some x,none=>some x
 | some x,some y=>if x.seq<y.seq then some y else some x
def accM (a b:Option Ma):Nat→Option Ma
 | 0=>none
 | 1=>a
 | _=>pickM a b
def OkO (o:Option Ma):Prop:=∀m,o=some m→OkM m
def oB (o:Option Ma):List UInt8:=match o with | some m=>maB m | none=>[]
theorem mdecode_o {F:Fm} {v:Value} {o:Option Ma} (ho:OkO o) (ha:Arg byteE F v (oB o)):Spec Tryz.prog 88 #[v] F [] fun v s=>v=.tuple #[maV (o.getD ma0),.int .i64 (if o.isSome=true then 0 else 2)]:=by
 cases o with
 | none=>exact mdecode_none ha
 | some m=>exact mdecode_spec (ho m rfl) ha
theorem choose_spec {F:Fm} {va vb:Value} {a b:Option Ma} (hoa:OkO a) (hob:OkO b) (ha:Arg byteE F va (oB a)) (hb:Arg byteE F vb (oB b)) :
 Spec Tryz.prog 75 #[va,vb] F [] fun v s=>∃k:Int,v=.tuple #[maV ((pickM a b).getD ma0),.int .i64 k,.bool (pickM a b).isSome]:=by
 obtain ⟨pa,ca,rfl⟩:=ha.shape
 obtain ⟨pb,cb,rfl⟩:=hb.shape
 refine Spec.of (n:=42) (vs:=[.slice pa (oB a).length ca,.slice pb (oB b).length cb]) Tryz.func75 rfl Tryz.ntmps75 rfl ?_
 refine sj [.e,.p,.p] Z<|Rg.alloc Z Z Z Z (fun b4=>?_)
 refine aj Z<|aj Z<|nl<|wj<|sj [.p,.p,.p,.p] Z<|mj Z<|mj Z<|uj Z (Pv.buildA Z Z)<|mj Z<|nl<|bj ?_
 refine Vc.loop4 (fun (j:Nat) (k:Int) (cs:List Value) (bb:Bool)=>j≤2∧∃cur,cur=accM a b j∧cs=maC (cur.getD ma0)∧bb=cur.isSome) (fun j k cs bb=>[(4,.pointer (some ⟨b4,0,none⟩)),(5,.int .i64 k),(6,.bool bb),(13,.agg #[.slice pa (oB a).length ca,.slice pb (oB b).length cb]),(14,.int .i64 (j:Int))]) (fun j k cs bb=>[(b4,cellsO cs 126)]) (fun j k cs bb=>2-j) 0 0 (maC ma0) false ⟨by omega,none,rfl,rfl,rfl⟩ (.cons rfl (.cons rfl (.cons rfl (.cons rfl (.cons rfl .nil))))) pulled ?_
 rintro j k _ _ ⟨hj,cur,hcur,rfl,rfl⟩
 refine sj [.p] Z<|uj Z (Pv.lss Z Z)<|nl<|wj<|cj Z (fun h15=>?_) (fun h15=>?_)
 · simp only [dt] at h15
   obtain ⟨o,vj,hvj,hone,ho,harg,hnext⟩:∃o vj,([.slice pa (oB a).length ca,.slice pb (oB b).length cb]:List Value)[j]? = some vj∧vj.oneCell'=true∧OkO o∧Arg byteE F vj (oB o)∧accM a b (j+1)=pickM (accM a b j) o:=by
    have hj2:j=0∨j=1:=by omega
    rcases hj2 with rfl | rfl
    · exact ⟨a,_,rfl,rfl,hoa,ha,by cases a<;>rfl⟩
    · exact ⟨b,_,rfl,rfl,hob,hb,rfl⟩
   rw [←hcur] at hnext
   refine kj<|wj<|bj<|sj [.p,.p,.p,.p] Z<|mj Z<|uj Z (Pv.index j rfl rfl (by omega) hvj hone)<|aj Z<|aj Z<|nl<|sj [.p,.e,.p,.p,.p,.e,.e,.p] Z<|mj Z<|Rg.callA Z Z Z (mz Z) (mdecode_o ho (harg.mono fun b o h=>Or.inr h)) ?_
   rintro v20 s20 rfl
   refine mj Z<|xj Z Z<|xj Z Z<|Rg.alloc Z Z Z Z (fun b9=>?_)
   refine Rg.storeA (us:=maC (o.getD ma0)) Z Z Z Z Z Z Z Z<|aj Z<|nl<|sj [.p,.p,.p,.p,.p,.p,.p,.r,.p,.r,.p,.p,.p] Z<|mj Z<|uj Z (Pv.eql Z Z)<|mj Z<|Rg.split (t:=25) Z (fun h25=>?_) (fun h25=>?_)
   · obtain ⟨y,rfl⟩:∃y,o=some y:=by
      cases o with
      | none=>exact absurd h25 (by decide)
      | some y=>exact ⟨y,rfl⟩
     refine mj Z<|uj Z (Pv.not Z)<|mj Z<|Rg.split (t:=28) Z (fun h28=>?_) (fun h28=>?_)
     · obtain rfl:cur=none:=by
        cases cur with
        | none=>rfl
        | some y=>exact absurd h28 (by simp)
       iterate 5 (first | refine Rg.skipP rfl rfl rfl ?_ | refine Rg.skipR rfl rfl rfl ?_ | refine Rg.skipE rfl rfl rfl ?_)
       refine qj Z Z<|qj Z Z<|nl<|Vc.condT Z<|tj [.r,.p,.e,.p,.p] Z<|rj Z (Ev.as (maV y) (Ev.ldA Z Z) Z)<|mj Z<|Rg.storeA (us:=maC y) Z Z Z Z Z Z Z Z<|aj Z<|aj Z<|nl<|dj<|tj [.p,.p] Z<|uj Z (Pv.asI (j+1) (Pv.add rfl rfl (by omega)) (by omega))<|mj Z ?_
       refine nl ?_
       exact Vc.inv4 (j+1) j (maC y) true ⟨⟨by omega,some y,by rw [hnext];rfl,rfl,rfl⟩,by omega⟩ (.cons rfl (.cons rfl (.cons rfl (.cons rfl (.cons rfl .nil))))) pulled
     · obtain ⟨x,rfl⟩:∃x,cur=some x:=by
        cases cur with
        | none=>exact absurd h28 (by simp)
        | some y=>exact ⟨y,rfl⟩
       refine fj Z<|rj Z (Ev.as (.int .u64 (y.seq:Int)) (Ev.ld Z Z) Z)<|fj Z<|rj Z (Ev.as (.int .u64 (x.seq:Int)) (Ev.ld Z Z) Z)<|uj Z (Pv.gtr Z Z)<|pj Z Z<|qj Z Z<|nl<|cj Z (fun h35=>?_) (fun h35=>?_)
       · simp only [dt] at h35
         refine tj [.r,.p,.e,.p,.p] Z<|rj Z (Ev.as (maV y) (Ev.ldA Z Z) Z)<|mj Z<|Rg.storeA (us:=maC y) Z Z Z Z Z Z Z Z<|aj Z<|aj Z<|nl<|dj<|tj [.p,.p] Z<|uj Z (Pv.asI (j+1) (Pv.add rfl rfl (by omega)) (by omega))<|mj Z<|nl ?_
         exact Vc.inv4 (j+1) j (maC y) true ⟨⟨by omega,some y,by rw [hnext];show some y=if x.seq<y.seq then some y else some x;rw [if_pos (by omega)],rfl,rfl⟩,by omega⟩ (.cons rfl (.cons rfl (.cons rfl (.cons rfl (.cons rfl .nil))))) pulled
       · simp only [df] at h35
         refine kj<|dj<|tj [.p,.p] Z<|uj Z (Pv.asI (j+1) (Pv.add rfl rfl (by omega)) (by omega))<|mj Z<|nl ?_
         exact Vc.inv4 (j+1) k (maC ((some x).getD ma0)) true ⟨⟨by omega,some x,by rw [hnext];show some x=if x.seq<y.seq then some y else some x;rw [if_neg (by omega)],rfl,rfl⟩,by omega⟩ (.cons rfl (.cons rfl (.cons rfl (.cons rfl (.cons rfl .nil))))) pulled
   · obtain rfl:o=none:=by
      cases o with
      | none=>rfl
      | some y=>exact absurd h25 (by simp)
     iterate 9 (first | refine Rg.skipP rfl rfl rfl ?_ | refine Rg.skipR rfl rfl rfl ?_ | refine Rg.skipE rfl rfl rfl ?_)
     refine pj Z Z<|nl<|Vc.condF Z<|kj<|dj<|tj [.p,.p] Z<|uj Z (Pv.asI (j+1) (Pv.add rfl rfl (by omega)) (by omega))<|mj Z<|nl ?_
     exact Vc.inv4 (j+1) k (maC (cur.getD ma0)) cur.isSome ⟨⟨by omega,cur,by rw [hnext];cases cur<;>rfl,rfl,rfl⟩,by omega⟩ (.cons rfl (.cons rfl (.cons rfl (.cons rfl (.cons rfl .nil))))) pulled
 · simp only [df] at h15
   obtain rfl:j=2:=by omega
   refine Vc.exit Z<|sj [.r,.p,.p,.e,.p,.p] Z<|rj Z (Ev.as (maV (cur.getD ma0)) (Ev.ldA Z Z) Z)<|mj Z<|mj Z<|Rg.storeA (us:=maC (cur.getD ma0)) Z Z Z Z Z Z Z Z<|aj Z<|aj Z<|nl<|Vc.ret (Vc.rets Z (.cons (.cellA Z Z) (.cons (.tmp Z) (tz Z))) ?_)
   subst hcur
   exact ⟨k,rfl⟩
section
variable {F : Fm} {db : Nat} {C : Cx} {D : Dk} {s : Hl}
def nowO (o:Option Fl):List UInt8:=match o with | some f=>f.now | none=>[]
def codeO (o:Option Fl):Int:=match o with | some _=>0 | none=>4
theorem cread_z (hC:C.Ok) (hD:DiskAt db D s) (hw:Wz C D) (k:Nm) :
 Spec Tryz.prog 73 #[.pointer (some ⟨db,0,none⟩),kS k] F s fun v s'=>∃u s1 s2 bs e D',v=.tuple #[u,.int .i64 e]∧s'=s1++s2∧Own byteE u bs s1∧DiskAt db D' s2∧Out C none1 (fun _=>bs=nowO (findF D.files k)) D (codeO (findF D.files k)) e D':=by
 cases hf:findF D.files k with
 | none =>
  refine Spec.of (n:=23) (vs:=[.pointer (some ⟨db,0,none⟩),kS k]) Tryz.func73 rfl Tryz.ntmps73 rfl ?_
  refine sj [.p,.p] Z<|aj Z<|aj Z<|nl<|sj [.p,.p,.e,.p,.p,.p,.p,.p] Z<|mj Z<|mj Z<|Rg.callH Z Z Z (mz Z) (fun F' hF'=>size_zn (F:=F') hC hD hw hf) Z ?_
  rintro _ s11 ⟨m,e,D1,rfl,hD1,hO1⟩
  refine mj Z<|xj Z Z<|xj Z Z<|aj Z<|aj Z<|nl<|wj<|sj [.p,.p] Z<|mj Z<|uj Z (Pv.neq Z Z)<|nl<|cj Z (fun h15=>?_) (fun h15=>absurd h15 (by rcases hO1.code with h | h<;>rw [h]<;>decide))
  refine sj [.p,.p,.p] Z<|mj Z<|aj Z<|aj Z<|nl ?_
  exact vr (hl':=s11) rfl (.cons (.tmp rfl) (tz Z)) ⟨.slice none 0 0,[],s11,[],e,D1,rfl,rfl,.nil,hD1,hO1.1,hO1.2.imp (fun x=>⟨x.1,x.2.1,rfl⟩) id⟩ pulled
 | some f =>
  refine Spec.of (n:=23) (vs:=[.pointer (some ⟨db,0,none⟩),kS k]) Tryz.func73 rfl Tryz.ntmps73 rfl ?_
  refine sj [.p,.p] Z<|aj Z<|aj Z<|nl<|sj [.p,.p,.e,.p,.p,.p,.p,.p] Z<|mj Z<|mj Z<|Rg.callH Z Z Z (mz Z) (fun F' hF'=>size_z (F:=F') hC hD hw hf) Z ?_
  rintro _ s11 ⟨m,e,D1,rfl,hD1,hO1⟩
  refine mj Z<|xj Z Z<|xj Z Z<|aj Z<|aj Z<|nl<|wj<|sj [.p,.p] Z<|mj Z<|uj Z (Pv.neq Z Z)<|nl<|cj Z (fun h15=>?_) (fun h15=>?_)
  · simp only [bne_iff_ne,ne_eq] at h15
    obtain ⟨he7,hB⟩:=hO1.bad h15
    subst he7
    refine sj [.p,.p,.p] Z<|mj Z<|aj Z<|aj Z<|nl ?_
    exact vr (hl':=s11) rfl (.cons (.tmp rfl) (tz Z)) ⟨.slice none 0 0,[],s11,[],7,D1,rfl,rfl,.nil,hD1,hO1.1,.inr ⟨rfl,hB⟩⟩ pulled
  · simp only [bne_eq_false_iff_eq] at h15
    subst h15
    obtain ⟨_,hG,hm⟩:=hO1.good (by decide)
    subst hm
    refine kj<|sj [.p,.p,.p,.e,.p,.p,.p,.p] Z<|mj Z<|mj Z<|mj Z<|Rg.callH Z Z Z (mz Z) (fun F' hF'=>read_z (F:=F') hC hD1 hO1.wz (f:=f) (a:=0) (m:=f.now.length) (by rw [hG.same _ id];exact hf) (by omega)) rfl ?_
    rintro _ _ ⟨u,s1,s2,bs,e,D2,rfl,own,hD2,hO2,rfl⟩
    rw [lx]
    refine xj Z Z<|xj Z Z<|aj Z<|aj Z<|nl ?_
    exact vr rfl (.cons (.tmp rfl) (tz Z)) (⟨u,s1,s2,bs,e,D2,rfl,rfl,own,hD2,hO2.1,hO2.2.imp (fun x=>⟨x.1,hG.trans x.2.1,by rw [x.2.2];simp [nowO]⟩) (fun x=>⟨x.1,hG.dn x.2⟩)⟩) pulled
end
def PutQ (tk to:Nm) (b:List UInt8) (D:Dk):Nat→Prop
 | 0=>findF D.files tk=none
 | 1=>findF D.files tk=some ⟨[],[]⟩
 | 2=>findF D.files tk=some ⟨b,[]⟩
 | 3=>findF D.files tk=some ⟨b,b⟩
 | _=>findF D.files tk=none∧findF D.files to=some ⟨b,b⟩
def PutT (tk to:Nm) (i:Nat) (x:Nm):Prop:=x=tk∨(i=3∧x=to)
def DoP (C:Cx) (db:Nat) (tk to:Nm) (b:List UInt8) (D:Dk) (i:Nat) (v:Value) (s':Hl):Prop:=∃e D',v=.int .i64 e∧DiskAt db D' s'∧Wz C D'∧((e=0∧Gd (PutT tk to i) D D'∧PutQ tk to b D' (i+1))∨(e=7∧Dn (· = tk) D D'))
section
variable {F : Fm} {db : Nat} {C : Cx} {D : Dk} {s : Hl} {tk to : Nm} {b : List UInt8} {b4 b5 b6 b7 b9 : Nat}
theorem put1_z (f1:Fat F b4 (cellsO [.pointer (some ⟨db,0,none⟩)] 67)) (f2:Fat F b9 (cellsO [kS tk] 9)) (hC:C.Ok) (hk:tk∈C.S) (hD:DiskAt db D s) (hw:Wz C D) (hf:PutQ tk to b D 0) :
 Spec Tryz.prog 226 #[.pointer (some ⟨b4,0,none⟩),.pointer (some ⟨b9,0,none⟩)] F s (DoP C db tk to b D 0):=by
 refine Spec.of (n:=6) (vs:=[.pointer (some ⟨b4,0,none⟩),.pointer (some ⟨b9,0,none⟩)]) Tryz.func226 rfl Tryz.ntmps226 rfl ?_
 refine sj [.p] Z<|aj Z<|nl<|sj [.r,.r,.e,.p] Z<|lj Z Z<|lj Z Z<|Rg.callH Z Z Z (mz Z) (fun F' hF'=>create_z (F:=F') hC hD hw hk hf) Z ?_
 rintro _ s5 ⟨e,D1,rfl,hD1,hO1⟩
 refine aj Z<|nl ?_
 exact vr rfl (tz Z) (⟨e,D1,rfl,hD1,hO1.1,hO1.2.imp (fun x=>⟨x.1,x.2.1.mono fun _ h=>.inl h,x.2.2⟩) id⟩) pulled
theorem put2_z {vb:Value} (f1:Fat F b4 (cellsO [.pointer (some ⟨db,0,none⟩)] 67)) (f2:Fat F b9 (cellsO [kS tk] 9)) (f3:Fat F b7 (cellsO [vb] 40)) (hb:Arg byteE F vb b) (hC:C.Ok) (hl:b.length≤C.cap) (hD:DiskAt db D s) (hw:Wz C D) (hf:PutQ tk to b D 1) :
 Spec Tryz.prog 227 #[.pointer (some ⟨b4,0,none⟩),.pointer (some ⟨b9,0,none⟩),.pointer (some ⟨b7,0,none⟩)] F s (DoP C db tk to b D 1):=by
 refine Spec.of (n:=8) (vs:=[.pointer (some ⟨b4,0,none⟩),.pointer (some ⟨b9,0,none⟩),.pointer (some ⟨b7,0,none⟩)]) Tryz.func227 rfl Tryz.ntmps227 rfl ?_
 refine sj [.p] Z<|aj Z<|nl<|sj [.r,.r,.r,.e,.p] Z<|lj Z Z<|lj Z Z<|lj Z Z<|Rg.callH Z Z Z (mz Z) (fun F' hF'=>append_z (F:=F') hC hD hw hf (hb.mono fun b o h=>hF' b o (.inr h)) (by simpa using hl)) rfl ?_
 rintro _ s7 ⟨e,D1,rfl,hD1,hO1⟩
 refine aj Z<|nl ?_
 exact vr rfl (tz Z) (⟨e,D1,rfl,hD1,hO1.1,hO1.2.imp (fun x=>⟨x.1,x.2.1.mono fun _ h=>.inl h,x.2.2⟩) id⟩) pulled
theorem put3_z (f1:Fat F b4 (cellsO [.pointer (some ⟨db,0,none⟩)] 67)) (f2:Fat F b9 (cellsO [kS tk] 9)) (hC:C.Ok) (hD:DiskAt db D s) (hw:Wz C D) (hf:PutQ tk to b D 2) :
 Spec Tryz.prog 229 #[.pointer (some ⟨b4,0,none⟩),.pointer (some ⟨b9,0,none⟩)] F s (DoP C db tk to b D 2):=by
 refine Spec.of (n:=6) (vs:=[.pointer (some ⟨b4,0,none⟩),.pointer (some ⟨b9,0,none⟩)]) Tryz.func229 rfl Tryz.ntmps229 rfl ?_
 refine sj [.p] Z<|aj Z<|nl<|sj [.r,.r,.e,.p] Z<|lj Z Z<|lj Z Z<|Rg.callH Z Z Z (mz Z) (fun F' hF'=>sync_z (F:=F') hC hD hw hf) Z ?_
 rintro _ s5 ⟨e,D1,rfl,hD1,hO1⟩
 refine aj Z<|nl ?_
 exact vr rfl (tz Z) (⟨e,D1,rfl,hD1,hO1.1,hO1.2.imp (fun x=>⟨x.1,x.2.1.mono fun _ h=>.inl h,x.2.2⟩) id⟩) pulled
theorem put4_z {kind name:Nm} (hto:to=kind++name) (hne:tk≠to) (f1:Fat F b4 (cellsO [.pointer (some ⟨db,0,none⟩)] 67)) (f2:Fat F b9 (cellsO [kS tk] 9)) (f3:Fat F b5 (cellsO [kS kind] 9)) (f4:Fat F b6 (cellsO [kS name] 9)) (hC:C.Ok) (hk:to∈C.S) (hlen:kind.length+name.length<1000) (hD:DiskAt db D s) (hw:Wz C D) (hf:PutQ tk to b D 3) :
 Spec Tryz.prog 231 #[.pointer (some ⟨b4,0,none⟩),.pointer (some ⟨b9,0,none⟩),.pointer (some ⟨b5,0,none⟩),.pointer (some ⟨b6,0,none⟩)] F s (DoP C db tk to b D 3):=by
 subst hto
 refine Spec.of (n:=11) (vs:=[.pointer (some ⟨b4,0,none⟩),.pointer (some ⟨b9,0,none⟩),.pointer (some ⟨b5,0,none⟩),.pointer (some ⟨b6,0,none⟩)]) Tryz.func231 rfl Tryz.ntmps231 rfl ?_
 refine sj [.p] Z<|aj Z<|nl<|sj [.r,.r,.r,.r,.p,.e,.p] Z<|lj Z Z<|lj Z Z<|lj Z Z<|lj Z Z<|uj Z (Pv.addK rfl rfl (by omega))<|Rg.callH Z Z Z (mz Z) (fun F' hF'=>rename_zc (F:=F') hC hD hw hf hk hne) Z ?_
 rintro _ s10 ⟨e,D1,rfl,hD1,hW1,hO1⟩
 refine aj Z<|nl ?_
 exact vr rfl (tz Z) (⟨e,D1,rfl,hD1,hW1,hO1.imp (fun x=>⟨x.1,x.2.1.mono fun _ h=>h.imp id fun h=>⟨rfl,h⟩,x.2.2⟩) (fun x=>⟨x.1,x.2.any⟩)⟩) pulled
end
structure Fv where
 gf:Nat
 cs:List Value
 deriving Inhabited
abbrev Fv.v (f:Fv):Value:=.func (.func f.gf) #[] f.cs.toArray
def fvE:Enc Fv where
 k:=1
 tid:=157
 cells:=fun s=>[s.v]
 val:=fun s=>s.v
 pos:=by decide
 len:=fun _=>rfl
 one:=fun x v hv=>by simp at hv;subst hv;rfl
 vc:=fun _=>rfl
instance : RowTy Tryz.prog fvE 157:=⟨Tryz.sizeOf157,.inr ⟨Tryz.isAgg157,rfl,fun _=>rfl⟩⟩
abbrev pz (b:Nat):Value:=.pointer (some ⟨b,0,none⟩)
abbrev fvs (b4 b5 b6 b7 b9:Nat):List Fv:=[⟨226,[pz b4,pz b9]⟩,⟨227,[pz b4,pz b9,pz b7]⟩,⟨229,[pz b4,pz b9]⟩,⟨231,[pz b4,pz b9,pz b5,pz b6]⟩]
section
variable {F : Fm} {db : Nat} {C : Cx} {D : Dk} {s : Hl} {tk to : Nm} {b : List UInt8} {b4 b5 b6 b7 b9 : Nat}
theorem puts_z {kind name:Nm} {vb:Value} (hto:to=kind++name) (hne:tk≠to) (hC:C.Ok) (hk:tk∈C.S) (hk2:to∈C.S) (hlen:kind.length+name.length<1000) (hl:b.length≤C.cap) {i:Nat} (hi:i<4) :
 ∃gf cs,(fvs b4 b5 b6 b7 b9)[i]! = ⟨gf,cs⟩∧TyCall Tryz.prog gf∧∀(F:Fm) (D:Dk) (s:Hl),Fat F b4 (cellsO [.pointer (some ⟨db,0,none⟩)] 67)→Fat F b9 (cellsO [kS tk] 9)→Fat F b7 (cellsO [vb] 40)→Fat F b5 (cellsO [kS kind] 9)→Fat F b6 (cellsO [kS name] 9)→Arg byteE F vb b→DiskAt db D s→Wz C D→PutQ tk to b D i→Spec Tryz.prog gf cs.toArray F s (DoP C db tk to b D i):=by
 have h4:i=0∨i=1∨i=2∨i=3:=by omega
 rcases h4 with rfl | rfl | rfl | rfl
 · exact ⟨_,_,rfl,inferInstance,fun F D s f4 f9 f7 f5 f6 hb hD hw hq=>put1_z f4 f9 hC hk hD hw hq⟩
 · exact ⟨_,_,rfl,inferInstance,fun F D s f4 f9 f7 f5 f6 hb hD hw hq=>put2_z f4 f9 f7 hb hC hl hD hw hq⟩
 · exact ⟨_,_,rfl,inferInstance,fun F D s f4 f9 f7 f5 f6 hb hD hw hq=>put3_z f4 f9 hC hD hw hq⟩
 · exact ⟨_,_,rfl,inferInstance,fun F D s f4 f9 f7 f5 f6 hb hD hw hq=>put4_z hto hne f4 f9 f5 f6 hC hk2 hlen hD hw hq⟩
set_option maxHeartbeats 4000000 in
theorem put_z {kind name:Nm} {vb:Value} (htk:tk=kind++[110,101,119]) (hto:to=kind++name) (hne:tk≠to) (hC:C.Ok) (hk:tk∈C.S) (hk2:to∈C.S) (hlen:kind.length+name.length<900) (hl:b.length≤C.cap) (hb:Arg byteE F vb b) (hD:DiskAt db D s) (hw:Wz C D) :
 Spec Tryz.prog 201 #[.pointer (some ⟨db,0,none⟩),kS kind,kS name,vb] F s fun v s'=>∃e D',v=.int .i64 e∧DiskAt db D' s'∧Wz C D'∧((e=0∧Gd (fun x=>x=tk∨x=to) D D'∧findF D'.files tk=none∧findF D'.files to=some ⟨b,b⟩)∨(e=7∧Dn (· = tk) D D')):=by
 obtain ⟨pv,cv,rfl⟩:=hb.shape
 refine Spec.of (n:=45) (vs:=[.pointer (some ⟨db,0,none⟩),kS kind,kS name,.slice pv b.length cv]) Tryz.func201 rfl Tryz.ntmps201 rfl ?_
 refine sj [.e,.e,.e,.e,.p] Z<|Rg.box Z Z Z Z Z (fun b4=>?_)
 refine Rg.box Z Z Z Z Z (fun b5=>?_)
 refine Rg.box Z Z Z Z Z (fun b6=>?_)
 refine Rg.box Z Z Z Z Z (fun b7=>?_)
 refine aj Z<|nl<|sj [.r,.p,.e,.e] Z<|lj Z Z<|uj Z (Pv.as (kS tk) (Pv.addK rfl rfl (by simp;omega)) (by rw [htk]))<|Rg.alloc Z Z Z Z (fun b9=>?_)
 refine Rg.store Z Z Z Z Z Z Z Z<|nl<|wj<|sj [.r,.r,.e,.p] Z<|lj Z Z<|lj Z Z<|Rg.callH Z Z Z (mz Z) (fun F' hF'=>remove_zc (F:=F') hC hD hw tk) Z ?_
 rintro _ s18 ⟨e1,D1,rfl,hD1,hW1,hO1⟩
 refine aj Z<|nl<|sj [.p,.p,.p,.p,.p,.p] Z<|mj Z<|uj Z (Pv.neq Z Z)<|mj Z<|Rg.split (t:=21) Z (fun h21=>?_) (fun h21=>?_)
 · simp only [bne_iff_ne,ne_eq] at h21
   refine mj Z<|uj Z (Pv.neq Z Z)<|qj Z Z<|nl<|cj Z (fun h24=>?_) (fun h24=>?_)
   · simp only [bne_iff_ne,ne_eq] at h24
     obtain ⟨he7,hB⟩:=hO1.resolve_left (fun h=>h.1.elim h21 h24)
     subst he7
     refine sj [.p,.p] Z<|mj Z<|aj Z<|nl ?_
     exact vr rfl (tz Z) (⟨7,D1,rfl,hD1,hW1,.inr ⟨rfl,hB.any⟩⟩) pulled
   · simp only [bne_eq_false_iff_eq] at h24
     subst h24
     refine kj<|wj<|sj [.p,.p,.p,.p,.e,.p,.p] Z ?_
     obtain ⟨_,hG1,hn1⟩:=hO1.resolve_right (fun h=>by cases h.1)
     refine uj Z (Pv.mkF Z Z)<|uj Z (Pv.mkF Z Z)<|uj Z (Pv.mkF Z Z)<|uj Z (Pv.mkF Z Z)<|Rg.bsliceR (E:=fvE) (e:=157) (cs:=(fvs b4 b5 b6 b7 b9).map Fv.v) (fvs b4 b5 b6 b7 b9) rfl rfl rfl rfl rfl rfl rfl (by rfl) rfl (by decide) (fun b30 own30=>?_)
     refine uj Z (Pv.lenS Z)<|mj Z<|nl<|bj ?_
     refine Vc.loop3 (fun (i:Nat) (D':Dk) (g:Hl)=>i≤4∧DiskAt db D' g∧Wz C D'∧PutQ tk to b D' i∧(i≤3→Gd (· = tk) D D')∧Gd (fun x=>x=tk∨x=to) D D') (fun i D' g=>[(4,pz b4),(9,pz b9),(30,.slice (some ⟨b30,0,none⟩) 4 4),(31,.int .i64 4),(32,.int .i64 (i:Int))]) (fun i D' g=>(b30,rowS fvE (fvs b4 b5 b6 b7 b9) [])::(b9,cellsO [kS tk] 9)::(b7,cellsO [.slice pv b.length cv] 40)::(b6,cellsO [kS name] 9)::(b5,cellsO [kS kind] 9)::(b4,cellsO [.pointer (some ⟨db,0,none⟩)] 67)::g) (fun i D' g=>4-i) 0 D1 s18 ⟨by omega,hD1,hW1,hn1,fun _=>hG1,hG1.mono fun _ h=>.inl h⟩ (.cons rfl (.cons rfl (.cons rfl (.cons rfl (.cons rfl .nil))))) pulled ?_
     rintro i D' g ⟨hi,hD',hW',hQ,hG3,hG⟩
     refine sj [.p] Z<|uj Z (Pv.lss Z Z)<|nl<|wj<|cj Z (fun h33=>?_) (fun h33=>?_)
     · simp only [dt] at h33
       have hi4:i<4:=by omega
       obtain ⟨gf,cs,hfv,hty,hsp⟩:=puts_z (db:=db) (b4:=b4) (b5:=b5) (b6:=b6) (b7:=b7) (b9:=b9) (vb:=.slice pv b.length cv) hto hne hC hk hk2 (by omega) hl hi4
       refine kj<|wj<|bj<|sj [.p,.r,.p] Z<|uj Z (Pv.ixA (i) rfl rfl (by omega) (by omega))<|rj Z (Ev.as (.func (.func gf) #[] cs.toArray) (Ev.ldS (E:=fvE) i (Src.own (rest:=[]) own30 (fun x hx=>by simp [List.mem_singleton.1 hx])) rfl rfl rfl hi4) (congrArg fvE.val hfv))<|aj Z<|nl<|sj [.p,.e,.p] Z<|mj Z<|Rg.callH Z Z Z (run_callV rfl rfl) (fun F' hF'=>hsp F' D' g ⟨hF' _ _ (.inl (by simp))⟩ ⟨hF' _ _ (.inl (by simp))⟩ ⟨hF' _ _ (.inl (by simp))⟩ ⟨hF' _ _ (.inl (by simp))⟩ ⟨hF' _ _ (.inl (by simp))⟩ (hb.mono fun b o h=>hF' b o (.inr h)) hD' hW' hQ) rfl ?_
       rintro _ s37 ⟨e2,D2,rfl,hD2,hW2,hO2⟩
       refine aj Z<|nl<|sj [.p,.p] Z<|mj Z<|uj Z (Pv.neq Z Z)<|nl<|cj Z (fun h39=>?_) (fun h39=>?_)
       · simp only [bne_iff_ne,ne_eq] at h39
         obtain ⟨he7,hB⟩:=hO2.resolve_left (fun h=>h39 h.1)
         subst he7
         refine sj [.r,.r,.e] Z<|lj Z Z<|lj Z Z<|Rg.callH Z Z Z (mz Z) (fun F' hF'=>remove_zc (F:=F') hC hD2 hW2 tk) Z ?_
         rintro _ s42 ⟨e4,D4,rfl,hD4,hW4,hO4⟩
         have hB4:Dn none1 D2 D4:=(hO4.resolve_left fun h=>by have:=h.2.1.up0;rw [hB.dn] at this;cases this).2
         refine nl<|sj [.p,.p] Z<|mj Z<|aj Z<|nl ?_
         exact vr rfl (tz Z) (⟨7,D4,rfl,hD4,hW4,.inr ⟨rfl,((hG3 (by omega)).dn hB).after hB4.any⟩⟩) pulled
       · simp only [bne_eq_false_iff_eq] at h39
         subst h39
         obtain ⟨_,hG2,hQ2⟩:=hO2.resolve_right (fun h=>by cases h.1)
         refine kj<|dj<|tj [.p,.p] Z<|uj Z (Pv.asI (i+1) (Pv.add rfl rfl (by omega)) (by omega))<|mj Z<|nl ?_
         exact Vc.inv3 (i+1) D2 s37 ⟨⟨by omega,hD2,hW2,hQ2,fun h=>(hG3 (by omega)).trans (hG2.mono fun x hx=>hx.resolve_right fun hx=>by omega),hG.trans (hG2.mono fun x hx=>hx.imp id And.right)⟩,by omega⟩ (.cons rfl (.cons rfl (.cons rfl (.cons rfl (.cons rfl .nil))))) pulled
     · simp only [df] at h33
       obtain rfl:i=4:=by omega
       refine Vc.exit Z<|sj [.p] Z<|aj Z<|nl ?_
       exact vr rfl (tz Z) (⟨0,D',rfl,hD',hW',.inl ⟨rfl,hG,hQ⟩⟩) pulled
 · simp only [bne_eq_false_iff_eq] at h21
   subst h21
   iterate 2 (first | refine Rg.skipP rfl rfl rfl ?_ | refine Rg.skipR rfl rfl rfl ?_ | refine Rg.skipE rfl rfl rfl ?_)
   refine pj Z Z<|nl<|Vc.condF Z<|kj<|wj<|sj [.p,.p,.p,.p,.e,.p,.p] Z ?_
   obtain ⟨_,hG1,hn1⟩:=hO1.resolve_right (fun h=>by cases h.1)
   refine uj Z (Pv.mkF Z Z)<|uj Z (Pv.mkF Z Z)<|uj Z (Pv.mkF Z Z)<|uj Z (Pv.mkF Z Z)<|Rg.bsliceR (E:=fvE) (e:=157) (cs:=(fvs b4 b5 b6 b7 b9).map Fv.v) (fvs b4 b5 b6 b7 b9) rfl rfl rfl rfl rfl rfl rfl (by rfl) rfl (by decide) (fun b30 own30=>?_)
   refine uj Z (Pv.lenS Z)<|mj Z<|nl<|bj ?_
   refine Vc.loop3 (fun (i:Nat) (D':Dk) (g:Hl)=>i≤4∧DiskAt db D' g∧Wz C D'∧PutQ tk to b D' i∧(i≤3→Gd (· = tk) D D')∧Gd (fun x=>x=tk∨x=to) D D') (fun i D' g=>[(4,pz b4),(9,pz b9),(30,.slice (some ⟨b30,0,none⟩) 4 4),(31,.int .i64 4),(32,.int .i64 (i:Int))]) (fun i D' g=>(b30,rowS fvE (fvs b4 b5 b6 b7 b9) [])::(b9,cellsO [kS tk] 9)::(b7,cellsO [.slice pv b.length cv] 40)::(b6,cellsO [kS name] 9)::(b5,cellsO [kS kind] 9)::(b4,cellsO [.pointer (some ⟨db,0,none⟩)] 67)::g) (fun i D' g=>4-i) 0 D1 s18 ⟨by omega,hD1,hW1,hn1,fun _=>hG1,hG1.mono fun _ h=>.inl h⟩ (.cons rfl (.cons rfl (.cons rfl (.cons rfl (.cons rfl .nil))))) pulled ?_
   rintro i D' g ⟨hi,hD',hW',hQ,hG3,hG⟩
   refine sj [.p] Z<|uj Z (Pv.lss Z Z)<|nl<|wj<|cj Z (fun h33=>?_) (fun h33=>?_)
   · simp only [dt] at h33
     have hi4:i<4:=by omega
     obtain ⟨gf,cs,hfv,hty,hsp⟩:=puts_z (db:=db) (b4:=b4) (b5:=b5) (b6:=b6) (b7:=b7) (b9:=b9) (vb:=.slice pv b.length cv) hto hne hC hk hk2 (by omega) hl hi4
     refine kj<|wj<|bj<|sj [.p,.r,.p] Z<|uj Z (Pv.ixA (i) rfl rfl (by omega) (by omega))<|rj Z (Ev.as (.func (.func gf) #[] cs.toArray) (Ev.ldS (E:=fvE) i (Src.own (rest:=[]) own30 (fun x hx=>by simp [List.mem_singleton.1 hx])) rfl rfl rfl hi4) (congrArg fvE.val hfv))<|aj Z<|nl<|sj [.p,.e,.p] Z<|mj Z<|Rg.callH Z Z Z (run_callV rfl rfl) (fun F' hF'=>hsp F' D' g ⟨hF' _ _ (.inl (by simp))⟩ ⟨hF' _ _ (.inl (by simp))⟩ ⟨hF' _ _ (.inl (by simp))⟩ ⟨hF' _ _ (.inl (by simp))⟩ ⟨hF' _ _ (.inl (by simp))⟩ (hb.mono fun b o h=>hF' b o (.inr h)) hD' hW' hQ) rfl ?_
     rintro _ s37 ⟨e2,D2,rfl,hD2,hW2,hO2⟩
     refine aj Z<|nl<|sj [.p,.p] Z<|mj Z<|uj Z (Pv.neq Z Z)<|nl<|cj Z (fun h39=>?_) (fun h39=>?_)
     · simp only [bne_iff_ne,ne_eq] at h39
       obtain ⟨he7,hB⟩:=hO2.resolve_left (fun h=>h39 h.1)
       subst he7
       refine sj [.r,.r,.e] Z<|lj Z Z<|lj Z Z<|Rg.callH Z Z Z (mz Z) (fun F' hF'=>remove_zc (F:=F') hC hD2 hW2 tk) Z ?_
       rintro _ s42 ⟨e4,D4,rfl,hD4,hW4,hO4⟩
       have hB4:Dn none1 D2 D4:=(hO4.resolve_left fun h=>by have:=h.2.1.up0;rw [hB.dn] at this;cases this).2
       refine nl<|sj [.p,.p] Z<|mj Z<|aj Z<|nl ?_
       exact vr rfl (tz Z) (⟨7,D4,rfl,hD4,hW4,.inr ⟨rfl,((hG3 (by omega)).dn hB).after hB4.any⟩⟩) pulled
     · simp only [bne_eq_false_iff_eq] at h39
       subst h39
       obtain ⟨_,hG2,hQ2⟩:=hO2.resolve_right (fun h=>by cases h.1)
       refine kj<|dj<|tj [.p,.p] Z<|uj Z (Pv.asI (i+1) (Pv.add rfl rfl (by omega)) (by omega))<|mj Z<|nl ?_
       exact Vc.inv3 (i+1) D2 s37 ⟨⟨by omega,hD2,hW2,hQ2,fun h=>(hG3 (by omega)).trans (hG2.mono fun x hx=>hx.resolve_right fun hx=>by omega),hG.trans (hG2.mono fun x hx=>hx.imp id And.right)⟩,by omega⟩ (.cons rfl (.cons rfl (.cons rfl (.cons rfl (.cons rfl .nil))))) pulled
   · simp only [df] at h33
     obtain rfl:i=4:=by omega
     refine Vc.exit Z<|sj [.p] Z<|aj Z<|nl ?_
     exact vr rfl (tz Z) (⟨0,D',rfl,hD',hW',.inl ⟨rfl,hG,hQ⟩⟩) pulled
end
def slN (i:Nat):Nm:=[115,108,111,116,46]++dig i
def slT:Nm:=[115,108,111,116,46,110,101,119]
def stN (i:Nat):Nm:=[115,116,97,116,101,46]++dig i
def stT:Nm:=[115,116,97,116,101,46,110,101,119]
theorem dig_new (i:Nat) (hi:i<100):dig i≠[110,101,119]:=by
 intro h
 have:=congrArg List.length h
 have h2:=dig_len i
 simp at this
 omega
theorem slT_ne (i:Nat) (hi:i<100):slT≠slN i:=fun h=>dig_new i hi (List.append_cancel_left (show [115,108,111,116,46]++[110,101,119]=[115,108,111,116,46]++dig i from h)).symm
theorem stT_ne (i:Nat) (hi:i<100):stT≠stN i:=fun h=>dig_new i hi (List.append_cancel_left (show [115,116,97,116,101,46]++[110,101,119]=[115,116,97,116,101,46]++dig i from h)).symm
section
variable {F : Fm} {db : Nat} {C : Cx} {D : Dk} {s : Hl}
def Puts (C:Cx) (tk to:Nm) (b:List UInt8) (D:Dk) (e:Int) (D':Dk):Prop:=Wz C D'∧((e=0∧Gd (fun x=>x=tk∨x=to) D D'∧findF D'.files tk=none∧findF D'.files to=some ⟨b,b⟩)∨(e=7∧Dn (· = tk) D D'))
theorem save_z {m:Ma} (hm:OkM m) (hC:C.Ok) (hk:slT∈C.S) (hk2:slN (m.seq % 2)∈C.S) (hcap:54≤C.cap) (hD:DiskAt db D s) (hw:Wz C D) :
 Spec Tryz.prog 191 #[.pointer (some ⟨db,0,none⟩),maV m] F s fun v s'=>∃e D',v=.int .i64 e∧DiskAt db D' s'∧Puts C slT (slN (m.seq % 2)) (maB m) D e D':=by
 have hs:=hm.seq.2
 have hdl:=dig_len (m.seq % 2)
 refine Spec.of (n:=22) (vs:=[.pointer (some ⟨db,0,none⟩),maV m]) Tryz.func191 rfl Tryz.ntmps191 rfl ?_
 refine sj [.e,.p] Z<|Rg.box Z Z Z Z Z (fun b3=>?_)
 refine aj Z<|nl<|sj [.r,.e,.p,.p,.p,.p,.p] Z<|rj Z (Ev.as (maV m) (Ev.ldA Z Z) Z)<|Rg.callA Z Z Z (mz Z) (mencode_spec hm) ?_
 rintro v9 s9 ⟨u9,rfl,own9⟩
 refine mj Z<|xj Z Z<|xj Z Z<|aj Z<|aj Z<|nl<|wj<|sj [.p,.p] Z<|mj Z<|uj Z (Pv.neq Z Z)<|nl<|cj Z (fun h13=>absurd h13 (by decide)) (fun h13=>?_)
 refine kj<|sj [.p,.p,.r,.p,.e,.p,.e,.p] Z<|mj Z<|fj Z<|rj Z (Ev.as (.int .u64 (m.seq:Int)) (Ev.ld Z Z) Z)<|uj Z (Pv.asI (m.seq % 2) (Pv.remN m.seq 2 rfl rfl (by omega)) rfl) ?_
 refine Rg.callP Z Z Z (mz Z) (formatUint_spec (m.seq % 2) (by omega)) ?_
 rintro _ rfl
 refine mj Z<|Rg.callH Z Z Z (mz Z) (fun F' hF'=>put_z (F:=F') (kind:=[115,108,111,116,46]) (name:=dig (m.seq % 2)) (tk:=slT) (to:=slN (m.seq % 2)) rfl rfl (slT_ne _ (by omega)) hC hk hk2 (by simp;omega) (by rw [maB_length];omega) (Arg.own own9 fun b o h=>hF' b o (.inl (by simp [h]))) hD hw) rfl ?_
 rintro _ s21 ⟨e,D1,rfl,hD1,hw1,hO⟩
 refine aj Z<|nl ?_
 exact vr rfl (tz Z) (⟨e,D1,rfl,hD1,hw1,hO⟩) pulled
theorem keep_z {a b:Value} {c:Cf} {n:Nat} (h:CfA F a b c) (hi:InC c n) (hn:n≤100) (step:Nat) (hst:step<100) (hC:C.Ok) (hk:stT∈C.S) (hk2:stN step∈C.S) (hcap:1000≤C.cap) (hD:DiskAt db D s) (hw:Wz C D) :
 Spec Tryz.prog 211 #[.pointer (some ⟨db,0,none⟩),.int .i64 (step:Int),cfV a b] F s fun v s'=>∃e D',v=.int .i64 e∧DiskAt db D' s'∧Puts C stT (stN step) (stB step c) D e D':=by
 have hdl:=dig_len step
 obtain ⟨pv,cv,e1⟩:=h.va.shape
 obtain ⟨pl,cl,e2⟩:=h.la.shape
 subst e1;subst e2
 have hlen:=stB_le (step:=step) (c:=c) (by rw [hi.vl];omega)
 refine Spec.of (n:=23) (vs:=[.pointer (some ⟨db,0,none⟩),.int .i64 (step:Int),cfV (.slice pv c.vals.length cv) (.slice pl c.live.length cl)]) Tryz.func211 rfl Tryz.ntmps211 rfl ?_
 refine sj [.e,.p] Z<|Rg.box Z Z Z Z Z (fun b5=>?_)
 refine aj Z<|nl<|sj [.p,.r,.e,.p,.p,.p,.p,.p] Z<|mj Z<|rj Z (Ev.as (cfV (.slice pv c.vals.length cv) (.slice pl c.live.length cl)) (Ev.ldA Z Z) Z)<|Rg.callA Z Z Z (mz Z) (sencode_spec (h.mono fun b o h=>Or.inr h) hi hn step (by omega)) ?_
 rintro v12 s12 ⟨u12,rfl,own12⟩
 refine mj Z<|xj Z Z<|xj Z Z<|aj Z<|aj Z<|nl<|wj<|sj [.p,.p] Z<|mj Z<|uj Z (Pv.neq Z Z)<|nl<|cj Z (fun h16=>absurd h16 (by decide)) (fun h16=>?_)
 refine kj<|sj [.p,.p,.e,.p,.e,.p] Z<|mj Z<|mj Z<|Rg.callP Z Z Z (mz Z) (itoa_spec step hst) ?_
 rintro _ rfl
 refine mj Z<|Rg.callH Z Z Z (mz Z) (fun F' hF'=>put_z (F:=F') (kind:=[115,116,97,116,101,46]) (name:=dig step) (tk:=stT) (to:=stN step) rfl rfl (stT_ne _ hst) hC hk hk2 (by simp;omega) (by omega) (Arg.own own12 fun b o h=>hF' b o (.inl (by simp [h]))) hD hw) rfl ?_
 rintro _ s22 ⟨e,D1,rfl,hD1,hw1,hO⟩
 refine aj Z<|nl ?_
 exact vr rfl (tz Z) (⟨e,D1,rfl,hD1,hw1,hO⟩) pulled
theorem state_z {c:Cf} {n:Nat} (hi:InC c n) (hn:n≤100) (step:Nat) (hst:step<100) {f:Fl} (hf:findF D.files (stN step)=some f) (hfn:f.now=stB step c) (hC:C.Ok) (hD:DiskAt db D s) (hw:Wz C D) :
 Spec Tryz.prog 187 #[.pointer (some ⟨db,0,none⟩),.int .i64 (step:Int)] F s fun v s'=>∃x y e D' s1 s2,v=.tuple #[cfV x y,.int .i64 e]∧x.oneCell'=true∧y.oneCell'=true∧s'=s1++s2∧DiskAt db D' s2∧Out C none1 (fun _=>CfO (cfV x y) c s1) D 0 e D':=by
 have hdl:=dig_len step
 refine Spec.of (n:=39) (vs:=[.pointer (some ⟨db,0,none⟩),.int .i64 (step:Int)]) Tryz.func187 rfl Tryz.ntmps187 rfl ?_
 refine sj [.e,.p] Z<|Rg.alloc Z Z Z Z (fun b4=>?_)
 refine aj Z<|nl<|sj [.p,.p,.e,.p,.e,.p,.p,.p,.p,.p] Z<|mj Z<|mj Z<|Rg.callP Z Z Z (mz Z) (itoa_spec step hst) ?_
 rintro _ rfl
 refine uj Z (Pv.as (kS (stN step)) (Pv.addK rfl rfl (by simp;omega)) rfl)<|Rg.callH Z Z Z (mz Z) (fun F' hF'=>cread_z (F:=F') hC hD hw (stN step)) Z ?_
 rintro _ _ ⟨u15,s1,s2,bs,e1,D1,rfl,rfl,own15,hD1,hO1⟩
 rw [lx]
 rw [hf] at hO1
 refine mj Z<|xj Z Z<|xj Z Z<|aj Z<|aj Z<|nl<|wj<|sj [.p,.p] Z<|mj Z<|uj Z (Pv.neq Z Z)<|nl<|cj Z (fun h19=>?_) (fun h19=>?_)
 · simp only [bne_iff_ne,ne_eq] at h19
   obtain ⟨he7,hB⟩:=hO1.bad h19
   subst he7
   refine sj [.p,.p,.e,.p] Z<|uj Z (Pv.build (c:=#[.slice none 0 0,.slice none 0 0]) Z Z)<|mj Z<|Rg.storeA (us:=[.slice none 0 0,.slice none 0 0]) Z Z Z Z Z Z Z Z<|aj Z<|nl ?_
   exact vr (hl':=s2) rfl (.cons (.cellA rfl rfl) (tz Z)) ⟨.slice none 0 0,.slice none 0 0,7,D1,[],s2,rfl,rfl,rfl,rfl,hD1,hO1.1,.inr ⟨rfl,hB⟩⟩ pulled
 · simp only [bne_eq_false_iff_eq] at h19
   subst h19
   obtain ⟨_,hG1,hbs⟩:=hO1.good (by decide)
   replace hbs:bs=stB step c:=hbs.trans hfn
   subst hbs
   refine kj<|sj [.p,.e,.p,.p,.p,.p,.e,.p,.e,.p] Z<|mj Z<|Rg.callA Z Z Z (mz Z) (sdecode_spec hi hn (by omega) (Arg.own own15 frz_sb)) ?_
   rintro v24 s24 ⟨u24,rfl,x,y,q1,q2,rfl,o1,o2,rfl⟩
   have ho1:=o1.one
   have ho2:=o2.one
   refine mj Z<|xj Z Z<|xj Z Z<|xj Z Z<|Rg.alloc Z Z Z Z (fun b9=>?_)
   refine aj Z<|Rg.storeA (us:=[x,y]) rfl rfl rfl rfl rfl (by simp [ho1,ho2]) rfl rfl<|aj Z<|nl<|wj<|bj<|sj [.p,.p,.p] Z<|mj Z<|uj Z (Pv.neq Z Z)<|aj Z<|nl<|cj Z (fun h28=>absurd h28 (by decide)) (fun h28=>?_)
   refine sj [.p,.p,.p,.p] Z<|mj Z<|mj Z<|uj Z (Pv.neq Z Z)<|aj Z<|nl<|cj Z (fun h33=>absurd h33 (by simp)) (fun h33=>?_)
   refine kj<|dj<|sj [.r,.e,.p] Z<|rj Z (Ev.as (cfV x y) (Ev.ldA Z Z) Z)<|Rg.storeA (us:=[x,y]) rfl rfl rfl rfl rfl (by simp [ho1,ho2]) rfl rfl<|aj Z<|nl ?_
   exact vr rfl (.cons (.cellA rfl rfl) (tz Z)) (⟨x,y,0,D1,q1++q2,s2,rfl,ho1,ho2,rfl,hD1,hO1.1,.inl ⟨rfl,hG1,x,y,q1,q2,rfl,o1,o2,rfl⟩⟩) pulled
end
def SlotI (D:Dk) (i:Nat) (o:Option Ma):Prop:=OkO o∧findF D.files (slN i)=o.map fun m=>⟨maB m,maB m⟩
theorem SlotI.same {D D':Dk} {i:Nat} {o:Option Ma} (h:SlotI D i o) (hs:findF D'.files (slN i)=findF D.files (slN i)):SlotI D' i o:=⟨h.1,hs.trans h.2⟩
theorem nowO_slot (o:Option Ma):nowO (o.map fun m=>(⟨maB m,maB m⟩:Fl))=oB o:=by cases o<;>rfl
theorem codeO_or (o:Option Fl):codeO o=0∨codeO o=4:=by cases o;exact .inr rfl;exact .inl rfl
section
variable {F : Fm} {db : Nat} {C : Cx} {D : Dk} {s : Hl}
set_option maxHeartbeats 4000000 in
theorem load_z {o0 o1:Option Ma} (h0:SlotI D 0 o0) (h1:SlotI D 1 o1) (hC:C.Ok) (hD:DiskAt db D s) (hw:Wz C D) (hup:D.down=false) :
 Spec Tryz.prog 54 #[.pointer (some ⟨db,0,none⟩)] F s fun v s'=>∃m bb e D',v=.tuple #[maV m,.bool bb,.int .i64 e]∧DiskAt db D' s'∧Out C none1 (fun _=>m=(pickM o0 o1).getD ma0∧bb=(pickM o0 o1).isSome) D 0 e D':=by
 refine Spec.of (n:=40) (vs:=[.pointer (some ⟨db,0,none⟩)]) Tryz.func54 rfl Tryz.ntmps54 rfl ?_
 refine sj [.e,.p,.p] Z<|Rg.alloc Z Z Z Z (fun b2=>?_)
 refine aj Z<|aj Z<|nl<|sj [.e] Z<|Rg.alloc Z Z Z Z (fun b5=>?_)
 refine nl<|wj<|sj [.p] Z<|mj Z<|nl<|bj ?_
 refine Vc.loop4 (fun (j:Nat) (v0 v1:Value) (hr:Hl)=>j≤2∧∃g0 g1 g D',hr=g0++(g1++g)∧Own byteE v0 (if 0<j then oB o0 else []) g0∧Own byteE v1 (if 1<j then oB o1 else []) g1∧DiskAt db D' g∧Wz C D'∧Gd none1 D D') (fun j v0 v1 hr=>[(0,.pointer (some ⟨db,0,none⟩)),(2,.pointer (some ⟨b2,0,none⟩)),(5,.pointer (some ⟨b5,0,none⟩)),(7,.int .i64 (j:Int))]) (fun j v0 v1 hr=>(b5,cellsO [v0,v1] 148)::(b2,cellsO (maC ma0) 126)::hr) (fun j v0 v1 hr=>2-j) 0 (.slice none 0 0) (.slice none 0 0) s ⟨by omega,[],[],s,D,rfl,.nil,.nil,hD,hw,Gd.refl hup⟩ (.cons rfl (.cons rfl (.cons rfl (.cons rfl .nil)))) pulled ?_
 rintro j v0 v1 _ ⟨hj,g0,g1,g,D1,rfl,ow0,ow1,hD1,hW1,hG1⟩
 refine sj [.p] Z<|uj Z (Pv.lss Z Z)<|nl<|wj<|cj Z (fun h8=>?_) (fun h8=>?_)
 · simp only [dt] at h8
   have hdl:=dig_len j
   obtain ⟨o,ho⟩:∃o,SlotI D j o∧((j=0∧o=o0)∨(j=1∧o=o1)):=by
    have hj2:j=0∨j=1:=by omega
    rcases hj2 with rfl | rfl
    · exact ⟨o0,h0,.inl ⟨rfl,rfl⟩⟩
    · exact ⟨o1,h1,.inr ⟨rfl,rfl⟩⟩
   have ho1:=ho.1.same (hG1.same (slN j) id)
   refine kj<|wj<|bj<|sj [.p,.p] Z<|mj Z<|aj Z<|nl<|sj [.p,.p,.p,.e,.p,.e,.p,.p,.p,.p,.e,.p] Z<|mj Z<|mj Z<|mj Z<|Rg.callP Z Z Z (mz Z) (itoa_spec j (by omega)) ?_
   rintro _ rfl
   refine uj Z (Pv.as (kS (slN j)) (Pv.addK rfl rfl (by simp;omega)) rfl)<|Rg.callH Z Z Z (mz Z) (fun F' hF'=>cread_z (F:=F') hC hD1 hW1 (slN j)) Z ?_
   rintro _ _ ⟨u,s1,s2,bs,e2,D2,rfl,rfl,own,hD2,hO2⟩
   rw [lx]
   rw [ho1.2,nowO_slot] at hO2
   have hu:=own.one
   obtain ⟨w0,w1,hq,hw01⟩:∃w0 w1,setL [v0,v1] (0+j*1) u=some [w0,w1]∧((j=0∧w0=u∧w1=v1)∨(j=1∧w0=v0∧w1=u)):=by
    have hj2:j=0∨j=1:=by omega
    rcases hj2 with rfl | rfl
    · exact ⟨u,v1,rfl,.inl ⟨rfl,rfl,rfl⟩⟩
    · exact ⟨v0,u,rfl,.inr ⟨rfl,rfl,rfl⟩⟩
   refine mj Z<|xj Z Z<|xj Z Z<|uj Z (Pv.ixArr j rfl rfl rfl (by omega))<|Rg.store Z Z Z Z Z hu hq Z<|aj Z<|nl<|sj [.p,.p,.p,.p,.p,.p] Z<|mj Z<|uj Z (Pv.neq Z Z)<|mj Z<|Rg.split (t:=22) Z (fun h22=>?_) (fun h22=>?_)
   · simp only [bne_iff_ne,ne_eq] at h22
     refine mj Z<|uj Z (Pv.neq Z Z)<|qj Z Z<|nl<|cj Z (fun h25=>?_) (fun h25=>?_)
     · simp only [bne_iff_ne,ne_eq] at h25
       have hcc:=codeO_or (o.map fun m=>(⟨maB m,maB m⟩:Fl))
       obtain ⟨he7,hB⟩:=hO2.bad (fun h=>by rcases hcc with hc | hc<;>rw [hc] at h<;>omega)
       subst he7
       refine sj [.r,.p,.e,.p,.p] Z<|rj Z (Ev.as (maV ma0) (Ev.ldA Z Z) Z)<|mj Z<|Rg.storeA (us:=maC ma0) Z Z Z Z Z Z Z Z<|aj Z<|aj Z<|nl ?_
       exact vr rfl (.cons (.cellA rfl rfl) (.cons (.tmp rfl) (tz Z))) (⟨ma0,false,7,D2,rfl,hD2,hO2.1,.inr ⟨rfl,hG1.dn hB⟩⟩) pulled
     · simp only [bne_eq_false_iff_eq] at h25
       subst h25
       refine kj<|dj<|tj [.p,.p] Z ?_
       obtain ⟨_,hG2,hbs⟩:=hO2.good (by decide)
       subst hbs
       refine uj Z (Pv.asI (j+1) (Pv.add rfl rfl (by omega)) (by omega))<|mj Z<|nl ?_
       rcases hw01 with ⟨rfl,rfl,rfl⟩ | ⟨rfl,rfl,rfl⟩
       · obtain rfl:o=o0:=(ho.2.resolve_right (fun h=>by cases h.1)).2
         exact Vc.inv4 1 w0 w1 (s1++(g1++s2)) ⟨⟨by omega,s1,g1,s2,D2,rfl,own,ow1,hD2,hO2.1,hG1.trans hG2⟩,by omega⟩ (.cons rfl (.cons rfl (.cons rfl (.cons rfl .nil)))) pulled
       · obtain rfl:o=o1:=(ho.2.resolve_left (fun h=>by cases h.1)).2
         exact Vc.inv4 2 w0 w1 (g0++(s1++s2)) ⟨⟨by omega,g0,s1,s2,D2,rfl,ow0,own,hD2,hO2.1,hG1.trans hG2⟩,by omega⟩ (.cons rfl (.cons rfl (.cons rfl (.cons rfl .nil)))) pulled
   · simp only [bne_eq_false_iff_eq] at h22
     subst h22
     iterate 2 (first | refine Rg.skipP rfl rfl rfl ?_ | refine Rg.skipR rfl rfl rfl ?_ | refine Rg.skipE rfl rfl rfl ?_)
     refine pj Z Z<|nl<|Vc.condF Z<|kj<|dj<|tj [.p,.p] Z ?_
     obtain ⟨_,hG2,hbs⟩:=hO2.good (by decide)
     subst hbs
     refine uj Z (Pv.asI (j+1) (Pv.add rfl rfl (by omega)) (by omega))<|mj Z<|nl ?_
     rcases hw01 with ⟨rfl,rfl,rfl⟩ | ⟨rfl,rfl,rfl⟩
     · obtain rfl:o=o0:=(ho.2.resolve_right (fun h=>by cases h.1)).2
       exact Vc.inv4 1 w0 w1 (s1++(g1++s2)) ⟨⟨by omega,s1,g1,s2,D2,rfl,own,ow1,hD2,hO2.1,hG1.trans hG2⟩,by omega⟩ (.cons rfl (.cons rfl (.cons rfl (.cons rfl .nil)))) pulled
     · obtain rfl:o=o1:=(ho.2.resolve_left (fun h=>by cases h.1)).2
       exact Vc.inv4 2 w0 w1 (g0++(s1++s2)) ⟨⟨by omega,g0,s1,s2,D2,rfl,ow0,own,hD2,hO2.1,hG1.trans hG2⟩,by omega⟩ (.cons rfl (.cons rfl (.cons rfl (.cons rfl .nil)))) pulled
 · simp only [df] at h8
   obtain rfl:j=2:=by omega
   refine Vc.exit Z<|sj [.p,.r,.p,.r,.e,.p,.p,.p,.p,.e,.p] Z<|uj Z (Pv.ixArr 0 rfl rfl rfl (by omega))<|lj Z Z<|uj Z (Pv.ixArr 1 rfl rfl rfl (by omega))<|lj Z Z<|Rg.callA Z Z Z (mz Z) (choose_spec (a:=o0) (b:=o1) h0.1 h1.1 (Arg.own ow0 frz_sb) (Arg.own ow1 frz_sb)) ?_
   rintro v34 s34 ⟨k,rfl⟩
   refine mj Z<|xj Z Z<|xj Z Z<|xj Z Z<|Rg.storeA (us:=maC ((pickM o0 o1).getD ma0)) Z Z Z Z Z Z Z Z<|aj Z<|nl<|sj [.r,.p,.e,.p,.p] Z<|rj Z (Ev.as (maV ((pickM o0 o1).getD ma0)) (Ev.ldA Z Z) Z)<|mj Z<|Rg.storeA (us:=maC ((pickM o0 o1).getD ma0)) Z Z Z Z Z Z Z Z<|aj Z<|aj Z<|nl ?_
   exact vr rfl (.cons (.cellA rfl rfl) (.cons (.tmp rfl) (tz Z))) (⟨_,_,0,D1,rfl,hD1,hW1,.inl ⟨rfl,hG1,rfl,rfl⟩⟩) pulled
end
theorem flatB_get (xs:List UInt8) (j:Nat):(flat byteE xs)[j]? = xs[j]?.map fun b=>.int .u8 (b.toNat:Int):=by
 have:flat byteE xs=xs.map fun b=>.int .u8 (b.toNat:Int):=by
  induction xs with
  | nil=>rfl
  | cons x xs ih=>show .int .u8 (x.toNat:Int)::flat byteE xs=_;rw [ih];rfl
 rw [this,List.getElem?_map]
theorem freeze_put {w:World} {b:Nat} {cs:Array Value} {e:TypeId} (hb:w.heap[b]? = some (.cells cs e)):w.freeze ⟨b,cs.size,none⟩ 1=Go.Proofs.YtkpiakgmkpbikaaGreatDoor.putB w b (.cells cs e (cs.size,cs.size+1)):=by
 have hlt:=(Array.getElem?_eq_some_iff.1 hb).1
 unfold World.freeze
 rw [if_neg (by decide)]
 unfold Go.Proofs.YtkpiakgmkpbikaaGreatDoor.putB
 congr 1
 apply Array.ext_getElem?
 intro k
 rw [Array.getElem?_modify,Array.getElem?_setIfInBounds]
 by_cases e:b=k
 · subst e
   rw [if_pos rfl,if_pos rfl,if_pos hlt,hb]
   simp
 · rw [if_neg e,if_neg e]
section
variable {P : Program} {Qf : Exit → Act → World → Prop} {n : Nf} {F : Fm} {ks : List KItem} {ops : List Oper} {clr : List Nat} {hs hl : Hl} {r : Sd} {i t0 : Nat} {l : Env} {ty : TypeId} {pos : String} {af : Array Edge} {g : Option (Nat × Bool)}
theorem Rg.strB {s t e:TypeId} {x:Operand} {xs:List UInt8} [hu:TyUnder P s .string] [ht:TyUnder P t (.slice e)] [he:TyUnder P e (.int .u8)] (ho:nth ops i=some ⟨some t0,.convert s t x,ty,pos,af,g⟩) (hg:wantB ops l g=some true) (h0:Nat.blt t0 n.n=true) (hx:ev l x=some (kS xs)) (hml:xs.length≤maxLen)
 (h:∀(b:Nat) (o:Obj) (c:Nat),xs.length≤c→(∀(F':Fm) (hl':Hl),Has F' hl' b o→Src byteE F' hl' (.slice (some ⟨b,0,none⟩) xs.length c) xs)→Rg P Qf n F ks ops clr ((b,o)::hl) r ((t0,.slice (some ⟨b,0,none⟩) xs.length c)::l) ((b,o)::hl)):Rg P Qf n F ks ops clr hl (.st i .eff r) l hl :=
 Rg.run ho hg fun a w hf hh=>by
  have hr:=Lib.run_convert_string_bytes (P:=P) w s t e ⟨xs.toArray⟩ hu.under ht.under he.under
  have hsz:(⟨xs.toArray⟩:ByteArray).size=xs.length:=by simp [ByteArray.size]
  rw [hsz] at hr
  have hA:=hh.drew.alloc (.cells (Lib.bytesCells w e ⟨xs.toArray⟩) e)
  have hB:=(show Lens ((w.drew.heap.size,.cells (Lib.bytesCells w e ⟨xs.toArray⟩) e)::hl) w.drew.heap.size (.cells (Lib.bytesCells w e ⟨xs.toArray⟩) e) (fun o'=>(w.drew.heap.size,o')::hl) from ⟨[],hl,rfl,fun _=>rfl⟩).putB hA (.cells (Lib.bytesCells w e ⟨xs.toArray⟩) e ((Lib.bytesCells w e ⟨xs.toArray⟩).size,(Lib.bytesCells w e ⟨xs.toArray⟩).size+1))
  have hw:Lib.bytesWorld w e ⟨xs.toArray⟩=putB { w.drew with heap:=w.drew.heap.push (.cells (Lib.bytesCells w e ⟨xs.toArray⟩) e) } w.drew.heap.size (.cells (Lib.bytesCells w e ⟨xs.toArray⟩) e ((Lib.bytesCells w e ⟨xs.toArray⟩).size,(Lib.bytesCells w e ⟨xs.toArray⟩).size+1)):=by
   unfold Lib.bytesWorld
   exact freeze_put (w:=w.drew.alloc (.cells (Lib.bytesCells w e ⟨xs.toArray⟩) e)) (b:=w.heap.size) (show (w.drew.heap.push _)[w.drew.heap.size]? = _ from Array.getElem?_push_size)
  rw [←hw] at hB
  have hge:xs.length≤grownCap w xs.length 0 e:=grownCap_ge w _ 0 _
  refine ⟨_,_,_,_,.inl ⟨_,by simp [execOp,hf.ev hx,hr],hf.put h0 _⟩,hB,hB.st,.one,h w.heap.size _ (grownCap w xs.length 0 e) hge ?_⟩
  exact fun F' hl' hF'=>.inr ⟨w.heap.size,0,_,rfl,fun w' hw' j u hu=>by
   rw [flatB_get] at hu
   obtain ⟨b,hb,rfl⟩:=Option.map_eq_some_iff.1 hu
   have hlt:=(List.getElem?_eq_some_iff.1 hb).1
   have:=hF'.st hw'
   simp only [World.cell?,this,Nat.zero_add]
   have hbe:xs[j]=b:=by rw [List.getElem?_eq_getElem hlt] at hb;exact Option.some.inj hb
   simp [Lib.bytesCells,Array.getElem?_append,hlt,hbe]⟩
end
section
variable {F : Fm}
theorem iatoi_dig (j:Nat) (hj:j<10):Spec Tryz.prog 103 #[kS (dig j)] F [] fun v _=>v=.tuple #[.int .i64 (j:Int),.nilIface]:=by
 obtain ⟨d,hd⟩:∃d,d=UInt8.ofNat (48+j):=⟨_,rfl⟩
 have hdn:d.toNat=48+j:=by rw [hd];simp;omega
 rw [show dig j=[d] by unfold dig;rw [if_pos hj,hd]]
 refine Spec.of (n:=77) (vs:=[kS [d]]) Tryz.func103 rfl Tryz.ntmps103 rfl ?_
 refine sj [.p,.p] Z<|aj Z<|aj Z<|nl<|sj [.p,.p,.p] Z<|mj Z<|uj Z (Pv.lenStr Z)<|aj Z<|nl<|wj<|sj [.p,.p,.p,.p,.p,.p,.p,.p,.p,.p,.p,.p,.p,.p,.p,.p,.p,.p] Z<|mj Z<|Rg.split (t:=13) rfl (fun h13=>absurd h13 (by decide)) (fun h13=>?_)
 iterate 6 (first | refine Rg.skipP rfl rfl rfl ?_ | refine Rg.skipR rfl rfl rfl ?_ | refine Rg.skipE rfl rfl rfl ?_)
 refine pj Z Z<|mj Z<|mj Z<|Rg.split (t:=22) rfl (fun h22=>?_) (fun h22=>absurd h22 (by decide))
 refine mj Z<|uj Z (Pv.lss Z Z)<|mj Z<|Rg.split (t:=25) rfl (fun h25=>?_) (fun h25=>absurd h25 (by show ¬decide ((0:Int)<((1:Nat):Int))=false;decide))
 refine mj Z<|uj Z (Pv.lss Z Z)<|qj Z Z<|qj Z Z<|pj Z Z<|nl<|cj Z (fun h30=>?_) (fun h30=>absurd h30 (by show ¬decide (((1:Nat):Int)<19)=false;decide))
 refine sj [.p,.p] Z<|mj Z<|aj Z<|nl<|wj<|sj [.p,.p,.p,.p,.p,.p,.p,.p] Z<|mj Z<|uj Z (Pv.as (.int .u8 ((48+j:Nat):Int)) (Pv.indexS 0 (b:=d) rfl rfl rfl) (congrArg (Value.int .u8) (by omega)))<|uj Z (Pv.eql Z Z)<|mj Z<|Rg.split (t:=35) rfl (fun h35=>absurd h35 (by simp;omega)) (fun h35=>?_)
 refine mj Z<|uj Z (Pv.as (.int .u8 ((48+j:Nat):Int)) (Pv.indexS 0 (b:=d) rfl rfl rfl) (congrArg (Value.int .u8) (by omega)))<|uj Z (Pv.eql Z Z)<|pj Z Z<|nl<|cj Z (fun h39=>absurd h39 (by simp;omega)) (fun h39=>?_)
 refine kj<|sj [.p] Z<|aj Z<|nl<|wj<|sj [.p,.e,.p,.p] Z<|mj Z<|Rg.strB Z Z Z Z (by show 1≤maxLen;decide) (fun b47 o47 c47 hc47 harg=>?_)
 refine uj Z (Pv.lenS Z)<|mj Z<|nl<|bj ?_
 refine Vc.loop2 (fun (i:Nat) (z:Nat)=>i≤1∧z=if i=0 then 0 else j) (fun i z=>[(0,kS [d]),(5,kS [d]),(6,.int .i64 (z:Int)),(47,.slice (some ⟨b47,0,none⟩) 1 c47),(48,.int .i64 1),(49,.int .i64 (i:Int))]) (fun i z=>[(b47,o47)]) (fun i z=>1-i) 0 0 ⟨by omega,rfl⟩ (.cons rfl (.cons rfl (.cons rfl (.cons rfl (.cons rfl (.cons rfl .nil)))))) pulled ?_
 rintro i z ⟨hi,hz⟩
 refine sj [.p] Z<|uj Z (Pv.lss Z Z)<|nl<|wj<|cj Z (fun h50=>?_) (fun h50=>?_)
 · simp only [dt] at h50
   obtain rfl:i=0:=by omega
   rw [if_pos rfl] at hz
   subst hz
   refine kj<|wj<|bj<|sj [.p,.r,.p] Z<|uj Z (Pv.ixA (0) rfl rfl (by omega) (by omega))<|rj Z (Ev.as (.int .u8 ((48+j:Nat):Int)) (Ev.ldS (E:=byteE) 0 (harg _ _ inferInstance) rfl rfl rfl (by show 0<1;decide)) (congrArg (Value.int .u8) (by show ((d.toNat:Nat):Int)=_;omega)))<|aj Z<|nl<|sj [.p,.p,.p] Z<|mj Z<|uj Z (Pv.asI j (Pv.subW rfl rfl) (by rw [show (((48+j:Nat):Int)-48)=((j:Nat):Int) by omega];exact wrap_ult rfl (by show _<2 ^ 8;omega)))<|aj Z<|nl<|wj<|sj [.p,.p] Z ?_
   refine mj Z<|uj Z (Pv.gtr Z Z)<|nl<|cj Z (fun h56=>absurd h56 (by simp;omega)) (fun h56=>?_)
   refine kj<|tj [.p,.p,.p,.p,.p,.p] Z<|mj Z<|uj Z (Pv.mul rfl rfl (by omega))<|mj Z<|uj Z (Pv.asI j (Pv.convI rfl) (i64_wrap (by omega)))<|uj Z (Pv.asI (j) (Pv.add rfl rfl (by omega)) (by omega))<|aj Z<|nl<|dj<|tj [.p,.p] Z<|uj Z (Pv.asI (1) (Pv.add rfl rfl (by omega)) (by omega))<|mj Z<|nl ?_
   exact Vc.inv2 1 j ⟨⟨by omega,rfl⟩,by omega⟩ (.cons rfl (.cons rfl (.cons rfl (.cons rfl (.cons rfl (.cons rfl .nil)))))) pulled
 · simp only [df] at h50
   obtain rfl:i=1:=by omega
   rw [if_neg (by omega)] at hz
   rw [hz]
   refine Vc.exit Z<|wj<|sj [.p,.p,.p] Z<|mj Z<|uj Z (Pv.as (.int .u8 ((48+j:Nat):Int)) (Pv.indexS 0 (b:=d) rfl rfl rfl) (congrArg (Value.int .u8) (by omega)))<|uj Z (Pv.eql Z Z)<|nl<|cj Z (fun h66=>absurd h66 (by simp;omega)) (fun h66=>?_)
   refine kj<|sj [.p,.p,.p] Z<|mj Z<|aj Z<|aj Z<|nl<|Vc.ret (Vc.rets Z (.cons (.tmp Z) (tz Z)) ?_)
   rfl
end
class TyIfc (P:Program) (t:TypeId):Prop where
 under:P.underlying t=some (.interface (P.methodsAt t))
instance : TyIfc Tryz.prog 161:=⟨by kernel_rfl⟩
section
variable {P : Program} {n : Nf} {l : Env} {d : Option Tmp} {ty : TypeId} {pos : String} {af : Array Edge} {g : Option (Nat × Bool)}
theorem Pv.eqNilT {t t':TypeId} {x:Operand} [hi:TyIfc P t] (hx:ev l x=some .nilIface):Pv P n l ⟨d,.binOp .eql t x (.const .nilIface) t',ty,pos,af,g⟩ (.bool true):=fun a w hf=>by
 have h:=run_equal_nil_nil (P:=P) w t hi.under
 simp [execOp,hf.ev hx,hf.ev (show ev l (.const .nilIface)=some .nilIface from rfl),eqGuard,binOp,h]
theorem Pv.eqNilF {t t' T:TypeId} {x:Operand} {p:Value} [hi:TyIfc P t] (hx:ev l x=some (.iface T p)):Pv P n l ⟨d,.binOp .eql t x (.const .nilIface) t',ty,pos,af,g⟩ (.bool false):=fun a w hf=>by
 have h:=run_equal_held_nil (P:=P) w t T p hi.under
 simp [execOp,hf.ev hx,hf.ev (show ev l (.const .nilIface)=some .nilIface from rfl),eqGuard,binOp,h]
theorem Pv.neNilF {t t':TypeId} {x:Operand} [hi:TyIfc P t] (hx:ev l x=some .nilIface):Pv P n l ⟨d,.binOp .neq t x (.const .nilIface) t',ty,pos,af,g⟩ (.bool false):=fun a w hf=>by
 have h:=run_equal_nil_nil (P:=P) w t hi.under
 simp [execOp,hf.ev hx,hf.ev (show ev l (.const .nilIface)=some .nilIface from rfl),eqGuard,binOp,h]
end
section
variable {F : Fm}
theorem atoi_dig (j:Nat) (hj:j<10):Spec Tryz.prog 81 #[kS (dig j)] F [] fun v _=>v=.tuple #[.int .i64 (j:Int),.nilIface]:=by
 refine Spec.of (n:=18) (vs:=[kS (dig j)]) Tryz.func81 rfl Tryz.ntmps81 rfl ?_
 refine sj [.p,.p] Z<|aj Z<|aj Z<|nl<|sj [.p,.e,.p,.p,.p,.p,.p] Z<|mj Z<|Rg.callP Z Z Z (mz Z) (iatoi_dig j hj) ?_
 rintro _ rfl
 refine mj Z<|xj Z Z<|xj Z Z<|aj Z<|aj Z<|nl<|wj<|sj [.p,.p] Z<|mj Z<|uj Z (Pv.neNilF Z)<|nl<|cj Z (fun h12=>absurd h12 (by decide)) (fun h12=>?_)
 refine kj<|sj [.p,.p,.p] Z<|mj Z<|aj Z<|aj Z<|nl<|Vc.ret (Vc.rets Z (.cons (.tmp Z) (tz Z)) ?_)
 rfl
def AtoiN (F:Fm):Prop:=∀F':Fm,(∀b o,F.at_ b o→F'.at_ b o)→Spec Tryz.prog 81 #[kS [110,101,119]] F' [] fun v _=>∃T p,v=.tuple #[.int .i64 0,.iface T p]
def Stays (k:Nm) (m:Ma) (is:Bool):Prop:=k=slN 0∨k=slN 1∨(is=true∧((∃j:Nat,j<10∧(j:Int)≤m.step∧k=stN j)∨∃i:Nat,i<m.sh∧k=shN i))
end
abbrev stP:Nm:=[115,116,97,116,101,46]
theorem stP_sh {k:Nm} (h:stP <+: k) (i:Nat):k≠shN i:=by rintro rfl;simp [shN] at h
theorem stP_st (j:Nat):stP <+: stN j:=List.prefix_append _ _
theorem stN_inj {i j:Nat} (hi:i<100) (hj:j<100) (h:stN i=stN j):i=j:=dig_inj hi hj (List.append_cancel_left (show stP++dig i=stP++dig j from h))
theorem stT_stN {j:Nat} (hj:j<100):stT≠stN j:=stT_ne j hj
theorem kSd_ne {xs ys:List UInt8} (h:decide ((⟨xs.toArray⟩:ByteArray)=⟨ys.toArray⟩)=false):xs≠ys:=fun e=>of_decide_eq_false h (by rw [e])
theorem kSd_eq {xs ys:List UInt8} (h:decide ((⟨xs.toArray⟩:ByteArray)=⟨ys.toArray⟩)=true):xs=ys:=by
 have:=of_decide_eq_true h
 injection this with this
 exact List.toArray_inj this
theorem no_stays {k:Nm} {m:Ma} {is:Bool} (h0:k≠slN 0) (h1:k≠slN 1) (hs:is=true→(∀j:Nat,j<10→(j:Int)≤m.step→k≠stN j)∧∀i:Nat,i<m.sh→k≠shN i):∃b,Value.bool false=.bool b∧(b=true↔Stays k m is) :=
 ⟨false,rfl,(fun h=>by cases h),fun h=>by
  rcases h with h | h | ⟨hi,⟨j,a,b,c⟩ | ⟨i,a,b⟩⟩
  · exact absurd h h0
  · exact absurd h h1
  · exact absurd c ((hs hi).1 j a b)
  · exact absurd b ((hs hi).2 i a)⟩
section
variable {F : Fm}
set_option maxHeartbeats 4000000 in
theorem stays_spec (hA:AtoiN F) {k:Nm} {m:Ma} {is:Bool} (hk:k.length<1000) (hsh:m.sh<100) (hn:stP <+: k→k=stT∨∃j,j<10∧k=stN j) :
 Spec Tryz.prog 71 #[kS k,maV m,.bool is] F [] fun v _=>∃b,v=.bool b∧(b=true↔Stays k m is):=by
 obtain ⟨text,htext⟩:∃text,text=if stP <+: k then k.drop stP.length else k:=⟨_,rfl⟩
 have hT:k=stT→text=[110,101,119]:=by rintro rfl;rw [htext];decide
 have hJ:∀j,k=stN j→text=dig j:=by
  rintro j rfl
  rw [htext,if_pos (stP_st j)]
  exact List.drop_left' rfl
 have hat:stP <+: k→∀F',(∀b o,F.at_ b o→F'.at_ b o)→Spec Tryz.prog 81 #[kS text] F' [] fun v _=>∃z e be,v=.tuple #[.int .i64 z,e]∧((e=.nilIface∧be=true)∨((∃T p,e=.iface T p)∧be=false))∧(be=true→∃j:Nat,j<10∧k=stN j∧z=(j:Int))∧(be=false→k=stT):=by
  intro hp F' hF'
  rcases hn hp with h | ⟨j,hj,h⟩
  · rw [hT h]
    exact (hA F' hF').mono fun v s ⟨T,p,hv⟩=>⟨0,_,false,hv,.inr ⟨⟨T,p,rfl⟩,rfl⟩,(fun h=>by cases h),fun _=>h⟩
  · rw [hJ j h]
    exact (atoi_dig j hj).mono fun v s hv=>⟨_,_,true,hv,.inl ⟨rfl,rfl⟩,fun _=>⟨j,hj,h,rfl⟩,(fun h=>by cases h)⟩
 have h01:slN 0=[115,108,111,116,46,48]∧slN 1=[115,108,111,116,46,49]:=by decide
 refine Spec.of (n:=63) (vs:=[kS k,maV m,.bool is]) Tryz.func71 rfl Tryz.ntmps71 rfl ?_
 refine sj [.e,.p] Z<|Rg.box Z Z Z Z Z (fun b4=>?_)
 refine aj Z<|nl<|wj<|sj [.p,.p,.p,.p,.p,.p] Z<|mj Z<|uj Z (Pv.eqlS Z Z)<|mj Z<|Rg.split (t:=14) Z (fun h14=>?_) (fun h14=>?_)
 · iterate 2 (first | refine Rg.skipP rfl rfl rfl ?_ | refine Rg.skipR rfl rfl rfl ?_ | refine Rg.skipE rfl rfl rfl ?_)
   refine qj Z Z<|nl<|Vc.condT Z<|sj [.p] Z<|aj Z<|nl<|vz Z (tz Z) ?_
   exact ⟨true,rfl,fun _=>.inl (kSd_eq (ys:=[115,108,111,116,46,48]) h14),fun _=>rfl⟩
 · have hk0:k≠slN 0:=kSd_ne (ys:=[115,108,111,116,46,48]) h14
   refine mj Z<|uj Z (Pv.eqlS Z Z)<|pj Z Z<|nl<|cj Z (fun h17=>?_) (fun h17=>?_)
   · refine sj [.p] Z<|aj Z<|nl<|vz Z (tz Z) ?_
     exact ⟨true,rfl,fun _=>.inr (.inl (kSd_eq (ys:=[115,108,111,116,46,49]) h17)),fun _=>rfl⟩
   · have hk1:k≠slN 1:=kSd_ne (ys:=[115,108,111,116,46,49]) h17
     refine kj<|wj<|sj [.p,.e,.p,.p,.p,.p,.p] Z<|mj Z<|Rg.callP Z Z Z (mz Z) (cutPrefix_spec k stP (by omega)) ?_
     rintro _ rfl
     rw [←htext]
     refine mj Z<|xj Z Z<|xj Z Z<|aj Z<|aj Z<|nl<|sj [.p,.p,.p,.p] Z<|mj Z<|mj Z<|Rg.split (t:=24) Z (fun h24=>?_) (fun h24=>?_)
     · refine mj Z<|qj Z Z<|nl<|cj Z (fun h26=>?_) (fun h26=>?_)
       · refine sj [.p,.e,.p,.p,.p,.p,.p] Z<|mj Z<|Rg.callA Z Z Z (mz Z) (hat (by simpa using h24) _ (fun b o h=>Or.inr h)) ?_
         rintro _ s29 ⟨z,e29,be,rfl,hbe,hz1,hz2⟩
         refine mj Z<|xj Z Z<|xj Z Z<|aj Z<|aj Z<|nl<|sj [.p,.p,.p,.p,.p,.p,.p,.p,.p,.r,.p,.p,.p,.p,.e,.p,.p,.p,.p] Z<|mj Z<|uj Z (show Pv _ _ _ _ (.bool be) from hbe.elim (fun h=>by obtain ⟨rfl,rfl⟩:=h;exact Pv.eqNilT rfl) (fun h=>by obtain ⟨⟨T,p,rfl⟩,rfl⟩:=h;exact Pv.eqNilF rfl))<|mj Z<|Rg.split (t:=34) Z (fun h34=>?_) (fun h34=>?_)
         · obtain ⟨j,hj,hkj,rfl⟩:=hz1 h34
           have hne0:∀i,k≠shN i:=stP_sh (by simpa using h24)
           have htj:=hJ j hkj
           refine mj Z<|uj Z (Pv.geq Z Z)<|qj Z Z<|mj Z<|Rg.split (t:=38) rfl (fun h38=>?_) (fun h38=>absurd h38 (by simp))
           refine mj Z<|fj Z<|lj Z Z<|uj Z (Pv.leq Z Z)<|qj Z Z<|mj Z ?_
           refine Rg.split (t:=44) Z (fun h44=>?_) (fun h44=>?_)
           · simp only [dt] at h44
             refine mj Z<|Rg.callP Z Z Z (mz Z) (itoa_spec j (by omega)) ?_
             rintro _ rfl
             refine mj Z<|uj Z (Pv.eqlS Z Z)<|qj Z Z<|aj Z<|nl<|vz Z (tz Z) ?_
             exact ⟨true,congrArg Value.bool (decide_eq_true (by rw [htj])),fun _=>.inr (.inr ⟨h26,.inl ⟨j,hj,h44,hkj⟩⟩),fun _=>rfl⟩
           · simp only [df] at h44
             iterate 4 (first | refine Rg.skipP rfl rfl rfl ?_ | refine Rg.skipR rfl rfl rfl ?_ | refine Rg.skipE rfl rfl rfl ?_)
             refine pj Z Z<|aj Z<|nl<|vz Z (tz Z) ?_
             exact no_stays hk0 hk1 fun _=>⟨fun j' h1 h2 e=>h44 (by have:=stN_inj (by omega) (by omega) (hkj.symm.trans e);omega),fun i _=>hne0 i⟩
         · have hkT:=hz2 h34
           have hne0:∀i,k≠shN i:=stP_sh (by simpa using h24)
           iterate 2 (first | refine Rg.skipP rfl rfl rfl ?_ | refine Rg.skipR rfl rfl rfl ?_ | refine Rg.skipE rfl rfl rfl ?_)
           refine pj Z Z<|mj Z ?_
           iterate 4 (first | refine Rg.skipP rfl rfl rfl ?_ | refine Rg.skipR rfl rfl rfl ?_ | refine Rg.skipE rfl rfl rfl ?_)
           refine pj Z Z<|mj Z ?_
           iterate 4 (first | refine Rg.skipP rfl rfl rfl ?_ | refine Rg.skipR rfl rfl rfl ?_ | refine Rg.skipE rfl rfl rfl ?_)
           refine pj Z Z<|aj Z<|nl<|vz Z (tz Z) ?_
           exact no_stays hk0 hk1 fun _=>⟨fun j' h1 h2 e=>stT_stN (by omega) (hkT.symm.trans e),fun i _=>hne0 i⟩
       · refine kj<|wj<|sj [.p,.r,.p] Z<|fj Z<|lj Z Z<|mj Z<|nl<|bj ?_
         refine Vc.loop1 (fun (i:Nat)=>i≤m.sh∧(is=true→∀i'<i,k≠shN i')) (fun i=>[(0,kS k),(2,.bool is),(51,.int .i64 (m.sh:Int)),(52,.int .i64 (i:Int))]) (fun i=>[(b4,cellsO (maC m) 126)]) (fun i=>m.sh-i) 0 ⟨Nat.zero_le _,fun _ i' h=>by omega⟩ (.cons rfl (.cons rfl (.cons rfl (.cons rfl .nil)))) pulled ?_
         rintro i ⟨hi,hno⟩
         refine sj [.p] Z<|uj Z (Pv.lss Z Z)<|nl<|wj<|cj Z (fun h53=>?_) (fun h53=>?_)
         · simp only [dt] at h53
           refine kj<|wj<|bj<|sj [.p,.p] Z<|mj Z<|aj Z<|nl<|sj [.p,.p,.p,.p,.e,.p,.p] Z<|mj Z<|mj Z<|Rg.split (t:=56) Z (fun h56=>?_) (fun h56=>?_)
           · refine mj Z<|mj Z<|Rg.callP Z Z Z (mz Z) (shName_spec i (by omega)) ?_
             rintro _ rfl
             refine uj Z (Pv.eqlS Z Z)<|qj Z Z<|nl<|cj Z (fun h61=>?_) (fun h61=>?_)
             · refine sj [.p] Z<|aj Z<|nl<|vz Z (tz Z) ?_
               cases h26.symm.trans h56
             · refine kj<|dj<|tj [.p,.p] Z<|uj Z (Pv.asI (i+1) (Pv.add rfl rfl (by omega)) (by omega))<|mj Z<|nl ?_
               exact Vc.inv1 (i+1) ⟨⟨by omega,fun h=>by cases h26.symm.trans h⟩,by omega⟩ (.cons rfl (.cons rfl (.cons rfl (.cons rfl .nil)))) pulled
           · iterate 4 (first | refine Rg.skipP rfl rfl rfl ?_ | refine Rg.skipR rfl rfl rfl ?_ | refine Rg.skipE rfl rfl rfl ?_)
             refine pj Z Z<|nl<|Vc.condF Z<|kj<|dj<|tj [.p,.p] Z<|uj Z (Pv.asI (i+1) (Pv.add rfl rfl (by omega)) (by omega))<|mj Z<|nl ?_
             exact Vc.inv1 (i+1) ⟨⟨by omega,fun h=>by cases h26.symm.trans h⟩,by omega⟩ (.cons rfl (.cons rfl (.cons rfl (.cons rfl .nil)))) pulled
         · simp only [df] at h53
           obtain rfl:i=m.sh:=by omega
           refine Vc.exit Z<|sj [.p] Z<|aj Z<|nl<|vz Z (tz Z) ?_
           exact no_stays hk0 hk1 fun h=>by cases h26.symm.trans h
     · (first | refine Rg.skipP rfl rfl rfl ?_ | refine Rg.skipR rfl rfl rfl ?_ | refine Rg.skipE rfl rfl rfl ?_)
       refine pj Z Z<|nl<|Vc.condF Z<|kj<|wj<|sj [.p,.r,.p] Z<|fj Z<|lj Z Z<|mj Z<|nl<|bj ?_
       refine Vc.loop1 (fun (i:Nat)=>i≤m.sh∧(is=true→∀i'<i,k≠shN i')) (fun i=>[(0,kS k),(2,.bool is),(51,.int .i64 (m.sh:Int)),(52,.int .i64 (i:Int))]) (fun i=>[(b4,cellsO (maC m) 126)]) (fun i=>m.sh-i) 0 ⟨Nat.zero_le _,fun _ i' h=>by omega⟩ (.cons rfl (.cons rfl (.cons rfl (.cons rfl .nil)))) pulled ?_
       rintro i ⟨hi,hno⟩
       refine sj [.p] Z<|uj Z (Pv.lss Z Z)<|nl<|wj<|cj Z (fun h53=>?_) (fun h53=>?_)
       · simp only [dt] at h53
         refine kj<|wj<|bj<|sj [.p,.p] Z<|mj Z<|aj Z<|nl<|sj [.p,.p,.p,.p,.e,.p,.p] Z<|mj Z<|mj Z<|Rg.split (t:=56) Z (fun h56=>?_) (fun h56=>?_)
         · refine mj Z<|mj Z<|Rg.callP Z Z Z (mz Z) (shName_spec i (by omega)) ?_
           rintro _ rfl
           refine uj Z (Pv.eqlS Z Z)<|qj Z Z<|nl<|cj Z (fun h61=>?_) (fun h61=>?_)
           · refine sj [.p] Z<|aj Z<|nl<|vz Z (tz Z) ?_
             exact ⟨true,rfl,fun _=>.inr (.inr ⟨h56,.inr ⟨i,by omega,kSd_eq h61⟩⟩),fun _=>rfl⟩
           · refine kj<|dj<|tj [.p,.p] Z<|uj Z (Pv.asI (i+1) (Pv.add rfl rfl (by omega)) (by omega))<|mj Z<|nl ?_
             exact Vc.inv1 (i+1) ⟨⟨by omega,fun h i' hi'=>by
              rcases Nat.lt_or_ge i' i with h' | h'
              · exact hno h i' h'
              · obtain rfl:i'=i:=by omega
                exact kSd_ne h61⟩,by omega⟩ (.cons rfl (.cons rfl (.cons rfl (.cons rfl .nil)))) pulled
         · iterate 4 (first | refine Rg.skipP rfl rfl rfl ?_ | refine Rg.skipR rfl rfl rfl ?_ | refine Rg.skipE rfl rfl rfl ?_)
           refine pj Z Z<|nl<|Vc.condF Z<|kj<|dj<|tj [.p,.p] Z<|uj Z (Pv.asI (i+1) (Pv.add rfl rfl (by omega)) (by omega))<|mj Z<|nl ?_
           exact Vc.inv1 (i+1) ⟨⟨by omega,fun h=>by cases h56.symm.trans h⟩,by omega⟩ (.cons rfl (.cons rfl (.cons rfl (.cons rfl .nil)))) pulled
       · simp only [df] at h53
         obtain rfl:i=m.sh:=by omega
         refine Vc.exit Z<|sj [.p] Z<|aj Z<|nl<|vz Z (tz Z) ?_
         exact no_stays hk0 hk1 fun h=>⟨fun j _ _ e=>of_decide_eq_false h24 (by rw [e];exact stP_st j),hno h⟩
end
def NmsOk (C:Cx):Prop:=∀k∈C.S,k.length<1000∧(stP <+: k→k=stT∨∃j,j<10∧k=stN j)
def Swept (C:Cx) (m:Ma) (is:Bool) (D:Dk) (e:Int) (D':Dk):Prop:=Wz C D'∧((e=0∧Gd (fun k=>¬Stays k m is) D D'∧∀k,¬Stays k m is→findF D'.files k=none)∨(e=7∧Dn (fun k=>¬Stays k m is) D D'))
theorem names_mem {D:Dk} {k:Nm}:k∈D.files.map (·.1)↔findF D.files k≠none:=by
 constructor
 · intro h e
   obtain ⟨p,hp,rfl⟩:=List.mem_map.1 h
   exact findF_none e p hp rfl
 · intro h
   obtain ⟨f,hf⟩:=Option.ne_none_iff_exists'.1 h
   exact List.mem_map.2 ⟨_,findF_some hf,rfl⟩
section
variable {F : Fm} {db : Nat} {C : Cx} {D : Dk} {s : Hl}
set_option maxHeartbeats 4000000 in
theorem sweep_z (hA:AtoiN F) (hN:NmsOk C) {o0 o1:Option Ma} (h0:SlotI D 0 o0) (h1:SlotI D 1 o1) (hsh:((pickM o0 o1).getD ma0).sh<100) (hC:C.Ok) (hD:DiskAt db D s) (hw:Wz C D) (hup:D.down=false) :
 Spec Tryz.prog 53 #[.pointer (some ⟨db,0,none⟩)] F s fun v s'=>∃e D',v=.int .i64 e∧DiskAt db D' s'∧Swept C ((pickM o0 o1).getD ma0) (pickM o0 o1).isSome D e D':=by
 refine Spec.of (n:=44) (vs:=[.pointer (some ⟨db,0,none⟩)]) Tryz.func53 rfl Tryz.ntmps53 rfl ?_
 refine sj [.p] Z<|aj Z<|nl<|sj [.p,.e,.p,.p,.p,.p,.e,.e,.p,.p] Z<|mj Z<|Rg.callH Z Z Z (mz Z) (fun F' hF'=>load_z (F:=F') h0 h1 hC hD hw hup) Z ?_
 rintro _ s12 ⟨m,bb,e1,D1,rfl,hD1,hO1⟩
 refine mj Z<|xj Z Z<|xj Z Z<|xj Z Z<|Rg.alloc Z Z Z Z (fun b3=>?_)
 refine Rg.storeA (us:=maC m) Z Z Z Z Z Z Z Z<|aj Z<|aj Z<|nl<|wj<|sj [.p,.p] Z<|mj Z<|uj Z (Pv.neq Z Z)<|nl<|cj Z (fun h17=>?_) (fun h17=>?_)
 · simp only [bne_iff_ne,ne_eq] at h17
   obtain ⟨he7,hB⟩:=hO1.bad h17
   subst he7
   refine sj [.p,.p] Z<|mj Z<|aj Z<|nl ?_
   exact vr rfl (tz Z) (⟨7,D1,rfl,hD1,hO1.1,.inr ⟨rfl,hB.any⟩⟩) pulled
 · simp only [bne_eq_false_iff_eq] at h17
   subst h17
   obtain ⟨_,hG1,hm,hbb⟩:=hO1.good (by decide)
   rw [←hm,←hbb]
   rw [←hm] at hsh
   refine kj<|sj [.p,.e,.p,.p,.p,.p,.p] Z<|mj Z<|Rg.callH Z Z Z (mz Z) (fun F' hF'=>list_z (F:=F') hC hD1 hO1.1) Z ?_
   rintro _ _ ⟨u,s1,s2,ns,e2,D2,rfl,own,hD2,hO2,rfl⟩
   rw [lx]
   refine mj Z<|xj Z Z<|xj Z Z<|aj Z<|aj Z<|nl<|wj<|sj [.p,.p] Z<|mj Z<|uj Z (Pv.neq Z Z)<|nl<|cj Z (fun h25=>?_) (fun h25=>?_)
   · simp only [bne_iff_ne,ne_eq] at h25
     obtain ⟨he7,hB⟩:=hO2.bad h25
     subst he7
     refine sj [.p,.p] Z<|mj Z<|aj Z<|nl ?_
     exact vr rfl (tz Z) (⟨7,D2,rfl,hD2,hO2.1,.inr ⟨rfl,(hG1.dn hB).any⟩⟩) pulled
   · simp only [bne_eq_false_iff_eq] at h25
     subst h25
     obtain ⟨_,hG2,hns,hfe⟩:=hO2.good (by decide)
     have hp:ns.Perm (D1.files.map (·.1)):=by rw [hns];exact List.mergeSort_perm _ _
     have hnd:ns.Nodup:=hp.nodup_iff.2 hO1.1.nodup
     have hmem:∀k,k∈ns↔findF D.files k≠none:=fun k=>by rw [hp.mem_iff,names_mem,hG1.same k id]
     have hfew:ns.length≤1000:=by
      have h1:=nodup_sub_length hnd (b:=C.S) (fun x hx=>by
       obtain ⟨p,hpm,rfl⟩:=List.mem_map.1 (hp.mem_iff.1 hx)
       exact hO1.1.names p hpm)
      have:=hC.sz;omega
     obtain ⟨pn,cn,rfl⟩:=own.shape
     refine kj<|wj<|sj [.p,.p,.p] Z<|mj Z<|uj Z (Pv.lenS Z)<|mj Z<|nl<|bj ?_
     refine Vc.loop3 (fun (i:Nat) (D':Dk) (g:Hl)=>i≤ns.length∧DiskAt db D' g∧Wz C D'∧Gd (fun x=>¬Stays x m bb∧x∈ns.take i) D D'∧(∀x∈ns.take i,¬Stays x m bb→findF D'.files x=none)) (fun i D' g=>[(0,.pointer (some ⟨db,0,none⟩)),(3,.pointer (some ⟨b3,0,none⟩)),(4,.bool bb),(27,.slice pn ns.length cn),(28,.int .i64 (ns.length:Int)),(29,.int .i64 (i:Int))]) (fun i D' g=>(b3,cellsO (maC m) 126)::(s1++g)) (fun i D' g=>ns.length-i) 0 D2 s2 ⟨Nat.zero_le _,hD2,hO2.1,(hG1.trans hG2).any,fun x hx=>by simp at hx⟩ (.cons rfl (.cons rfl (.cons rfl (.cons rfl (.cons rfl (.cons rfl .nil)))))) pulled ?_
     rintro i D3 g ⟨hi,hD3,hW3,hG3,hno3⟩
     refine sj [.p] Z<|uj Z (Pv.lss Z Z)<|nl<|wj<|cj Z (fun h30=>?_) (fun h30=>?_)
     · simp only [dt] at h30
       have hil:i<ns.length:=by omega
       obtain ⟨bn,cn2,spn,e,_⟩:=own.block (by omega)
       injection e with e1 e2 e3
       subst e1
       have htk:ns.take (i+1)=ns.take i++[ns[i]!]:=by rw [List.take_succ_eq_append_getElem hil,getElem!_pos ns i hil]
       have hxm:ns[i]! ∈ ns:=by rw [getElem!_pos ns i hil];exact List.getElem_mem _
       generalize hx:ns[i]! = x at htk hxm
       have hxS:x∈C.S:=by
        obtain ⟨p,hpm,rfl⟩:=List.mem_map.1 (hp.mem_iff.1 hxm)
        exact hO1.1.names p hpm
       have hxt:x∉ns.take i:=fun h=>by
        have h2:=hnd
        rw [←List.take_append_drop (i+1) ns,htk] at h2
        have:=(List.nodup_append.1 (List.nodup_append.1 h2).1).2.2 x h x (by simp)
        exact this rfl
       have hxD3:findF D3.files x≠none:=by rw [hG3.same x (fun h=>hxt h.2)];exact (hmem x).1 hxm
       refine kj<|wj<|bj<|sj [.p,.r,.p] Z<|uj Z (Pv.ixA (i) rfl rfl (by omega) (by omega))<|rj Z (Ev.as (kS x) (Ev.ldS (E:=strE) i (Src.own (rest:=[]) own (fun x hx=>by simp [hx])) rfl rfl rfl hil) (congrArg kS hx))<|aj Z<|nl<|wj<|sj [.p,.r,.p,.e] Z<|mj Z<|rj Z (Ev.as (maV m) (Ev.ldA Z Z) Z)<|mj Z<|Rg.callA Z Z Z (mz Z) (stays_spec (k:=x) (m:=m) (is:=bb) (fun F' hF'=>hA F' fun b o h=>hF' b o (by exact Or.inr h)) (hN x hxS).1 hsh (hN x hxS).2) ?_
       rintro v36 s36 ⟨bs,rfl,hbs⟩
       refine nl<|cj Z (fun h36=>?_) (fun h36=>?_)
       · have hst:=hbs.1 h36
         refine Vc.exit Z<|tj [.p,.p] Z<|uj Z (Pv.asI (i+1) (Pv.add rfl rfl (by omega)) (by omega))<|mj Z<|nl ?_
         exact Vc.inv3 (i+1) D3 g ⟨⟨by omega,hD3,hW3,hG3.mono fun y hy=>⟨hy.1,by rw [htk];exact List.mem_append_left _ hy.2⟩,fun y hy hny=>by
          rw [htk] at hy
          rcases List.mem_append.1 hy with hy | hy
          · exact hno3 y hy hny
          · rw [List.mem_singleton] at hy;subst hy;exact absurd hst hny⟩,by omega⟩ (.cons rfl (.cons rfl (.cons rfl (.cons rfl (.cons rfl (.cons rfl .nil)))))) pulled
       · have hnst : ¬Stays x m bb:=fun h=>by rw [hbs.2 h] at h36;cases h36
         refine kj<|sj [.p,.p,.e,.p] Z<|mj Z<|mj Z<|Rg.callH Z Z Z (mz Z) (fun F' hF'=>remove_zx (F:=F') hC hD3 hW3 x) Z ?_
         rintro _ g4 ⟨e4,D4,rfl,hD4,hW4,hO4⟩
         refine aj Z<|nl<|sj [.p,.p] Z<|mj Z<|uj Z (Pv.neq Z Z)<|nl<|cj Z (fun h41=>?_) (fun h41=>?_)
         · simp only [bne_iff_ne,ne_eq] at h41
           obtain ⟨he7,hB⟩:=hO4.resolve_left (fun h=>h.1.elim h41 (fun h=>hxD3 h.2))
           subst he7
           refine sj [.p,.p] Z<|mj Z<|aj Z<|nl ?_
           exact vr rfl (tz Z) (⟨7,D4,rfl,hD4,hW4,.inr ⟨rfl,(hG3.mono fun y hy=>hy.1).dn hB.any⟩⟩) pulled
         · simp only [bne_eq_false_iff_eq] at h41
           subst h41
           obtain ⟨_,hG4,hn4⟩:=hO4.resolve_right (fun h=>by cases h.1)
           refine kj<|dj<|tj [.p,.p] Z<|uj Z (Pv.asI (i+1) (Pv.add rfl rfl (by omega)) (by omega))<|mj Z<|nl ?_
           exact Vc.inv3 (i+1) D4 g4 ⟨⟨by omega,hD4,hW4,(hG3.mono fun y hy=>⟨hy.1,by rw [htk];exact List.mem_append_left _ hy.2⟩).trans (hG4.mono fun y hy=>by rw [hy];exact ⟨hnst,by rw [htk];simp⟩),fun y hy hny=>by
            rw [htk] at hy
            by_cases e:y=x
            · rw [e];exact hn4
            · rw [hG4.same y e]
              exact hno3 y ((List.mem_append.1 hy).resolve_right fun h=>e (List.mem_singleton.1 h)) hny⟩,by omega⟩ (.cons rfl (.cons rfl (.cons rfl (.cons rfl (.cons rfl (.cons rfl .nil)))))) pulled
     · simp only [df] at h30
       obtain rfl:i=ns.length:=by omega
       rw [List.take_length] at hG3 hno3
       refine Vc.exit Z<|sj [.p] Z<|aj Z<|nl ?_
       exact Vc.ret (Vc.retsH rfl (tz Z) (⟨0,D3,rfl,hD3,hW3,.inl ⟨rfl,hG3.mono fun y hy=>hy.1,fun y hny=>by
        by_cases hy:y∈ns
        · exact hno3 y hy hny
        · rw [hG3.same y fun h=>hy h.2]
          exact Classical.byContradiction fun h=>hy ((hmem y).2 h)⟩⟩) pulled)
end
abbrev enC (db:Nat) (B:Int) (m:Ma) (is dd:Bool):List Value:=[.pointer (some ⟨db,0,none⟩),.int .i64 B,.int .u64 (m.seq:Int),.int .i64 (m.n:Int),.int .i64 (m.sh:Int),.int .i64 m.step,.int .i64 m.p.kind,.int .u32 (m.p.start:Int),.bool is,.bool dd]
abbrev enO (db:Nat) (B:Int) (m:Ma) (is dd:Bool):Obj:=cellsO (enC db B m is dd) 130
def Ma.next (m:Ma):Ma:=⟨m.seq+1,m.n,m.sh,m.step,m.p⟩
section
variable {F : Fm} {db eb : Nat} {B : Int} {C : Cx} {D : Dk} {s : Hl} {m : Ma} {is dd : Bool}
theorem told_spec (e:Nat) (he:e≠6):Spec Tryz.prog 185 #[.pointer (some ⟨eb,0,none⟩),.int .i64 (e:Int)] F [(eb,enO db B m is dd)] fun v s'=>v=.int .i64 (e:Int)∧s'=[(eb,enO db B m is (dd||decide (e=7)))]:=by
 refine Spec.of (n:=23) (vs:=[.pointer (some ⟨eb,0,none⟩),.int .i64 (e:Int)]) Tryz.func185 rfl Tryz.ntmps185 rfl ?_
 refine sj [.p] Z<|aj Z<|nl<|wj<|sj [.p] Z<|mj Z<|nl<|bj<|sj [.p,.p] Z<|uj Z (Pv.eql Z Z)<|aj Z<|nl<|cj Z (fun h6=>?_) (fun h6=>?_)
 · simp only [beq_iff_eq] at h6
   have h7:e=7:=by omega
   subst h7
   refine tj [.p,.p,.p,.e] Z<|mj Z<|nj Z<|fj Z ?_
   refine Rg.store Z Z Z Z Z Z Z Z<|nl<|dj<|sj [.p,.p] Z<|mj Z<|aj Z<|nl ?_
   exact vr (hl':=[(eb,enO db B m is true)]) rfl (tz Z) ⟨rfl,by simp⟩ pulled
 · simp only [beq_eq_false_iff_ne,ne_eq] at h6
   have h7:decide (e=7)=false:=by simp;omega
   refine sj [.p,.p] Z<|uj Z (Pv.eql Z Z)<|aj Z<|nl<|cj Z (fun h11=>absurd h11 (by simp;omega)) (fun h11=>?_)
   refine kj<|dj<|sj [.p,.p] Z<|mj Z<|aj Z<|nl ?_
   exact vr (hl':=[(eb,enO db B m is dd)]) rfl (tz Z) ⟨rfl,by rw [h7,Bool.or_false]⟩ pulled
set_option maxHeartbeats 4000000 in
theorem saves_z {m':Ma} (hm:OkM m'.next) (hC:C.Ok) (hk:slT∈C.S) (hk2:slN ((m'.seq+1) % 2)∈C.S) (hcap:54≤C.cap) (hD:DiskAt db D s) (hw:Wz C D) :
 Spec Tryz.prog 184 #[.pointer (some ⟨eb,0,none⟩),maV m'] F ((eb,enO db B m is dd)::s) fun v s'=>∃e D' m2 is2 g,v=.int .i64 e∧s'=(eb,enO db B m2 is2 dd)::g∧DiskAt db D' g∧((e=0∧m2=m'.next∧is2=true)∨(e=7∧m2=m∧is2=is))∧Puts C slT (slN ((m'.seq+1) % 2)) (maB m'.next) D e D':=by
 have hsq:=hm.seq.2
 simp only [Ma.next] at hsq
 refine Spec.of (n:=26) (vs:=[.pointer (some ⟨eb,0,none⟩),maV m']) Tryz.func184 rfl Tryz.ntmps184 rfl ?_
 refine sj [.e,.p] Z<|Rg.box Z Z Z Z Z (fun b3=>?_)
 refine aj Z<|nl<|sj [.p,.r,.p,.p,.e] Z<|fj Z<|lj Z Z<|uj Z (Pv.asI (m'.seq+1) (Pv.addW rfl rfl) (by rw [show (((m'.seq:Nat):Int)+1)=((m'.seq+1:Nat):Int) by omega];exact wrap_ult rfl (by show _<2 ^ 64;omega)))<|fj Z ?_
 refine Rg.store Z Z Z Z Z Z Z Z<|nl<|wj<|wj ?_
 refine Vc.draw [5] (sd [(0,.pure),(1,.pure),(2,.pure),(3,.read),(4,.read),(5,.eff),(6,.pure)]) mixed (by kernel_rfl)<|mj Z<|nj Z<|fj Z<|lj Z Z<|rj Z (Ev.as (maV m'.next) (Ev.ldA Z Z) Z) ?_
 refine Rg.callH Z Z Z (mz Z) (fun F' hF'=>save_z (F:=F') hm hC hk hk2 hcap hD hw) Z ?_
 rintro _ g ⟨e,D1,rfl,hD1,hP⟩
 refine aj Z<|nl<|sj [.p,.p] Z<|mj Z<|uj Z (Pv.neq Z Z)<|nl<|cj Z (fun h17=>?_) (fun h17=>?_)
 · simp only [bne_iff_ne,ne_eq] at h17
   have he7:e=7:=(hP.2.resolve_left fun h=>h17 h.1).1
   refine sj [.p,.p] Z<|mj Z<|aj Z<|nl ?_
   exact vr rfl (tz Z) (⟨e,D1,m,is,g,rfl,rfl,hD1,.inr ⟨he7,rfl,rfl⟩,hP⟩) pulled
 · simp only [bne_eq_false_iff_eq] at h17
   subst h17
   refine kj<|sj [.p,.p,.r,.p,.p,.e,.p,.p,.e] Z<|mj Z<|mj Z<|rj Z (Ev.as (maV m'.next) (Ev.ldA Z Z) Z)<|nj Z<|fj Z ?_
   refine Rg.storeA (us:=maC m'.next) Z Z Z Z Z Z Z Z<|nj Z<|fj Z ?_
   refine Rg.store Z Z Z Z Z Z Z Z<|nl<|sj [.p] Z<|aj Z<|nl ?_
   exact vr rfl (tz Z) (⟨0,D1,m'.next,true,g,rfl,rfl,hD1,.inl ⟨rfl,rfl,rfl⟩,hP⟩) pulled
end
end Go.Proofs.YtkpiakgmkpbikaaGreatDoor
