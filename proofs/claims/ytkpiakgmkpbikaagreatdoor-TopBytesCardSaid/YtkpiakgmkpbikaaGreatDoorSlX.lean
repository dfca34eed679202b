/- Proved here: steps of the proof (SlX). -/
import Derived.Test.YtkpiakgmkpbikaaGreatDoorSlP
import Derived.Laws.Externs
import Derived.Laws.CopyRow
set_option linter.unusedVariables false
namespace Go.Proofs.YtkpiakgmkpbikaaGreatDoor
class TyExt (P:Program) (f:FuncId) (e:outParam (Array Value→Sem Value)):Prop where
 call:∀args w,(callFunc f args).run P w=((e args).run P w).andThen fun v w'=>.ok (.value v) w'
section
variable {P : Program} {n : Nf} {F : Fm} {l : Env} {hl : Hl} {d : Option Tmp} {ty : TypeId} {pos : String} {af : Array Edge} {g : Option (Nat × Bool)} {α : Type} {E : Enc α}
variable {Qf : Exit → Act → World → Prop} {ks : List KItem} {ops : List Oper} {clr : List Nat} {hs : Hl} {r : Sd} {i : Nat}
theorem run_atLoad {w:World} {b off:Nat} {v:Value} (h:w.cell? ⟨b,off,none⟩=some v):(load ⟨b,off,none⟩ .atomic).run P w=.ok v w:=by
 simp [load,Sem.run,h]
theorem run_atStore {w:World} {b off:Nat} {vs q:List Value} {e:TypeId} {v:Value} (hb:w.heap[b]? = some (cellsO vs e)) (hq:setL vs off v=some q) (h1:v.oneCell'=true):(store ⟨b,off,none⟩ v .atomic).run P w=.ok () (Go.Proofs.YtkpiakgmkpbikaaGreatDoor.putB w b (cellsO q e)):=by
 have hs:=run_store (P:=P) hb hq h1
 obtain ⟨rfl,hlt⟩:=setL_spec _ _ _ hq
 have hc:w.cell? ⟨b,off,none⟩=some vs[off]:=by simp [World.cell?,hb,hlt]
 rw [←hs]
 cases v<;>simp [store,Sem.run,hc]
theorem run_extLoad {w:World} {b off:Nat} {k:IntKind} {z:Int} (hcc:w.cell? ⟨b,off,none⟩=some (.int k z)):(Extern.Atomic.loadT (.int k) #[.pointer (some ⟨b,off,none⟩)]).run P w=.ok (.int k z) w:=by
 show (do Extern.Atomic.read (.int k) (←asAddr (.pointer (some ⟨b,off,none⟩))):Sem Value).run P w=_
 simp [Extern.Atomic.read,asAddr,run_atLoad hcc]
theorem run_extStore {w:World} {b off:Nat} {vs q:List Value} {e:TypeId} {v:Value} (hb:w.heap[b]? = some (cellsO vs e)) (hq:setL vs off v=some q) (hc:v.oneCell'=true):(Extern.Atomic.storeT #[.pointer (some ⟨b,off,none⟩),v]).run P w=.ok (.tuple #[]) (Go.Proofs.YtkpiakgmkpbikaaGreatDoor.putB w b (cellsO q e)):=by
 show (do store (←asAddr (.pointer (some ⟨b,off,none⟩))) v .atomic; pure Extern.Atomic.none_:Sem Value).run P w=_
 simp [Extern.Atomic.none_,asAddr,run_atStore (P:=P) hb hq hc]
theorem run_extSwap {w:World} {b off:Nat} {vs q:List Value} {e:TypeId} {v:Value} {k:IntKind} {z:Int} (hcc:w.cell? ⟨b,off,none⟩=some (.int k z)) (hb:w.heap[b]? = some (cellsO vs e)) (hq:setL vs off v=some q) (hc:v.oneCell'=true):(Extern.Atomic.swapT (.int k) #[.pointer (some ⟨b,off,none⟩),v]).run P w=.ok (.int k z) (Go.Proofs.YtkpiakgmkpbikaaGreatDoor.putB w b (cellsO q e)):=by
 show (do let a ←asAddr (.pointer (some ⟨b,off,none⟩)); let old ←Extern.Atomic.read (.int k) a; store a v .atomic; pure old:Sem Value).run P w=_
 simp [Extern.Atomic.read,asAddr,run_atLoad hcc,run_atStore (P:=P) hb hq hc]
theorem run_extAdd {w:World} {b off:Nat} {vs q:List Value} {e:TypeId} {k:IntKind} {z u:Int} (hcc:w.cell? ⟨b,off,none⟩=some (.int k z)) (hb:w.heap[b]? = some (cellsO vs e)) (hq:setL vs off (.int k (k.wrap (z+u)))=some q):(Extern.Atomic.update (Op.intArith .add) k true #[.pointer (some ⟨b,off,none⟩),.int k u]).run P w=.ok (.int k (k.wrap (z+u))) (Go.Proofs.YtkpiakgmkpbikaaGreatDoor.putB w b (cellsO q e)):=by
 show (do let a ←asAddr (.pointer (some ⟨b,off,none⟩)); let old ←Extern.Atomic.read (.int k) a; let new ←Op.intArith .add k (←asInt old) (←asInt (.int k u)); store a new .atomic; pure (if true then new else old):Sem Value).run P w=_
 simp [Extern.Atomic.read,asAddr,asInt,asIntOf,run_atLoad hcc,Op.intArith,run_atStore (P:=P) hb hq rfl]
theorem Rg.atLoad {t f b off:Nat} {e:TypeId} {xs:List Operand} {vs:List Value} {ats:Array TypeId} {k:IntKind} {z:Int} [he:TyExt P f (Extern.Atomic.loadT (.int k))] (ho:nth ops i=some ⟨some t,.call { callee:=.value (.func f),args:=xs.toArray,argTypes:=ats },ty,pos,af,g⟩) (hg:wantB ops l g=some true) (ht:Nat.blt t n.n=true)
 (hx:evs l xs=some [.pointer (some ⟨b,off,none⟩)]) [hb:Has F hl b (cellsO vs e)] (hv:nth vs off=some (.int k z)) (h:Rg P Qf n F ks ops clr hl r ((t,.int k z)::l) hl):Rg P Qf n F ks ops clr hl (.st i .eff r) l hl :=
 Rg.run ho hg fun a w hf hh=>by
  have hc:w.cell? ⟨b,off,none⟩=some (.int k z):=by
   rw [nth_eq] at hv
   simp [World.cell?,hb.st hh.st,hv]
  have hr:=run_extLoad (P:=P) hc
  exact ⟨w,(t,.int k z)::l,hl,hl,.inl ⟨.int k z,by simp [execOp,resolve,Deferred.ofValue,Act.eval,invoke,he.call,hf.evs hx,hr,Result.andThen],hf.put ht _⟩,hh,hh.st,.same,h⟩
theorem Rg.atStore {t f b off:Nat} {e:TypeId} {xs:List Operand} {v:Value} {vs q:List Value} {ats:Array TypeId} {put:Obj→Hl} [he:TyExt P f Extern.Atomic.storeT] (ho:nth ops i=some ⟨some t,.call { callee:=.value (.func f),args:=xs.toArray,argTypes:=ats },ty,pos,af,g⟩) (hg:wantB ops l g=some true) (ht:Nat.blt t n.n=true)
 (hx:evs l xs=some [.pointer (some ⟨b,off,none⟩),v]) [hb:Lens hl b (cellsO vs e) put] (hc:v.oneCell'=true) (hq:setL vs off v=some q) (hclr:clr.contains i=true)
 (h:Rg P Qf n F ks ops clr (put (cellsO q e)) r ((t,.tuple #[])::l) (put (cellsO q e))):Rg P Qf n F ks ops clr hs (.st i .eff r) l hl :=
 Rg.run ho hg fun a w hf hh=>by
  have hr:=run_extStore (P:=P) (hh.own b _ hb.mem) hq hc
  exact ⟨_,(t,.tuple #[])::l,_,_,.inl ⟨.tuple #[],by simp [execOp,resolve,Deferred.ofValue,Act.eval,invoke,he.call,hf.evs hx,hr,Result.andThen],hf.put ht _⟩,hb.putB hh _,(hb.putB hh _).st,.inl hclr,h⟩
theorem Rg.atSwap {t f b off:Nat} {e:TypeId} {xs:List Operand} {k:IntKind} {z:Int} {v:Value} {vs q:List Value} {ats:Array TypeId} {put:Obj→Hl} [he:TyExt P f (Extern.Atomic.swapT (.int k))] (ho:nth ops i=some ⟨some t,.call { callee:=.value (.func f),args:=xs.toArray,argTypes:=ats },ty,pos,af,g⟩) (hg:wantB ops l g=some true) (ht:Nat.blt t n.n=true)
 (hx:evs l xs=some [.pointer (some ⟨b,off,none⟩),v]) [hb:Lens hl b (cellsO vs e) put] (hc:v.oneCell'=true) (hv:nth vs off=some (.int k z)) (hq:setL vs off v=some q) (hclr:clr.contains i=true)
 (h:Rg P Qf n F ks ops clr (put (cellsO q e)) r ((t,.int k z)::l) (put (cellsO q e))):Rg P Qf n F ks ops clr hs (.st i .eff r) l hl :=
 Rg.run ho hg fun a w hf hh=>by
  have hcc:w.cell? ⟨b,off,none⟩=some (.int k z):=by
   rw [nth_eq] at hv
   simp [World.cell?,hh.own b _ hb.mem,hv]
  have hr:=run_extSwap (P:=P) hcc (hh.own b _ hb.mem) hq hc
  exact ⟨_,(t,.int k z)::l,_,_,.inl ⟨.int k z,by simp [execOp,resolve,Deferred.ofValue,Act.eval,invoke,he.call,hf.evs hx,hr,Result.andThen],hf.put ht _⟩,hb.putB hh _,(hb.putB hh _).st,.inl hclr,h⟩
theorem Rg.atAdd {t f b off:Nat} {e:TypeId} {xs:List Operand} {k:IntKind} {z u:Int} {vs q:List Value} {ats:Array TypeId} {put:Obj→Hl} [he:TyExt P f (Extern.Atomic.update (Op.intArith .add) k true)] (ho:nth ops i=some ⟨some t,.call { callee:=.value (.func f),args:=xs.toArray,argTypes:=ats },ty,pos,af,g⟩) (hg:wantB ops l g=some true) (ht:Nat.blt t n.n=true)
 (hx:evs l xs=some [.pointer (some ⟨b,off,none⟩),.int k u]) [hb:Lens hl b (cellsO vs e) put] (hv:nth vs off=some (.int k z)) (hq:setL vs off (.int k (k.wrap (z+u)))=some q) (hclr:clr.contains i=true)
 (h:Rg P Qf n F ks ops clr (put (cellsO q e)) r ((t,.int k (k.wrap (z+u)))::l) (put (cellsO q e))):Rg P Qf n F ks ops clr hs (.st i .eff r) l hl :=
 Rg.run ho hg fun a w hf hh=>by
  have hcc:w.cell? ⟨b,off,none⟩=some (.int k z):=by
   rw [nth_eq] at hv
   simp [World.cell?,hh.own b _ hb.mem,hv]
  have hr:=run_extAdd (P:=P) hcc (hh.own b _ hb.mem) hq
  exact ⟨_,(t,.int k (k.wrap (z+u)))::l,_,_,.inl ⟨_,by simp [execOp,resolve,Deferred.ofValue,Act.eval,invoke,he.call,hf.evs hx,hr,Result.andThen],hf.put ht _⟩,hb.putB hh _,(hb.putB hh _).st,.inl hclr,h⟩
theorem run_appendZ_nil {w:World} {t ti ty e:TypeId} {k:IntKind} {inf:TypeInfo} {z:Value} (ht:P.underlying t=some (.slice e)) (hti:P.underlying ti=some (.int k)) (hi:P.info? e=some inf) (hz:inf.zero=some z) (hs:0<inf.size)
 (m:Nat) (h0:0<m) (h63:(m:Int)≤9223372036854775807) (h48:m*inf.bytes≤281474976710656) :
 (Builtin.append_ #[t,ti] ty #[.slice none 0 0,.int .i64 (m:Int)]).run P w =
  .ok (.slice (some ⟨w.heap.size,0,none⟩) m (grownCap w m 0 e)) (w.drew.alloc (.cells (Builtin.zeroCells z.cells m++Builtin.zeroCells z.cells (grownCap w m 0 e-m)) e)):=by
 have hn:m≠0:=by omega
 have h63' : ¬(9223372036854775807<(m:Int)):=by omega
 have h48' : ¬(281474976710656<Builtin.nextslicecap m 0*inf.bytes):=by rw [nextslicecap_zero h0]; omega
 have hw:IntKind.i64.wrap (m:Int)=m:=i64_wrap (by omega)
 have hlt : ¬((m:Int)<0):=by omega
 have hb : ¬(281474976710656<(m:Int)*(inf.bytes:Int)):=by rw [←Int.natCast_mul]; omega
 have hms:m*inf.size≠0:=Nat.mul_ne_zero hn (by omega)
 simp [Builtin.append_,run_underlying ht,run_underlying hti,sizeOf,typeInfo,zeroValue,hi,hz,asInt,asIntOf,hw,hlt,hb,hn,hms,h63',h48',Question.forced,run_firstCells_none,newRow,grownCap]
theorem run_appendZ_grow {w:World} {t ti ty e:TypeId} {k:IntKind} {inf:TypeInfo} {z:Value} (ht:P.underlying t=some (.slice e)) (hti:P.underlying ti=some (.int k)) (hi:P.info? e=some inf) (hz:inf.zero=some z) (hs:0<inf.size)
 (b:Addr) (sLen sCap:Nat) (olds:List Value) (hlo:olds.length=sLen*inf.size) (holds:∀j v,olds[j]? = some v→w.cell? (b.add j)=some v) (m:Nat)
 (hg:sCap<sLen+m) (hc:sLen≤sCap) (h63:((sLen+m:Nat):Int)≤9223372036854775807) (h48:m*inf.bytes≤281474976710656) (hfit:Builtin.nextslicecap (sLen+m) sCap*inf.bytes≤281474976710656) :
 (Builtin.append_ #[t,ti] ty #[.slice (some b) sLen sCap,.int .i64 (m:Int)]).run P w =
  .ok (.slice (some ⟨w.heap.size,0,none⟩) (sLen+m) (grownCap w (sLen+m) sCap e))
   (w.drew.alloc (.cells (olds.toArray++Builtin.zeroCells z.cells m++Builtin.zeroCells z.cells (grownCap w (sLen+m) sCap e-(sLen+m))) e)):=by
 have hn : ¬(sLen+m≤sCap):=by omega
 have h63' : ¬(9223372036854775807<((sLen:Int)+(m:Int))):=by omega
 have h48' : ¬(281474976710656<Builtin.nextslicecap (sLen+m) sCap*inf.bytes):=by omega
 have hw:IntKind.i64.wrap (m:Int)=m:=i64_wrap (by omega)
 have hlt : ¬((m:Int)<0):=by omega
 have hb : ¬(281474976710656<(m:Int)*(inf.bytes:Int)):=by rw [←Int.natCast_mul]; omega
 have hm0:m≠0:=by omega
 have hms:m*inf.size≠0:=Nat.mul_ne_zero hm0 (by omega)
 have hfo:=run_firstCells_some (P:=P) w.drew inf.size sLen b sLen sCap olds hlo (by simpa using holds)
 simp [Builtin.append_,run_underlying ht,run_underlying hti,sizeOf,typeInfo,zeroValue,hi,hz,asInt,asIntOf,hw,hlt,hb,hn,hm0,hms,h63',h48',Question.forced,hfo,newRow,grownCap]
theorem run_appendZ_room {w:World} {t ti ty e:TypeId} {k:IntKind} {inf:TypeInfo} {z:Value} (ht:P.underlying t=some (.slice e)) (hti:P.underlying ti=some (.int k)) (hi:P.info? e=some inf) (hz:inf.zero=some z) (hs:0<inf.size) (hzs:z.cells.size=inf.size)
 (hz1:∀u∈z.cells.toList,u.oneCell'=true) {vs q:List Value} {te:TypeId} (b sLen sCap m:Nat) (hbk:w.heap[b]? = some (cellsO vs te)) (hg:sLen+m≤sCap) (h63:(m:Int)≤9223372036854775807) (h48:m*inf.bytes≤281474976710656)
 (hq:setsL vs (sLen*inf.size) (Builtin.zeroCells z.cells m).toList=some q) :
 (Builtin.append_ #[t,ti] ty #[.slice (some ⟨b,0,none⟩) sLen sCap,.int .i64 (m:Int)]).run P w=.ok (.slice (some ⟨b,0,none⟩) (sLen+m) sCap) (Go.Proofs.YtkpiakgmkpbikaaGreatDoor.putB w b (cellsO q te)):=by
 have hw:IntKind.i64.wrap (m:Int)=m:=i64_wrap (by omega)
 have hlt : ¬((m:Int)<0):=by omega
 have hb : ¬(281474976710656<(m:Int)*(inf.bytes:Int)):=by rw [←Int.natCast_mul]; omega
 have hadd:(⟨b,0,none⟩:Addr).add (sLen*inf.size)=⟨b,sLen*inf.size,none⟩:=by rw [addr_add]; simp
 have hone:∀u∈(Builtin.zeroCells z.cells m).toList,u.oneCell'=true:=fun u hu=>by
  simp only [Builtin.zeroCells,Array.toList_map,List.mem_map] at hu
  obtain ⟨j,hj,rfl⟩:=hu
  simp at hj
  have hp:0<z.cells.size:=by omega
  refine hz1 _ ?_
  rw [getElem!_pos z.cells _ (Nat.mod_lt _ hp)]
  simp
 have hst:=run_storeCells (P:=P) (b:=b) (e:=te) (Builtin.zeroCells z.cells m).toList 0 (sLen*inf.size) vs q w hbk (by simpa using hq) hone
 by_cases hm0:m=0
 · subst hm0
   have hz0:(Builtin.zeroCells z.cells 0)=#[]:=by simp [Builtin.zeroCells]
   rw [hz0] at hq
   simp only [setsL,Option.some.injEq] at hq
   subst hq
   rw [putB_same hbk]
   have hw0:IntKind.i64.wrap 0=0:=i64_wrap (by omega)
   have hg':sLen≤sCap:=by omega
   simp [Builtin.append_,run_underlying ht,run_underlying hti,sizeOf,typeInfo,zeroValue,hi,hz,asInt,asIntOf,hw0,hg',storeCells]
 · have hms:m*inf.size≠0:=Nat.mul_ne_zero hm0 (by omega)
   simp [Builtin.append_,run_underlying ht,run_underlying hti,sizeOf,typeInfo,zeroValue,hi,hz,asInt,asIntOf,hw,hlt,hb,hm0,hms,hg,hadd,hst,show ¬inf.size=0 by omega]
theorem zero_flat {z:Value} {z0:α} (h:z.cells=(E.cells z0).toArray) (m:Nat):(Builtin.zeroCells z.cells m).toList=flat E (List.replicate m z0):=by
 have hk:z.cells.size=E.k:=by rw [h]; simp [E.len]
 have hpos:=E.pos
 apply List.ext_getElem?
 intro j
 by_cases hj:j<m*E.k
 · have hr:j % E.k<E.k:=Nat.mod_lt _ hpos
   have hd:j / E.k<m:=Nat.div_lt_of_lt_mul (by rw [Nat.mul_comm]; exact hj)
   have ej:j / E.k*E.k+j % E.k=j:=by rw [Nat.mul_comm]; exact Nat.div_add_mod j E.k
   have hg:=flat_get E (List.replicate m z0) (j / E.k) (j % E.k) z0 (by simp [hd]) hr
   rw [ej] at hg
   rw [hg]
   have hl:j % E.k<(E.cells z0).length:=by rw [E.len]; exact hr
   rw [List.getElem?_eq_getElem hl]
   simp only [Builtin.zeroCells,hk,Array.toList_map,List.getElem?_map]
   rw [show (Array.range (m*E.k)).toList[j]? = some j by simp [hj]]
   simp only [Option.map_some,h]
   rw [getElem!_pos _ _ (by simpa using hl)]
   simp
 · rw [List.getElem?_eq_none (by simp [Builtin.zeroCells,hk]; omega),List.getElem?_eq_none (by rw [flat_length]; simp; omega)]
theorem grown_own {z:Value} (hzs:z.cells.size=E.k) {xs:List α} {c:Nat} {rest:Hl} {w1:World} (h1:Hp F rest w1) (hcm:c≤maxLen) (hge:xs.length≤c) :
 ∃seg',Own E (.slice (some ⟨w1.heap.size,0,none⟩) xs.length c) xs seg'∧Hp F (seg'++rest) (w1.alloc (.cells ((flat E xs).toArray++Builtin.zeroCells z.cells (c-xs.length)) E.tid)):=by
 have hobj:(Obj.cells ((flat E xs).toArray++Builtin.zeroCells z.cells (c-xs.length)) E.tid)=rowS E xs (Builtin.zeroCells z.cells (c-xs.length)).toList:=by
  unfold rowS
  congr 1
  apply Array.ext'
  simp
 rw [hobj]
 refine ⟨[(w1.heap.size,rowS E xs (Builtin.zeroCells z.cells (c-xs.length)).toList)],Own.blk _ c xs _ ?_ hcm,h1.alloc _⟩
 have hZ:(Builtin.zeroCells z.cells (c-xs.length)).toList.length=(c-xs.length)*E.k:=by simp [Builtin.zeroCells,hzs]
 rw [hZ,←Nat.add_mul]
 congr 1
 omega
theorem run_append_zeros {t ti B:Nat} {k:IntKind} [ht:TySl P t E B] [hti:TyUnder P ti (.int k)] (z0:α) [hz0:TyZero P E.tid (E.val z0)] {v:Value} {xs:List α} {seg rest:Hl} {w:World} (m:Nat) (hown:Own E v xs seg) (hh:Hp F (seg++rest) w)
 (hlen:(xs.length+m)*B≤140737488355328∧m*B≤140737488355328∧xs.length+m≤9223372036854775807) (hml:xs.length+m≤maxLen) :
 ∃v' seg' w',(Builtin.append_ #[t,ti] ty #[v,.int .i64 (m:Int)]).run P w=.ok v' w'∧Own E v' (xs++List.replicate m z0) seg'∧Hp F (seg'++rest) w':=by
 obtain ⟨inf,z,hi,hz,hsz,hby,hzs⟩:=ht.info
 have hpos:=E.pos
 have hzz:z=E.val z0:=by
  have h1:=hz0.zero w
  simpa [zeroValue,typeInfo,hi,hz] using h1
 have hzc:z.cells=(E.cells z0).toArray:=by rw [hzz,←E.vc]
 have hzf:=zero_flat (E:=E) hzc m
 have hza:Builtin.zeroCells z.cells m=(flat E (List.replicate m z0)).toArray:=by rw [←hzf]
 have hfa:∀(olds:List α),(flat E olds).toArray++Builtin.zeroCells z.cells m=(flat E (olds++List.replicate m z0)).toArray:=fun olds=>by rw [hza,flat_append]; simp
 have hla:∀(olds:List α),(olds++List.replicate m z0).length=olds.length+m:=fun olds=>by simp
 cases hown with
 | nil =>
  by_cases hm:m=0
  · subst hm
    have hw0:IntKind.i64.wrap 0=0:=i64_wrap (by omega)
    refine ⟨.slice none 0 0,[],w,?_,.nil,hh⟩
    simp [Builtin.append_,run_underlying ht.under,run_underlying hti.under,sizeOf,typeInfo,hi,asInt,asIntOf,hw0]
  · have hr:=run_appendZ_nil (P:=P) (w:=w) (ty:=ty) ht.under hti.under hi hz (by omega) m (by omega) (by omega) (by rw [hby]; omega)
    obtain ⟨seg',h1,h2⟩:=grown_own (E:=E) (F:=F) hzs (xs:=[]++List.replicate m z0) (c:=grownCap w m 0 E.tid) (rest:=rest) (w1:=w.drew) hh.drew (grownCap_le_maxLen w _ 0 _ (by simpa using hml)) (by simpa using grownCap_ge w m 0 E.tid)
    rw [←hfa,hla] at h2
    rw [hla] at h1
    simp only [List.length_nil,Nat.zero_add,flat,List.flatMap_nil,List.nil_append] at h1 h2 ⊢
    exact ⟨_,seg',_,hr,h1,by simpa using h2⟩
 | blk b cap _ sp hcap hcm =>
  have hb:w.heap[b]? = some (rowS E xs sp):=hh.own b _ (by simp)
  have hxc:xs.length≤cap:=Nat.le_of_mul_le_mul_right (show xs.length*E.k≤cap*E.k by omega) hpos
  have hfx:(flat E xs).length=xs.length*E.k:=flat_length E xs
  by_cases hroom:xs.length+m≤cap
  · have hsp:m*E.k≤sp.length:=by
     have:=Nat.mul_le_mul_right E.k hroom
     rw [Nat.add_mul] at this
     omega
    have hrl:(flat E (List.replicate m z0)).length=m*E.k:=by rw [flat_length]; simp
    have hq:setsL (flat E xs++sp) (xs.length*inf.size) (Builtin.zeroCells z.cells m).toList=some (flat E (xs++List.replicate m z0)++sp.drop (m*E.k)):=by
     rw [hzf,hsz,setsL_mk _ _ _ (by rw [hrl,List.length_append,hfx]; omega),hrl,flat_append]
     congr 1
     rw [←hfx]
     simp [List.drop_append,List.append_assoc]
    have hr:=run_appendZ_room (P:=P) (w:=w) (ty:=ty) ht.under hti.under hi hz (by omega) (by rw [hzs,hsz]) (fun u hu=>by rw [hzc] at hu; exact E.one z0 u (by simpa using hu)) b xs.length cap m hb hroom (by omega) (by rw [hby]; omega) hq
    refine ⟨_,[(b,rowS E (xs++List.replicate m z0) (sp.drop (m*E.k)))],_,hr,?_,?_⟩
    · have:=Own.blk (E:=E) b cap (xs++List.replicate m z0) (sp.drop (m*E.k)) (by rw [hla,List.length_drop,Nat.add_mul]; omega) hcm
      rwa [hla] at this
    · exact Lens.putB (put:=fun o'=>(b,o')::rest) ⟨[],rest,rfl,fun _=>rfl⟩ hh _
  · have hr:=run_appendZ_grow (P:=P) (w:=w) (ty:=ty) ht.under hti.under hi hz (by omega) ⟨b,0,none⟩ xs.length cap (flat E xs) (by rw [hfx,hsz]) (fun j u hu=>by
     rw [addr_add,Nat.zero_add,cell_row hb,List.getElem?_append_left ((List.getElem?_eq_some_iff.1 hu).1)]; exact hu) m (by omega) hxc (by omega) (by rw [hby]; omega) (by rw [hby]; exact growslice_fits (by omega) hlen.1)
    obtain ⟨seg',h1,h2⟩:=grown_own (E:=E) (F:=F) hzs (xs:=xs++List.replicate m z0) (c:=grownCap w (xs.length+m) cap E.tid) (rest:=rest) (w1:=w.drew) (Hp.tail hh).drew (grownCap_le_maxLen w _ cap _ hml) (by rw [hla]; exact grownCap_ge w _ cap _)
    rw [←hfa,hla] at h2
    rw [hla] at h1
    exact ⟨_,seg',_,hr,h1,h2⟩
theorem Rg.appendZ {t0 t ti B:Nat} {k:IntKind} {s x:Operand} {v:Value} {xs:List α} {seg rest:Hl} (z0:α) (m:Nat) [ht:TySl P t E B] [hti:TyUnder P ti (.int k)] [hz0:TyZero P E.tid (E.val z0)] (ho:nth ops i=some ⟨some t0,.call { callee:=.builtin .append,args:=#[s,x],argTypes:=#[t,ti] },ty,pos,af,g⟩) (hg:wantB ops l g=some true) (h0:Nat.blt t0 n.n=true)
 (hsv:ev l s=some v) (hx:ev l x=some (.int .i64 (m:Int))) (hown:Own E v xs seg) [hp:PullL hl seg rest] (hlen:(xs.length+m)*B≤140737488355328∧m*B≤140737488355328∧xs.length+m≤9223372036854775807) (hml:xs.length+m≤maxLen)
 (hclr:clr.contains i=true) (h:∀v' seg',Own E v' (xs++List.replicate m z0) seg'→Rg P Qf n F ks ops clr (seg'++rest) r ((t0,v')::l) (seg'++rest)):Rg P Qf n F ks ops clr hs (.st i .eff r) l hl :=
 Rg.run ho hg fun a w hf hh=>by
  obtain ⟨v',seg',w',hr,hown',hh'⟩:=run_append_zeros (P:=P) (t:=t) (ti:=ti) (ty:=ty) z0 m hown (hh.perm hp.perm) hlen hml
  exact ⟨w',_,_,_,.inl ⟨v',by simp [execOp,resolve,invoke,builtin,hf.ev hsv,hf.ev hx,hr],hf.put h0 v'⟩,hh',hh'.st,.inl hclr,h v' seg' hown'⟩
theorem run_copy_seg {t t' B:Nat} [ht:TySl P t E B] {w:World} {b o m c at_:Nat} {ys zs:List α} {sp:List Value} {xv:Value} (hb:w.heap[b]? = some (rowS E ys sp))
 (hsrc:((∃p c,xv=.slice p 0 c)∧zs=[])∨∃b2 off c2,xv=.slice (some ⟨b2,off,none⟩) zs.length c2∧∀j u,(flat E zs)[j]? = some u→w.cell? ⟨b2,off+j,none⟩=some u) (ho:m=0∨o=at_*E.k) (hm:at_+m≤ys.length) :
 (Builtin.copy_ #[t,t'] ty #[.slice (some ⟨b,o,none⟩) m c,xv]).run P w=.ok (.int .i64 (min zs.length m:Nat)) (Go.Proofs.YtkpiakgmkpbikaaGreatDoor.putB w b (rowS E (ys.take at_++zs.take (min zs.length m)++ys.drop (at_+min zs.length m)) sp)):=by
 obtain ⟨inf,z,hi,hz,hsz,hby,hzs⟩:=ht.info
 have hpos:=E.pos
 by_cases hn:min zs.length m=0
 · rw [hn,List.take_zero,List.append_nil,Nat.add_zero,List.take_append_drop,putB_same hb]
   rcases hsrc with ⟨⟨p,c2,rfl⟩,rfl⟩ | ⟨b2,off,c2,rfl,hc⟩
   · cases p<;>simp [Builtin.copy_,run_underlying ht.under,sizeOf,typeInfo,hi,Builtin.lenOf,Builtin.firstCells,loadCells,loadCellsFrom,storeCells,goInt]
   · have hn':Nat.min zs.length m=0:=hn
     simp [Builtin.copy_,run_underlying ht.under,sizeOf,typeInfo,hi,Builtin.lenOf,Builtin.firstCells,hn',loadCells,loadCellsFrom,storeCells,goInt]
 · rcases hsrc with ⟨⟨p,c2,rfl⟩,rfl⟩ | ⟨b2,off,c2,rfl,hc⟩
   · simp at hn
   · obtain ⟨q,hq⟩:∃q,q=min zs.length m:=⟨_,rfl⟩
     rw [←hq] at hn ⊢
     have hq':Nat.min zs.length m=q:=hq.symm
     have hoo:o=at_*E.k:=ho.resolve_left (by omega)
     subst hoo
     have htl:(zs.take q).length=q:=by simp; omega
     have hf:=run_firstCells_some (P:=P) w inf.size q ⟨b2,off,none⟩ zs.length c2 (flat E (zs.take q)) (by rw [flat_length,htl,hsz]) (fun j u hu=>by
      rw [addr_add]
      refine hc j u ?_
      rw [flat_parts zs q,List.getElem?_append_left (List.getElem?_eq_some_iff.1 hu).1,hu])
     have hfy:(flat E ys).length=ys.length*E.k:=flat_length E ys
     have hfq:(flat E (zs.take q)).length=q*E.k:=by rw [flat_length,htl]
     have hle:at_*E.k+q*E.k≤ys.length*E.k:=by rw [←Nat.add_mul]; exact Nat.mul_le_mul_right _ (by omega)
     have hft:(flat E (ys.take at_)).length=at_*E.k:=by rw [flat_length]; congr 1; simp; omega
     have hset:setsL (flat E ys++sp) (at_*E.k+0) (flat E (zs.take q))=some (flat E (ys.take at_++zs.take q++ys.drop (at_+q))++sp):=by
      rw [Nat.add_zero,setsL_mk _ _ _ (by rw [List.length_append]; omega),hfq,flat_append,flat_append]
      have e1:(flat E ys++sp).take (at_*E.k)=flat E (ys.take at_):=by
       rw [List.take_append_of_le_length (by omega),flat_parts ys at_,←hft,List.take_left' rfl]
      have e2:(flat E ys++sp).drop (at_*E.k+q*E.k)=flat E (ys.drop (at_+q))++sp:=by
       have hft2:(flat E (ys.take (at_+q))).length=at_*E.k+q*E.k:=by rw [flat_length,←Nat.add_mul]; congr 1; simp; omega
       rw [List.drop_append_of_le_length (by omega)]
       congr 1
       conv=>lhs; rw [flat_parts ys (at_+q)]
       rw [←hft2,List.drop_left' rfl]
      rw [e1,e2]
      simp [List.append_assoc]
     have hst:=run_storeCells (P:=P) (flat E (zs.take q)) 0 (at_*E.k) (flat E ys++sp) _ w hb hset (flat_one _)
     simp [Builtin.copy_,run_underlying ht.under,sizeOf,typeInfo,hi,Builtin.lenOf,hq',hf,hst,goInt,rowS]
theorem Rg.copy {t0 t t' B b o m c:Nat} {x y:Operand} {xv:Value} {ys zs:List α} {sp:List Value} {put:Obj→Hl} (at_:Nat) [ht:TySl P t E B] (ho:nth ops i=some ⟨some t0,.call { callee:=.builtin .copy,args:=#[x,y],argTypes:=#[t,t'] },ty,pos,af,g⟩) (hg:wantB ops l g=some true) (h0:Nat.blt t0 n.n=true)
 (hx:ev l x=some (.slice (some ⟨b,o,none⟩) m c)) (hy:ev l y=some xv) [hb:Lens hl b (rowS E ys sp) put] (hsrc:Src E F hl xv zs) (hof:m=0∨o=at_*E.k) (hm:at_+m≤ys.length) (hclr:clr.contains i=true)
 (h:Rg P Qf n F ks ops clr (put (rowS E (ys.take at_++zs.take (min zs.length m)++ys.drop (at_+min zs.length m)) sp)) r ((t0,.int .i64 ((min zs.length m:Nat):Int))::l) (put (rowS E (ys.take at_++zs.take (min zs.length m)++ys.drop (at_+min zs.length m)) sp))):Rg P Qf n F ks ops clr hs (.st i .eff r) l hl :=
 Rg.run ho hg fun a w hf hh=>by
  have hr:=run_copy_seg (P:=P) (t:=t) (t':=t') (ty:=ty) (hh.own b _ hb.mem) (zs:=zs) (xv:=xv) (by
   rcases hsrc with h | ⟨b2,off,c2,e,hc⟩
   · exact .inl h
   · exact .inr ⟨b2,off,c2,e,hc w hh.st⟩) hof hm (c:=c)
  exact ⟨_,_,_,_,.inl ⟨_,by simp [execOp,resolve,invoke,builtin,hf.ev hx,hf.ev hy,hr],hf.put h0 _⟩,hb.putB hh _,(hb.putB hh _).st,.inl hclr,h⟩
theorem Rg.copyTo {t0 t t' B c:Nat} {p:Option Addr} {x y:Operand} {xv:Value} {ys zs:List α} {seg rest:Hl} (at_:Nat) [ht:TySl P t E B] (ho:nth ops i=some ⟨some t0,.call { callee:=.builtin .copy,args:=#[x,y],argTypes:=#[t,t'] },ty,pos,af,g⟩) (hg:wantB ops l g=some true) (h0:Nat.blt t0 n.n=true)
 (hx:ev l x=some (.slice (if c=at_ then p else p.map (·.add (at_*E.k))) (ys.length-at_) (c-at_))) (hy:ev l y=some xv) (hown:Own E (.slice p ys.length c) ys seg) [hp:PullL hl seg rest] (hsrc:Src E F hl xv zs) (hat:at_≤ys.length) (hclr:clr.contains i=true)
 (h:∀seg',Own E (.slice p ys.length c) (ys.take at_++zs.take (min zs.length (ys.length-at_))++ys.drop (at_+min zs.length (ys.length-at_))) seg'→Rg P Qf n F ks ops clr (seg'++rest) r ((t0,.int .i64 ((min zs.length (ys.length-at_):Nat):Int))::l) (seg'++rest)):Rg P Qf n F ks ops clr hs (.st i .eff r) l hl :=
 Rg.run ho hg fun a w hf hh=>by
  have hh':=hh.perm hp.perm
  obtain ⟨inf,z,hi,hz,hsz,hby,hzs⟩:=ht.info
  generalize hv:Value.slice p ys.length c=v at hown
  cases hown with
  | nil =>
   cases hv
   obtain rfl:at_=0:=by simpa using hat
   have hr:(Builtin.copy_ #[t,t'] ty #[.slice none 0 0,xv]).run P w=.ok (.int .i64 ((0:Nat):Int)) w:=by
    rcases hsrc with ⟨⟨p,c2,rfl⟩,rfl⟩ | ⟨b2,off,c2,rfl,hc⟩
    · cases p<;>simp [Builtin.copy_,run_underlying ht.under,sizeOf,typeInfo,hi,Builtin.lenOf,Builtin.firstCells,loadCells,loadCellsFrom,storeCells,goInt]
    · have hn':Nat.min zs.length 0=0:=Nat.min_zero _
      simp [Builtin.copy_,run_underlying ht.under,sizeOf,typeInfo,hi,Builtin.lenOf,Builtin.firstCells,hn',loadCells,loadCellsFrom,storeCells,goInt]
   simp only [List.length_nil,Nat.sub_self,Nat.min_zero,List.take_nil,List.take_zero,List.drop_nil,List.append_nil,if_true] at hx h ⊢
   exact ⟨_,_,_,_,.inl ⟨_,by simp [execOp,resolve,invoke,builtin,hf.ev hx,hf.ev hy,hr],hf.put h0 _⟩,hh',hh'.st,.inl hclr,h [] .nil⟩
  | blk b cap _ sp hcap hcm =>
   cases hv
   have hmm:ys.length≤c:=Nat.le_of_mul_le_mul_right (show ys.length*E.k≤c*E.k by omega) E.pos
   have hx':∃o,ev l x=some (.slice (some ⟨b,o,none⟩) (ys.length-at_) (c-at_))∧(ys.length-at_=0∨o=at_*E.k):=by
    by_cases hc:c=at_
    · rw [if_pos hc] at hx; exact ⟨0,hx,.inl (by omega)⟩
    · rw [if_neg hc] at hx
      refine ⟨0+at_*E.k,?_,.inr (Nat.zero_add _)⟩
      rw [hx,Option.map_some,addr_add]
   obtain ⟨o,hx',hof⟩:=hx'
   have hr:=run_copy_seg (P:=P) (t:=t) (t':=t') (ty:=ty) (c:=c-at_) (hh'.own b (rowS E ys sp) (by simp)) (zs:=zs) (xv:=xv) (by
    rcases hsrc with h | ⟨b2,off,c2,e,hc⟩
    · exact .inl h
    · exact .inr ⟨b2,off,c2,e,hc w hh.st⟩) hof (by omega)
   have hlen:(ys.take at_++zs.take (min zs.length (ys.length-at_))++ys.drop (at_+min zs.length (ys.length-at_))).length=ys.length:=by simp; omega
   have hh2:=Lens.putB (put:=fun o'=>(b,o')::rest) ⟨[],rest,rfl,fun _=>rfl⟩ hh' (rowS E (ys.take at_++zs.take (min zs.length (ys.length-at_))++ys.drop (at_+min zs.length (ys.length-at_))) sp)
   exact ⟨_,_,_,_,.inl ⟨_,by simp [execOp,resolve,invoke,builtin,hf.ev hx',hf.ev hy,hr],hf.put h0 _⟩,hh2,hh2.st,.inl hclr,h [(b,rowS E _ sp)] (Own.blk' b c ys.length _ sp hlen.symm hcap hcm)⟩
theorem Pv.lenStr {x:Operand} {t:TypeId} {s:ByteArray} [ht:TyUnder P t .string] (hx:ev l x=some (.string s)):Pv P n l ⟨d,.call { callee:=.builtin .len,args:=#[x],argTypes:=#[t] },ty,pos,af,g⟩ (.int .i64 (s.size:Int)):=fun a w hf=>by
 simp [execOp,resolve,invoke,builtin,hf.ev hx,Builtin.len_,run_underlying ht.under,goInt]
end
end Go.Proofs.YtkpiakgmkpbikaaGreatDoor
