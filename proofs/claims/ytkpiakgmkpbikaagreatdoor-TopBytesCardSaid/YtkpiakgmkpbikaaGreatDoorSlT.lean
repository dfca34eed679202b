/- Steps of the proof. -/
import Derived.Test.YtkpiakgmkpbikaaGreatDoorHpP
import Derived.Test.YtkpiakgmkpbikaaGreatDoorSlN
import Derived.Laws.Externs
import Derived.Laws.CopyRow
import Derived.Sort.EncStr
import Derived.Shelf.SortM.Plain
import Derived.Shelf.SortM.SortNone
set_option linter.unusedVariables false
namespace Go.Proofs.YtkpiakgmkpbikaaGreatDoor
class TyExt (P:Program) (f:FuncId) (e:outParam (Array Value→Sem Value)):Prop where
 call:∀args w,(callFunc f args).run P w=((e args).run P w).andThen fun v w'=>.ok (.value v) w'
section
variable {P : Program} {n : Nf} {F : Fm} {l : Env} {hl : Hl} {d : Option Tmp} {ty : TypeId} {pos : String} {af : Array Edge} {g : Option (Nat × Bool)} {α : Type} {E : Enc α}
variable {Qf : Exit → Act → World → Prop} {ks : List KItem} {ops : List Oper} {clr : List Nat} {hs : Hl} {r : Sd} {i : Nat}
theorem run_atLoad {w:World} {b off:Nat} {v:Value} (h:w.cell? ⟨b,off,none⟩=some v):(load ⟨b,off,none⟩ .atomic).run P w=.ok v w:=by
 simp [load,Sem.run,h]
theorem run_atStore {w:World} {b off:Nat} {vs q:List Value} {e:TypeId} {v:Value} (hb:w.heap[b]? = some (cellsO vs e)) (hq:setL vs off v=some q) (h1:v.oneCell'=true):(store ⟨b,off,none⟩ v .atomic).run P w=.ok () (Go.Proofs.YtkpiakgmkpbikaaGreatDoor.putB w b (cellsO q e)):=by
 have hs:=run_store (P:=P) hb hq h1
 obtain ⟨rfl,hlt⟩:=setL_spec _ _ _ hq
 have hc:w.cell? ⟨b,off,none⟩=some vs[off]:=by simp [World.cell?,hb,hlt]
 rw [←hs]
 cases v<;>simp [store,Sem.run,hc]
theorem run_extLoad {w:World} {b off:Nat} {k:IntKind} {z:Int} (hcc:w.cell? ⟨b,off,none⟩=some (.int k z)):(Extern.Atomic.loadT (.int k) #[.pointer (some ⟨b,off,none⟩)]).run P w=.ok (.int k z) w:=by
 show (do Extern.Atomic.read (.int k) (←asAddr (.pointer (some ⟨b,off,none⟩))):Sem Value).run P w=_
 simp [Extern.Atomic.read,asAddr,run_atLoad hcc]
theorem run_extStore {w:World} {b off:Nat} {vs q:List Value} {e:TypeId} {v:Value} (hb:w.heap[b]? = some (cellsO vs e)) (hq:setL vs off v=some q) (hc:v.oneCell'=true):(Extern.Atomic.storeT #[.pointer (some ⟨b,off,none⟩),v]).run P w=.ok (.tuple #[]) (Go.Proofs.YtkpiakgmkpbikaaGreatDoor.putB w b (cellsO q e)):=by
 show (do store (←asAddr (.pointer (some ⟨b,off,none⟩))) v .atomic;pure Extern.Atomic.none_:Sem Value).run P w=_
 simp [Extern.Atomic.none_,asAddr,run_atStore (P:=P) hb hq hc]
theorem run_extSwap {w:World} {b off:Nat} {vs q:List Value} {e:TypeId} {v:Value} {k:IntKind} {z:Int} (hcc:w.cell? ⟨b,off,none⟩=some (.int k z)) (hb:w.heap[b]? = some (cellsO vs e)) (hq:setL vs off v=some q) (hc:v.oneCell'=true):(Extern.Atomic.swapT (.int k) #[.pointer (some ⟨b,off,none⟩),v]).run P w=.ok (.int k z) (Go.Proofs.YtkpiakgmkpbikaaGreatDoor.putB w b (cellsO q e)):=by
 show (do let a ←asAddr (.pointer (some ⟨b,off,none⟩));let old ←Extern.Atomic.read (.int k) a;store a v .atomic;pure old:Sem Value).run P w=_
 simp [Extern.Atomic.read,asAddr,run_atLoad hcc,run_atStore (P:=P) hb hq hc]
theorem run_extAdd {w:World} {b off:Nat} {vs q:List Value} {e:TypeId} {k:IntKind} {z u:Int} (hcc:w.cell? ⟨b,off,none⟩=some (.int k z)) (hb:w.heap[b]? = some (cellsO vs e)) (hq:setL vs off (.int k (k.wrap (z+u)))=some q):(Extern.Atomic.update (Op.intArith .add) k true #[.pointer (some ⟨b,off,none⟩),.int k u]).run P w=.ok (.int k (k.wrap (z+u))) (Go.Proofs.YtkpiakgmkpbikaaGreatDoor.putB w b (cellsO q e)):=by
 show (do let a ←asAddr (.pointer (some ⟨b,off,none⟩));let old ←Extern.Atomic.read (.int k) a;let new ←Op.intArith .add k (←asInt old) (←asInt (.int k u));store a new .atomic;pure (if true then new else old):Sem Value).run P w=_
 simp [Extern.Atomic.read,asAddr,asInt,asIntOf,run_atLoad hcc,Op.intArith,run_atStore (P:=P) hb hq rfl]
theorem Rg.atLoad {t f b off:Nat} {e:TypeId} {xs:List Operand} {vs:List Value} {ats:Array TypeId} {k:IntKind} {z:Int} [he:TyExt P f (Extern.Atomic.loadT (.int k))] (ho:nth ops i=some ⟨some t,.call { callee:=.value (.func f),args:=xs.toArray,argTypes:=ats },ty,pos,af,g⟩) (hg:wantB ops l g=some true) (ht:Nat.blt t n.n=true)
 (hx:evs l xs=some [.pointer (some ⟨b,off,none⟩)]) [hb:Has F hl b (cellsO vs e)] (hv:nth vs off=some (.int k z)) (h:Rg P Qf n F ks ops clr hl r ((t,.int k z)::l) hl):Rg P Qf n F ks ops clr hl (.st i .eff r) l hl :=
 Rg.run ho hg fun a w hf hh=>by
  have hc:w.cell? ⟨b,off,none⟩=some (.int k z):=by
   rw [nth_eq] at hv
   simp [World.cell?,hb.st hh.st,hv]
  have hr:=run_extLoad (P:=P) hc
  exact ⟨w,(t,.int k z)::l,hl,hl,.inl ⟨.int k z,by simp [execOp,resolve,Deferred.ofValue,Act.eval,invoke,he.call,hf.evs hx,hr,Result.andThen],hf.put ht _⟩,hh,hh.st,.same,h⟩
theorem Rg.atStore {t f b off:Nat} {e:TypeId} {xs:List Operand} {v:Value} {vs q:List Value} {ats:Array TypeId} {put:Obj→Hl} [he:TyExt P f Extern.Atomic.storeT] (ho:nth ops i=some ⟨some t,.call { callee:=.value (.func f),args:=xs.toArray,argTypes:=ats },ty,pos,af,g⟩) (hg:wantB ops l g=some true) (ht:Nat.blt t n.n=true)
 (hx:evs l xs=some [.pointer (some ⟨b,off,none⟩),v]) [hb:Lens hl b (cellsO vs e) put] (hc:v.oneCell'=true) (hq:setL vs off v=some q) (hclr:clr.contains i=true)
 (h:Rg P Qf n F ks ops clr (put (cellsO q e)) r ((t,.tuple #[])::l) (put (cellsO q e))):Rg P Qf n F ks ops clr hs (.st i .eff r) l hl :=
 Rg.run ho hg fun a w hf hh=>by
  have hr:=run_extStore (P:=P) (hh.own b _ hb.mem) hq hc
  exact ⟨_,(t,.tuple #[])::l,_,_,.inl ⟨.tuple #[],by simp [execOp,resolve,Deferred.ofValue,Act.eval,invoke,he.call,hf.evs hx,hr,Result.andThen],hf.put ht _⟩,hb.putB hh _,(hb.putB hh _).st,.inl hclr,h⟩
theorem Rg.atSwap {t f b off:Nat} {e:TypeId} {xs:List Operand} {k:IntKind} {z:Int} {v:Value} {vs q:List Value} {ats:Array TypeId} {put:Obj→Hl} [he:TyExt P f (Extern.Atomic.swapT (.int k))] (ho:nth ops i=some ⟨some t,.call { callee:=.value (.func f),args:=xs.toArray,argTypes:=ats },ty,pos,af,g⟩) (hg:wantB ops l g=some true) (ht:Nat.blt t n.n=true)
 (hx:evs l xs=some [.pointer (some ⟨b,off,none⟩),v]) [hb:Lens hl b (cellsO vs e) put] (hc:v.oneCell'=true) (hv:nth vs off=some (.int k z)) (hq:setL vs off v=some q) (hclr:clr.contains i=true)
 (h:Rg P Qf n F ks ops clr (put (cellsO q e)) r ((t,.int k z)::l) (put (cellsO q e))):Rg P Qf n F ks ops clr hs (.st i .eff r) l hl :=
 Rg.run ho hg fun a w hf hh=>by
  have hcc:w.cell? ⟨b,off,none⟩=some (.int k z):=by
   rw [nth_eq] at hv
   simp [World.cell?,hh.own b _ hb.mem,hv]
  have hr:=run_extSwap (P:=P) hcc (hh.own b _ hb.mem) hq hc
  exact ⟨_,(t,.int k z)::l,_,_,.inl ⟨.int k z,by simp [execOp,resolve,Deferred.ofValue,Act.eval,invoke,he.call,hf.evs hx,hr,Result.andThen],hf.put ht _⟩,hb.putB hh _,(hb.putB hh _).st,.inl hclr,h⟩
theorem Rg.atAdd {t f b off:Nat} {e:TypeId} {xs:List Operand} {k:IntKind} {z u:Int} {vs q:List Value} {ats:Array TypeId} {put:Obj→Hl} [he:TyExt P f (Extern.Atomic.update (Op.intArith .add) k true)] (ho:nth ops i=some ⟨some t,.call { callee:=.value (.func f),args:=xs.toArray,argTypes:=ats },ty,pos,af,g⟩) (hg:wantB ops l g=some true) (ht:Nat.blt t n.n=true)
 (hx:evs l xs=some [.pointer (some ⟨b,off,none⟩),.int k u]) [hb:Lens hl b (cellsO vs e) put] (hv:nth vs off=some (.int k z)) (hq:setL vs off (.int k (k.wrap (z+u)))=some q) (hclr:clr.contains i=true)
 (h:Rg P Qf n F ks ops clr (put (cellsO q e)) r ((t,.int k (k.wrap (z+u)))::l) (put (cellsO q e))):Rg P Qf n F ks ops clr hs (.st i .eff r) l hl :=
 Rg.run ho hg fun a w hf hh=>by
  have hcc:w.cell? ⟨b,off,none⟩=some (.int k z):=by
   rw [nth_eq] at hv
   simp [World.cell?,hh.own b _ hb.mem,hv]
  have hr:=run_extAdd (P:=P) hcc (hh.own b _ hb.mem) hq
  exact ⟨_,(t,.int k (k.wrap (z+u)))::l,_,_,.inl ⟨_,by simp [execOp,resolve,Deferred.ofValue,Act.eval,invoke,he.call,hf.evs hx,hr,Result.andThen],hf.put ht _⟩,hb.putB hh _,(hb.putB hh _).st,.inl hclr,h⟩
theorem run_appendZ_nil {w:World} {t ti ty e:TypeId} {k:IntKind} {inf:TypeInfo} {z:Value} (ht:P.underlying t=some (.slice e)) (hti:P.underlying ti=some (.int k)) (hi:P.info? e=some inf) (hz:inf.zero=some z) (hs:0<inf.size)
 (m:Nat) (h0:0<m) (h63:(m:Int)≤9223372036854775807) (h48:m*inf.bytes≤281474976710656) :
 (Builtin.append_ #[t,ti] ty #[.slice none 0 0,.int .i64 (m:Int)]).run P w =
  .ok (.slice (some ⟨w.heap.size,0,none⟩) m (grownCap w m 0 e)) (w.drew.alloc (.cells (Builtin.zeroCells z.cells m++Builtin.zeroCells z.cells (grownCap w m 0 e-m)) e)):=by
 have hn:m≠0:=by omega
 have h63' : ¬(9223372036854775807<(m:Int)):=by omega
 have h48' : ¬(281474976710656<Builtin.nextslicecap m 0*inf.bytes):=by rw [nextslicecap_zero h0];omega
 have hw:IntKind.i64.wrap (m:Int)=m:=i64_wrap (by omega)
 have hlt : ¬((m:Int)<0):=by omega
 have hb : ¬(281474976710656<(m:Int)*(inf.bytes:Int)):=by rw [←Int.natCast_mul];omega
 have hms:m*inf.size≠0:=Nat.mul_ne_zero hn (by omega)
 simp [Builtin.append_,run_underlying ht,run_underlying hti,sizeOf,typeInfo,zeroValue,hi,hz,asInt,asIntOf,hw,hlt,hb,hn,hms,h63',h48',Question.forced,run_firstCells_none,newRow,grownCap]
theorem run_appendZ_grow {w:World} {t ti ty e:TypeId} {k:IntKind} {inf:TypeInfo} {z:Value} (ht:P.underlying t=some (.slice e)) (hti:P.underlying ti=some (.int k)) (hi:P.info? e=some inf) (hz:inf.zero=some z) (hs:0<inf.size)
 (b:Addr) (sLen sCap:Nat) (olds:List Value) (hlo:olds.length=sLen*inf.size) (holds:∀j v,olds[j]? = some v→w.cell? (b.add j)=some v) (m:Nat)
 (hg:sCap<sLen+m) (hc:sLen≤sCap) (h63:((sLen+m:Nat):Int)≤9223372036854775807) (h48:m*inf.bytes≤281474976710656) (hfit:Builtin.nextslicecap (sLen+m) sCap*inf.bytes≤281474976710656) :
 (Builtin.append_ #[t,ti] ty #[.slice (some b) sLen sCap,.int .i64 (m:Int)]).run P w =
  .ok (.slice (some ⟨w.heap.size,0,none⟩) (sLen+m) (grownCap w (sLen+m) sCap e))
   (w.drew.alloc (.cells (olds.toArray++Builtin.zeroCells z.cells m++Builtin.zeroCells z.cells (grownCap w (sLen+m) sCap e-(sLen+m))) e)):=by
 have hn : ¬(sLen+m≤sCap):=by omega
 have h63' : ¬(9223372036854775807<((sLen:Int)+(m:Int))):=by omega
 have h48' : ¬(281474976710656<Builtin.nextslicecap (sLen+m) sCap*inf.bytes):=by omega
 have hw:IntKind.i64.wrap (m:Int)=m:=i64_wrap (by omega)
 have hlt : ¬((m:Int)<0):=by omega
 have hb : ¬(281474976710656<(m:Int)*(inf.bytes:Int)):=by rw [←Int.natCast_mul];omega
 have hm0:m≠0:=by omega
 have hms:m*inf.size≠0:=Nat.mul_ne_zero hm0 (by omega)
 have hfo:=run_firstCells_some (P:=P) w.drew inf.size sLen b sLen sCap olds hlo (by simpa using holds)
 simp [Builtin.append_,run_underlying ht,run_underlying hti,sizeOf,typeInfo,zeroValue,hi,hz,asInt,asIntOf,hw,hlt,hb,hn,hms,h63',h48',Question.forced,hfo,newRow,grownCap]
theorem run_appendZ_room {w:World} {t ti ty e:TypeId} {k:IntKind} {inf:TypeInfo} {z:Value} (ht:P.underlying t=some (.slice e)) (hti:P.underlying ti=some (.int k)) (hi:P.info? e=some inf) (hz:inf.zero=some z) (hs:0<inf.size) (hzs:z.cells.size=inf.size)
 (hz1:∀u∈z.cells.toList,u.oneCell'=true) {vs q:List Value} {te:TypeId} (b sLen sCap m:Nat) (hbk:w.heap[b]? = some (cellsO vs te)) (hg:sLen+m≤sCap) (h63:(m:Int)≤9223372036854775807) (h48:m*inf.bytes≤281474976710656)
 (hq:setsL vs (sLen*inf.size) (Builtin.zeroCells z.cells m).toList=some q) :
 (Builtin.append_ #[t,ti] ty #[.slice (some ⟨b,0,none⟩) sLen sCap,.int .i64 (m:Int)]).run P w=.ok (.slice (some ⟨b,0,none⟩) (sLen+m) sCap) (Go.Proofs.YtkpiakgmkpbikaaGreatDoor.putB w b (cellsO q te)):=by
 have hw:IntKind.i64.wrap (m:Int)=m:=i64_wrap (by omega)
 have hlt : ¬((m:Int)<0):=by omega
 have hb : ¬(281474976710656<(m:Int)*(inf.bytes:Int)):=by rw [←Int.natCast_mul];omega
 have hadd:(⟨b,0,none⟩:Addr).add (sLen*inf.size)=⟨b,sLen*inf.size,none⟩:=by rw [addr_add];simp
 have hone:∀u∈(Builtin.zeroCells z.cells m).toList,u.oneCell'=true:=fun u hu=>by
  simp only [Builtin.zeroCells,Array.toList_map,List.mem_map] at hu
  obtain ⟨j,hj,rfl⟩:=hu
  simp at hj
  have hp:0<z.cells.size:=by omega
  refine hz1 _ ?_
  rw [getElem!_pos z.cells _ (Nat.mod_lt _ hp)]
  simp
 have hst:=run_storeCells (P:=P) (b:=b) (e:=te) (Builtin.zeroCells z.cells m).toList 0 (sLen*inf.size) vs q w hbk (by simpa using hq) hone
 by_cases hm0:m=0
 · subst hm0
   have hz0:(Builtin.zeroCells z.cells 0)=#[]:=by simp [Builtin.zeroCells]
   rw [hz0] at hq
   simp only [setsL,Option.some.injEq] at hq
   subst hq
   rw [putB_same hbk]
   have hw0:IntKind.i64.wrap 0=0:=i64_wrap (by omega)
   have hg':sLen≤sCap:=by omega
   simp [Builtin.append_,run_underlying ht,run_underlying hti,sizeOf,typeInfo,zeroValue,hi,hz,asInt,asIntOf,hw0,hg',storeCells]
 · have hms:m*inf.size≠0:=Nat.mul_ne_zero hm0 (by omega)
   simp [Builtin.append_,run_underlying ht,run_underlying hti,sizeOf,typeInfo,zeroValue,hi,hz,asInt,asIntOf,hw,hlt,hb,hms,hg,hadd,hst]
theorem zero_flat {z:Value} {z0:α} (h:z.cells=(E.cells z0).toArray) (m:Nat):(Builtin.zeroCells z.cells m).toList=flat E (List.replicate m z0):=by
 have hk:z.cells.size=E.k:=by rw [h];simp [E.len]
 have hpos:=E.pos
 apply List.ext_getElem?
 intro j
 by_cases hj:j<m*E.k
 · have hr:j % E.k<E.k:=Nat.mod_lt _ hpos
   have hd:j / E.k<m:=Nat.div_lt_of_lt_mul (by rw [Nat.mul_comm];exact hj)
   have ej:j / E.k*E.k+j % E.k=j:=by rw [Nat.mul_comm];exact Nat.div_add_mod j E.k
   have hg:=flat_get E (List.replicate m z0) (j / E.k) (j % E.k) z0 (by simp [hd]) hr
   rw [ej] at hg
   rw [hg]
   have hl:j % E.k<(E.cells z0).length:=by rw [E.len];exact hr
   rw [List.getElem?_eq_getElem hl]
   simp only [Builtin.zeroCells,hk,Array.toList_map,List.getElem?_map]
   rw [show (Array.range (m*E.k)).toList[j]? = some j by simp [hj]]
   simp only [Option.map_some,h]
   rw [getElem!_pos _ _ (by simpa using hl)]
   simp
 · rw [List.getElem?_eq_none (by simp [Builtin.zeroCells,hk];omega),List.getElem?_eq_none (by rw [flat_length];simp;omega)]
theorem grown_own {z:Value} (hzs:z.cells.size=E.k) {xs:List α} {c:Nat} {rest:Hl} {w1:World} (h1:Hp F rest w1) (hcm:c≤maxLen) (hge:xs.length≤c) :
 ∃seg',Own E (.slice (some ⟨w1.heap.size,0,none⟩) xs.length c) xs seg'∧Hp F (seg'++rest) (w1.alloc (.cells ((flat E xs).toArray++Builtin.zeroCells z.cells (c-xs.length)) E.tid)):=by
 have hobj:(Obj.cells ((flat E xs).toArray++Builtin.zeroCells z.cells (c-xs.length)) E.tid)=rowS E xs (Builtin.zeroCells z.cells (c-xs.length)).toList:=by
  unfold rowS
  congr 1
  apply Array.ext'
  simp
 rw [hobj]
 refine ⟨[(w1.heap.size,rowS E xs (Builtin.zeroCells z.cells (c-xs.length)).toList)],Own.blk _ c xs _ ?_ hcm,h1.alloc _⟩
 have hZ:(Builtin.zeroCells z.cells (c-xs.length)).toList.length=(c-xs.length)*E.k:=by simp [Builtin.zeroCells,hzs]
 rw [hZ,←Nat.add_mul]
 congr 1
 omega
theorem run_append_zeros {t ti B:Nat} {k:IntKind} [ht:TySl P t E B] [hti:TyUnder P ti (.int k)] (z0:α) [hz0:TyZero P E.tid (E.val z0)] {v:Value} {xs:List α} {seg rest:Hl} {w:World} (m:Nat) (hown:Own E v xs seg) (hh:Hp F (seg++rest) w)
 (hlen:(xs.length+m)*B≤140737488355328∧m*B≤140737488355328∧xs.length+m≤9223372036854775807) (hml:xs.length+m≤maxLen) :
 ∃v' seg' w',(Builtin.append_ #[t,ti] ty #[v,.int .i64 (m:Int)]).run P w=.ok v' w'∧Own E v' (xs++List.replicate m z0) seg'∧Hp F (seg'++rest) w':=by
 obtain ⟨inf,z,hi,hz,hsz,hby,hzs⟩:=ht.info
 have hpos:=E.pos
 have hzz:z=E.val z0:=by
  have h1:=hz0.zero w
  simpa [zeroValue,typeInfo,hi,hz] using h1
 have hzc:z.cells=(E.cells z0).toArray:=by rw [hzz,←E.vc]
 have hzf:=zero_flat (E:=E) hzc m
 have hza:Builtin.zeroCells z.cells m=(flat E (List.replicate m z0)).toArray:=by rw [←hzf]
 have hfa:∀(olds:List α),(flat E olds).toArray++Builtin.zeroCells z.cells m=(flat E (olds++List.replicate m z0)).toArray:=fun olds=>by rw [hza,flat_append];simp
 have hla:∀(olds:List α),(olds++List.replicate m z0).length=olds.length+m:=fun olds=>by simp
 cases hown with
 | nil =>
  by_cases hm:m=0
  · subst hm
    have hw0:IntKind.i64.wrap 0=0:=i64_wrap (by omega)
    refine ⟨.slice none 0 0,[],w,?_,.nil,hh⟩
    simp [Builtin.append_,run_underlying ht.under,run_underlying hti.under,sizeOf,typeInfo,hi,asInt,asIntOf,hw0]
  · have hr:=run_appendZ_nil (P:=P) (w:=w) (ty:=ty) ht.under hti.under hi hz (by omega) m (by omega) (by omega) (by rw [hby];omega)
    obtain ⟨seg',h1,h2⟩:=grown_own (E:=E) (F:=F) hzs (xs:=[]++List.replicate m z0) (c:=grownCap w m 0 E.tid) (rest:=rest) (w1:=w.drew) hh.drew (grownCap_le_maxLen w _ 0 _ (by simpa using hml)) (by simpa using grownCap_ge w m 0 E.tid)
    rw [←hfa,hla] at h2
    rw [hla] at h1
    simp only [List.length_nil,Nat.zero_add,flat,List.flatMap_nil,List.nil_append] at h1 h2 ⊢
    exact ⟨_,seg',_,hr,h1,by simpa using h2⟩
 | blk b cap _ sp hcap hcm =>
  have hb:w.heap[b]? = some (rowS E xs sp):=hh.own b _ (by simp)
  have hxc:xs.length≤cap:=Nat.le_of_mul_le_mul_right (show xs.length*E.k≤cap*E.k by omega) hpos
  have hfx:(flat E xs).length=xs.length*E.k:=flat_length E xs
  by_cases hroom:xs.length+m≤cap
  · have hsp:m*E.k≤sp.length:=by
     have:=Nat.mul_le_mul_right E.k hroom
     rw [Nat.add_mul] at this
     omega
    have hrl:(flat E (List.replicate m z0)).length=m*E.k:=by rw [flat_length];simp
    have hq:setsL (flat E xs++sp) (xs.length*inf.size) (Builtin.zeroCells z.cells m).toList=some (flat E (xs++List.replicate m z0)++sp.drop (m*E.k)):=by
     rw [hzf,hsz,setsL_mk _ _ _ (by rw [hrl,ly,hfx];omega),hrl,flat_append]
     congr 1
     rw [←hfx]
     simp [List.drop_append]
    have hr:=run_appendZ_room (P:=P) (w:=w) (ty:=ty) ht.under hti.under hi hz (by omega) (by rw [hzs,hsz]) (fun u hu=>by rw [hzc] at hu;exact E.one z0 u (by simpa using hu)) b xs.length cap m hb hroom (by omega) (by rw [hby];omega) hq
    refine ⟨_,[(b,rowS E (xs++List.replicate m z0) (sp.drop (m*E.k)))],_,hr,?_,?_⟩
    · have:=Own.blk (E:=E) b cap (xs++List.replicate m z0) (sp.drop (m*E.k)) (by rw [hla,List.length_drop,Nat.add_mul];omega) hcm
      rwa [hla] at this
    · exact Lens.putB (put:=fun o'=>(b,o')::rest) ⟨[],rest,rfl,fun _=>rfl⟩ hh _
  · have hr:=run_appendZ_grow (P:=P) (w:=w) (ty:=ty) ht.under hti.under hi hz (by omega) ⟨b,0,none⟩ xs.length cap (flat E xs) (by rw [hfx,hsz]) (fun j u hu=>by
     rw [addr_add,Nat.zero_add,cell_row hb,List.getElem?_append_left ((List.getElem?_eq_some_iff.1 hu).1)];exact hu) m (by omega) hxc (by omega) (by rw [hby];omega) (by rw [hby];exact growslice_fits (by omega) hlen.1)
    obtain ⟨seg',h1,h2⟩:=grown_own (E:=E) (F:=F) hzs (xs:=xs++List.replicate m z0) (c:=grownCap w (xs.length+m) cap E.tid) (rest:=rest) (w1:=w.drew) (Hp.tail hh).drew (grownCap_le_maxLen w _ cap _ hml) (by rw [hla];exact grownCap_ge w _ cap _)
    rw [←hfa,hla] at h2
    rw [hla] at h1
    exact ⟨_,seg',_,hr,h1,h2⟩
theorem Rg.appendZ {t0 t ti B:Nat} {k:IntKind} {s x:Operand} {v:Value} {xs:List α} {seg rest:Hl} (z0:α) (m:Nat) [ht:TySl P t E B] [hti:TyUnder P ti (.int k)] [hz0:TyZero P E.tid (E.val z0)] (ho:nth ops i=some ⟨some t0,.call { callee:=.builtin .append,args:=#[s,x],argTypes:=#[t,ti] },ty,pos,af,g⟩) (hg:wantB ops l g=some true) (h0:Nat.blt t0 n.n=true)
 (hsv:ev l s=some v) (hx:ev l x=some (.int .i64 (m:Int))) (hown:Own E v xs seg) [hp:PullL hl seg rest] (hlen:(xs.length+m)*B≤140737488355328∧m*B≤140737488355328∧xs.length+m≤9223372036854775807) (hml:xs.length+m≤maxLen)
 (hclr:clr.contains i=true) (h:∀v' seg',Own E v' (xs++List.replicate m z0) seg'→Rg P Qf n F ks ops clr (seg'++rest) r ((t0,v')::l) (seg'++rest)):Rg P Qf n F ks ops clr hs (.st i .eff r) l hl :=
 Rg.run ho hg fun a w hf hh=>by
  obtain ⟨v',seg',w',hr,hown',hh'⟩:=run_append_zeros (P:=P) (t:=t) (ti:=ti) (ty:=ty) z0 m hown (hh.perm hp.perm) hlen hml
  exact ⟨w',_,_,_,.inl ⟨v',by simp [execOp,resolve,invoke,builtin,hf.ev hsv,hf.ev hx,hr],hf.put h0 v'⟩,hh',hh'.st,.inl hclr,h v' seg' hown'⟩
theorem run_copy_seg {t t' B:Nat} [ht:TySl P t E B] {w:World} {b o m c at_:Nat} {ys zs:List α} {sp:List Value} {xv:Value} (hb:w.heap[b]? = some (rowS E ys sp))
 (hsrc:((∃p c,xv=.slice p 0 c)∧zs=[])∨∃b2 off c2,xv=.slice (some ⟨b2,off,none⟩) zs.length c2∧∀j u,(flat E zs)[j]? = some u→w.cell? ⟨b2,off+j,none⟩=some u) (ho:m=0∨o=at_*E.k) (hm:at_+m≤ys.length) :
 (Builtin.copy_ #[t,t'] ty #[.slice (some ⟨b,o,none⟩) m c,xv]).run P w=.ok (.int .i64 (min zs.length m:Nat)) (Go.Proofs.YtkpiakgmkpbikaaGreatDoor.putB w b (rowS E (ys.take at_++zs.take (min zs.length m)++ys.drop (at_+min zs.length m)) sp)):=by
 obtain ⟨inf,z,hi,hz,hsz,hby,hzs⟩:=ht.info
 have hpos:=E.pos
 by_cases hn:min zs.length m=0
 · rw [hn,List.take_zero,List.append_nil,Nat.add_zero,List.take_append_drop,putB_same hb]
   rcases hsrc with ⟨⟨p,c2,rfl⟩,rfl⟩ | ⟨b2,off,c2,rfl,hc⟩
   · cases p<;>simp [Builtin.copy_,run_underlying ht.under,sizeOf,typeInfo,hi,Builtin.lenOf,Builtin.firstCells,loadCells,loadCellsFrom,storeCells,goInt]
   · have hn':Nat.min zs.length m=0:=hn
     simp [Builtin.copy_,run_underlying ht.under,sizeOf,typeInfo,hi,Builtin.lenOf,Builtin.firstCells,hn',loadCells,loadCellsFrom,storeCells,goInt]
 · rcases hsrc with ⟨⟨p,c2,rfl⟩,rfl⟩ | ⟨b2,off,c2,rfl,hc⟩
   · simp at hn
   · obtain ⟨q,hq⟩:∃q,q=min zs.length m:=⟨_,rfl⟩
     rw [←hq] at hn ⊢
     have hq':Nat.min zs.length m=q:=hq.symm
     have hoo:o=at_*E.k:=ho.resolve_left (by omega)
     subst hoo
     have htl:(zs.take q).length=q:=by simp;omega
     have hf:=run_firstCells_some (P:=P) w inf.size q ⟨b2,off,none⟩ zs.length c2 (flat E (zs.take q)) (by rw [flat_length,htl,hsz]) (fun j u hu=>by
      rw [addr_add]
      refine hc j u ?_
      rw [flat_parts zs q,List.getElem?_append_left (List.getElem?_eq_some_iff.1 hu).1,hu])
     have hfy:(flat E ys).length=ys.length*E.k:=flat_length E ys
     have hfq:(flat E (zs.take q)).length=q*E.k:=by rw [flat_length,htl]
     have hle:at_*E.k+q*E.k≤ys.length*E.k:=by rw [←Nat.add_mul];exact Nat.mul_le_mul_right _ (by omega)
     have hft:(flat E (ys.take at_)).length=at_*E.k:=by rw [flat_length];congr 1;simp;omega
     have hset:setsL (flat E ys++sp) (at_*E.k+0) (flat E (zs.take q))=some (flat E (ys.take at_++zs.take q++ys.drop (at_+q))++sp):=by
      rw [Nat.add_zero,setsL_mk _ _ _ (by rw [ly];omega),hfq,flat_append,flat_append]
      have e1:(flat E ys++sp).take (at_*E.k)=flat E (ys.take at_):=by
       rw [List.take_append_of_le_length (by omega),flat_parts ys at_,←hft,List.take_left' rfl]
      have e2:(flat E ys++sp).drop (at_*E.k+q*E.k)=flat E (ys.drop (at_+q))++sp:=by
       have hft2:(flat E (ys.take (at_+q))).length=at_*E.k+q*E.k:=by rw [flat_length,←Nat.add_mul];congr 1;simp;omega
       rw [List.drop_append_of_le_length (by omega)]
       congr 1
       conv=>lhs;rw [flat_parts ys (at_+q)]
       rw [←hft2,List.drop_left' rfl]
      rw [e1,e2]
      simp []
     have hst:=run_storeCells (P:=P) (flat E (zs.take q)) 0 (at_*E.k) (flat E ys++sp) _ w hb hset (flat_one _)
     simp [Builtin.copy_,run_underlying ht.under,sizeOf,typeInfo,hi,Builtin.lenOf,hq',hf,hst,goInt,rowS]
theorem Rg.copy {t0 t t' B b o m c:Nat} {x y:Operand} {xv:Value} {ys zs:List α} {sp:List Value} {put:Obj→Hl} (at_:Nat) [ht:TySl P t E B] (ho:nth ops i=some ⟨some t0,.call { callee:=.builtin .copy,args:=#[x,y],argTypes:=#[t,t'] },ty,pos,af,g⟩) (hg:wantB ops l g=some true) (h0:Nat.blt t0 n.n=true)
 (hx:ev l x=some (.slice (some ⟨b,o,none⟩) m c)) (hy:ev l y=some xv) [hb:Lens hl b (rowS E ys sp) put] (hsrc:Src E F hl xv zs) (hof:m=0∨o=at_*E.k) (hm:at_+m≤ys.length) (hclr:clr.contains i=true)
 (h:Rg P Qf n F ks ops clr (put (rowS E (ys.take at_++zs.take (min zs.length m)++ys.drop (at_+min zs.length m)) sp)) r ((t0,.int .i64 ((min zs.length m:Nat):Int))::l) (put (rowS E (ys.take at_++zs.take (min zs.length m)++ys.drop (at_+min zs.length m)) sp))):Rg P Qf n F ks ops clr hs (.st i .eff r) l hl :=
 Rg.run ho hg fun a w hf hh=>by
  have hr:=run_copy_seg (P:=P) (t:=t) (t':=t') (ty:=ty) (hh.own b _ hb.mem) (zs:=zs) (xv:=xv) (by
   rcases hsrc with h | ⟨b2,off,c2,e,hc⟩
   · exact .inl h
   · exact .inr ⟨b2,off,c2,e,hc w hh.st⟩) hof hm (c:=c)
  exact ⟨_,_,_,_,.inl ⟨_,by simp [execOp,resolve,invoke,builtin,hf.ev hx,hf.ev hy,hr],hf.put h0 _⟩,hb.putB hh _,(hb.putB hh _).st,.inl hclr,h⟩
theorem Rg.copyTo {t0 t t' B c:Nat} {p:Option Addr} {x y:Operand} {xv:Value} {ys zs:List α} {seg rest:Hl} (at_:Nat) [ht:TySl P t E B] (ho:nth ops i=some ⟨some t0,.call { callee:=.builtin .copy,args:=#[x,y],argTypes:=#[t,t'] },ty,pos,af,g⟩) (hg:wantB ops l g=some true) (h0:Nat.blt t0 n.n=true)
 (hx:ev l x=some (.slice (if c=at_ then p else p.map (·.add (at_*E.k))) (ys.length-at_) (c-at_))) (hy:ev l y=some xv) (hown:Own E (.slice p ys.length c) ys seg) [hp:PullL hl seg rest] (hsrc:Src E F hl xv zs) (hat:at_≤ys.length) (hclr:clr.contains i=true)
 (h:∀seg',Own E (.slice p ys.length c) (ys.take at_++zs.take (min zs.length (ys.length-at_))++ys.drop (at_+min zs.length (ys.length-at_))) seg'→Rg P Qf n F ks ops clr (seg'++rest) r ((t0,.int .i64 ((min zs.length (ys.length-at_):Nat):Int))::l) (seg'++rest)):Rg P Qf n F ks ops clr hs (.st i .eff r) l hl :=
 Rg.run ho hg fun a w hf hh=>by
  have hh':=hh.perm hp.perm
  obtain ⟨inf,z,hi,hz,hsz,hby,hzs⟩:=ht.info
  generalize hv:Value.slice p ys.length c=v at hown
  cases hown with
  | nil =>
   cases hv
   obtain rfl:at_=0:=by simpa using hat
   have hr:(Builtin.copy_ #[t,t'] ty #[.slice none 0 0,xv]).run P w=.ok (.int .i64 ((0:Nat):Int)) w:=by
    rcases hsrc with ⟨⟨p,c2,rfl⟩,rfl⟩ | ⟨b2,off,c2,rfl,hc⟩
    · cases p<;>simp [Builtin.copy_,run_underlying ht.under,sizeOf,typeInfo,hi,Builtin.lenOf,Builtin.firstCells,loadCells,loadCellsFrom,goInt]
    · have hn':Nat.min zs.length 0=0:=Nat.min_zero _
      simp [Builtin.copy_,run_underlying ht.under,sizeOf,typeInfo,hi,Builtin.lenOf,Builtin.firstCells,loadCells,loadCellsFrom,goInt]
   simp only [List.length_nil,Nat.sub_self,Nat.min_zero,List.take_nil,List.take_zero,List.drop_nil,List.append_nil,if_true] at hx h ⊢
   exact ⟨_,_,_,_,.inl ⟨_,by simp [execOp,resolve,invoke,builtin,hf.ev hx,hf.ev hy,hr],hf.put h0 _⟩,hh',hh'.st,.inl hclr,h [] .nil⟩
  | blk b cap _ sp hcap hcm =>
   cases hv
   have hmm:ys.length≤c:=Nat.le_of_mul_le_mul_right (show ys.length*E.k≤c*E.k by omega) E.pos
   have hx':∃o,ev l x=some (.slice (some ⟨b,o,none⟩) (ys.length-at_) (c-at_))∧(ys.length-at_=0∨o=at_*E.k):=by
    by_cases hc:c=at_
    · rw [if_pos hc] at hx;exact ⟨0,hx,.inl (by omega)⟩
    · rw [if_neg hc] at hx
      refine ⟨0+at_*E.k,?_,.inr (Nat.zero_add _)⟩
      rw [hx,Option.map_some,addr_add]
   obtain ⟨o,hx',hof⟩:=hx'
   have hr:=run_copy_seg (P:=P) (t:=t) (t':=t') (ty:=ty) (c:=c-at_) (hh'.own b (rowS E ys sp) (by simp)) (zs:=zs) (xv:=xv) (by
    rcases hsrc with h | ⟨b2,off,c2,e,hc⟩
    · exact .inl h
    · exact .inr ⟨b2,off,c2,e,hc w hh.st⟩) hof (by omega)
   have hlen:(ys.take at_++zs.take (min zs.length (ys.length-at_))++ys.drop (at_+min zs.length (ys.length-at_))).length=ys.length:=by simp;omega
   have hh2:=Lens.putB (put:=fun o'=>(b,o')::rest) ⟨[],rest,rfl,fun _=>rfl⟩ hh' (rowS E (ys.take at_++zs.take (min zs.length (ys.length-at_))++ys.drop (at_+min zs.length (ys.length-at_))) sp)
   exact ⟨_,_,_,_,.inl ⟨_,by simp [execOp,resolve,invoke,builtin,hf.ev hx',hf.ev hy,hr],hf.put h0 _⟩,hh2,hh2.st,.inl hclr,h [(b,rowS E _ sp)] (Own.blk' b c ys.length _ sp hlen.symm hcap hcm)⟩
theorem Pv.lenStr {x:Operand} {t:TypeId} {s:ByteArray} [ht:TyUnder P t .string] (hx:ev l x=some (.string s)):Pv P n l ⟨d,.call { callee:=.builtin .len,args:=#[x],argTypes:=#[t] },ty,pos,af,g⟩ (.int .i64 (s.size:Int)):=fun a w hf=>by
 simp [execOp,resolve,invoke,builtin,hf.ev hx,Builtin.len_,run_underlying ht.under,goInt]
end
theorem mixed:Tryz.prog.follows .mixedOrders=true:=by kernel_rfl
theorem mkExt {f : Nat} {fn : Func} {e : Array Value → Sem Value} (hf : Tryz.prog.funcs[f]? = some fn) (hname : (fn.name == "runtime.NumGoroutine") = false) (hb : fn.body.isNone = true) (hn : Extern.findNext fn = none) (he : Extern.find fn = some e) : TyExt Tryz.prog f e := ⟨fun args w => run_callFunc_extern hf hname hb hn he args w⟩
instance : TyExt Tryz.prog 133 (Extern.Atomic.loadT (.int .u32)):=mkExt Tryz.func133 (by kernel_rfl) (by kernel_rfl) (by kernel_rfl) (by kernel_rfl)
instance : TyExt Tryz.prog 69 Extern.Atomic.storeT:=mkExt Tryz.func69 (by kernel_rfl) (by kernel_rfl) (by kernel_rfl) (by kernel_rfl)
instance : TyExt Tryz.prog 55 (Extern.Atomic.swapT (.int .u32)):=mkExt Tryz.func55 (by kernel_rfl) (by kernel_rfl) (by kernel_rfl) (by kernel_rfl)
instance : TyExt Tryz.prog 115 (Extern.Atomic.update (Op.intArith .add) .i64 true):=mkExt Tryz.func115 (by kernel_rfl) (by kernel_rfl) (by kernel_rfl) (by kernel_rfl)
def bit (b:Bool):Int:=if b then 1 else 0
theorem b32_spec (F:Fm) (b:Bool):Spec Tryz.prog 56 #[.bool b] F [] fun v _=>v=.int .u32 (bit b):=by
 refine Spec.of (n:=4) (vs:=[.bool b]) Tryz.func56 rfl Tryz.ntmps56 rfl ?_
 refine sj [.p] Z<|aj Z<|nl<|wj<|sj [.p] Z<|mj Z<|nl<|cj Z (fun h3=>?_) (fun h3=>?_)
 · refine sj [.p] Z<|aj Z<|nl<|vz Z (tz Z) ?_
   exact congrArg (Value.int .u32) (by rw [h3];rfl)
 · refine kj<|sj [.p] Z<|aj Z<|nl<|vz Z (tz Z) ?_
   exact congrArg (Value.int .u32) (by rw [h3];rfl)
theorem bit_ne (b:Bool):(bit b != 0)=b:=by cases b<;>rfl
abbrev dkC (mb:Nat) (room used ops armed:Int) (keep:Value) (down:Bool):List Value:=[.map (some mb),.int .i64 room,.int .i64 used,.int .i64 ops,.int .i64 armed,keep,.int .u32 (bit down)]
abbrev dkO (mb:Nat) (room used ops armed:Int) (keep:Value) (down:Bool):Obj:=cellsO (dkC mb room used ops armed keep down) 98
section
variable {F : Fm} {db mb : Nat} {room used ops armed : Int} {keep : Value} {down : Bool}
theorem bload_spec [h1:Fat F db (dkO mb room used ops armed keep down)]:Spec Tryz.prog 116 #[.pointer (some ⟨db,6,none⟩)] F [] fun v _=>v=.bool down:=by
 refine Spec.of (n:=8) (vs:=[.pointer (some ⟨db,6,none⟩)]) Tryz.func116 rfl Tryz.ntmps116 rfl ?_
 refine sj [.p] Z<|aj Z<|nl<|sj [.p,.p,.p,.e,.p,.p] Z<|mj Z<|nj Z<|fj Z ?_
 refine Rg.atLoad Z Z Z Z Z<|uj Z (Pv.neq Z Z)<|aj Z<|nl<|vz Z (tz Z) ?_
 exact congrArg Value.bool (bit_ne down)
theorem bstore_spec (x:Bool):Spec Tryz.prog 52 #[.pointer (some ⟨db,6,none⟩),.bool x] F [(db,dkO mb room used ops armed keep down)] fun _ s=>s=[(db,dkO mb room used ops armed keep x)]:=by
 refine Spec.of (n:=10) (vs:=[.pointer (some ⟨db,6,none⟩),.bool x]) Tryz.func52 rfl Tryz.ntmps52 rfl ?_
 refine Vc.draw [5] (sd [(0,.pure),(1,.pure),(2,.pure),(3,.pure),(4,.eff),(5,.eff)]) mixed (by kernel_rfl)<|mj Z<|nj Z<|fj Z<|mj Z ?_
 refine Rg.callP Z Z Z (mz Z) (b32_spec _ _) ?_
 rintro _ rfl
 refine Rg.atStore Z Z Z Z Z Z Z<|nl ?_
 exact Vc.fin (Vc.retsH rfl .nil (rfl) pulled)
theorem bswap_spec (x:Bool):Spec Tryz.prog 32 #[.pointer (some ⟨db,6,none⟩),.bool x] F [(db,dkO mb room used ops armed keep down)] fun v s=>v=.bool down∧s=[(db,dkO mb room used ops armed keep x)]:=by
 refine Spec.of (n:=12) (vs:=[.pointer (some ⟨db,6,none⟩),.bool x]) Tryz.func32 rfl Tryz.ntmps32 rfl ?_
 refine sj [.p] Z<|aj Z<|nl<|wj ?_
 refine Vc.draw [5] (sd [(0,.pure),(1,.pure),(2,.pure),(3,.pure),(4,.eff),(5,.eff),(6,.pure),(7,.pure)]) mixed (by kernel_rfl)<|mj Z<|nj Z<|fj Z<|mj Z ?_
 refine Rg.callP Z Z Z (mz Z) (b32_spec _ _) ?_
 rintro _ rfl
 refine Rg.atSwap Z Z Z Z Z Z Z Z<|uj Z (Pv.neq Z Z)<|aj Z<|nl ?_
 exact vr rfl (tz Z) (⟨congrArg Value.bool (bit_ne down),rfl⟩) pulled
theorem iadd_spec (x:Int):Spec Tryz.prog 100 #[.pointer (some ⟨db,3,none⟩),.int .i64 x] F [(db,dkO mb room used ops armed keep down)] fun v s=>s=[(db,dkO mb room used (IntKind.wrap .i64 (ops+x)) armed keep down)]:=by
 refine Spec.of (n:=10) (vs:=[.pointer (some ⟨db,3,none⟩),.int .i64 x]) Tryz.func100 rfl Tryz.ntmps100 rfl ?_
 refine sj [.p] Z<|aj Z<|nl<|sj [.p,.p,.p,.p,.e,.p] Z<|mj Z<|nj Z<|fj Z<|mj Z ?_
 refine Rg.atAdd Z Z Z Z Z Z Z<|aj Z<|nl ?_
 exact vr rfl (tz Z) (rfl) pulled
theorem down_spec [h1:Fat F db (dkO mb room used ops armed keep down)]:Spec Tryz.prog 101 #[.pointer (some ⟨db,0,none⟩)] F [] fun v _=>v=.bool down:=by
 refine Spec.of (n:=7) (vs:=[.pointer (some ⟨db,0,none⟩)]) Tryz.func101 rfl Tryz.ntmps101 rfl ?_
 refine sj [.p] Z<|aj Z<|nl<|sj [.p,.p,.p,.e,.p] Z<|mj Z<|nj Z<|fj Z ?_
 refine Rg.callP Z Z Z (mz Z) (bload_spec (mb:=mb) (room:=room) (used:=used) (ops:=ops) (armed:=armed) (keep:=keep) (down:=down) (h1:=⟨.inr h1.at_⟩)) ?_
 rintro _ rfl
 refine aj Z<|nl<|vz Z (tz Z) ?_
 rfl
end
def secs (n:Nat):Nat:=(n+15) / 16
theorem sectors_spec (F:Fm) (n:Nat) (hn:n<4294967296):Spec Tryz.prog 37 #[.int .i64 (n:Int)] F [] fun v _=>v=.int .i64 (secs n:Nat):=by
 refine Spec.of (n:=7) (vs:=[.int .i64 (n:Int)]) Tryz.func37 rfl Tryz.ntmps37 rfl ?_
 refine sj [.p] Z<|aj Z<|nl<|sj [.p,.p,.p,.p,.p] Z<|mj Z<|uj Z (Pv.add rfl rfl (by omega))<|uj Z (Pv.sub rfl rfl (by omega))<|uj Z (Pv.asI (secs n) (Pv.quo rfl rfl (by omega)) (by unfold secs;omega))<|aj Z<|nl<|vz Z (tz Z) ?_
 rfl
abbrev byteE:Enc UInt8:=byteEnc 5
instance : RowTy Tryz.prog byteE 5:=⟨Tryz.sizeOf5,.inr ⟨Tryz.isAgg5,rfl,fun _=>rfl⟩⟩
instance : TySl Tryz.prog 40 byteE 1:=⟨Tryz.underlying40,Tryz.t5,.int .u8 0,by kernel_rfl,by kernel_rfl,rfl,rfl,rfl⟩
instance : TyZero Tryz.prog byteE.tid (byteE.val 0):=inferInstanceAs (TyZero Tryz.prog 5 (.int .u8 0))
def boolE:Enc Bool where
 k:=1
 tid:=4
 cells:=fun b=>[.bool b]
 val:=fun b=>.bool b
 pos:=by decide
 len:=fun _=>rfl
 one:=fun x v hv=>by simp at hv;subst hv;rfl
 vc:=fun _=>rfl
instance : RowTy Tryz.prog boolE 4:=⟨Tryz.sizeOf4,.inr ⟨Tryz.isAgg4,rfl,fun _=>rfl⟩⟩
instance : TySl Tryz.prog 41 boolE 1:=⟨Tryz.underlying41,Tryz.t4,.bool false,by kernel_rfl,by kernel_rfl,rfl,rfl,rfl⟩
theorem clone_spec {F:Fm} {va:Value} {xs:List UInt8} (ha:Arg byteE F va xs) (hN:xs.length<4294967296) :
 Spec Tryz.prog 60 #[va] F [] fun v s=>Own byteE v xs s:=by
 obtain ⟨p,c,rfl⟩:=ha.shape
 refine Spec.of (n:=8) (vs:=[.slice p xs.length c]) Tryz.func60 rfl Tryz.ntmps60 rfl ?_
 refine sj [.p] Z<|aj Z<|nl<|wj<|sj [.p,.p] Z<|mj Z<|uj Z (Pv.eqlNilS Z Z)<|nl<|cj Z (fun h4=>?_) (fun h4=>?_)
 · obtain rfl:p=none:=by cases p with | none=>rfl | some a=>cases h4
   obtain rfl:xs=[]:=by
    rcases ha with ⟨_,e⟩ | ⟨_,_,_,e,_⟩
    · exact e
    · cases e
   refine sj [.p] Z<|aj Z<|nl<|vz Z (tz Z) ?_
   exact Own.nil
 · refine kj<|sj [.e,.p,.e,.p] Z<|Rg.bslice0 (E:=byteE) Z Z Z (fun b5 own5=>?_)
   refine mj Z<|Rg.append Z Z Z Z Z own5 ha.src (by simp<;>omega) (by simp [maxLen]<;>omega) rfl (fun v7 s7 own7=>?_)
   refine aj Z<|nl ?_
   exact vr rfl (tz Z) (own7) pulled
theorem cloneB_spec {F:Fm} {va:Value} {xs:List Bool} (ha:Arg boolE F va xs) (hN:xs.length<4294967296) :
 Spec Tryz.prog 38 #[va] F [] fun v s=>Own boolE v xs s:=by
 obtain ⟨p,c,rfl⟩:=ha.shape
 refine Spec.of (n:=8) (vs:=[.slice p xs.length c]) Tryz.func38 rfl Tryz.ntmps38 rfl ?_
 refine sj [.p] Z<|aj Z<|nl<|wj<|sj [.p,.p] Z<|mj Z<|uj Z (Pv.eqlNilS Z Z)<|nl<|cj Z (fun h4=>?_) (fun h4=>?_)
 · obtain rfl:p=none:=by cases p with | none=>rfl | some a=>cases h4
   obtain rfl:xs=[]:=by
    rcases ha with ⟨_,e⟩ | ⟨_,_,_,e,_⟩
    · exact e
    · cases e
   refine sj [.p] Z<|aj Z<|nl<|vz Z (tz Z) ?_
   exact Own.nil
 · refine kj<|sj [.e,.p,.e,.p] Z<|Rg.bslice0 (E:=boolE) Z Z Z (fun b5 own5=>?_)
   refine mj Z<|Rg.append Z Z Z Z Z own5 ha.src (by simp<;>omega) (by simp [maxLen]<;>omega) rfl (fun v7 s7 own7=>?_)
   refine aj Z<|nl ?_
   exact vr rfl (tz Z) (own7) pulled
def mayN (s:ByteArray):Bool:=decide (1≤s.size)&&decide (s.size≤24)
theorem size_zero {s:ByteArray}:s=⟨#[]⟩↔s.size=0:=by
 obtain ⟨a⟩:=s
 constructor
 · intro h;cases h;rfl
 · intro h
   have:a=#[]:=Array.eq_empty_of_size_eq_zero h
   rw [this]
theorem may_spec (F:Fm) (s:ByteArray):Spec Tryz.prog 247 #[.string s] F [] fun v _=>v=.bool (mayN s):=by
 refine Spec.of (n:=10) (vs:=[.string s]) Tryz.func247 rfl Tryz.ntmps247 rfl ?_
 refine sj [.p] Z<|aj Z<|nl<|sj [.p,.p,.p,.p,.p,.p,.p,.p] Z<|mj Z<|uj Z (Pv.neqS Z Z)<|mj Z<|Rg.split (t:=5) Z (fun h5=>?_) (fun h5=>?_)
 · simp only [Bool.not_eq_true',df] at h5
   rw [size_zero] at h5
   refine mj Z<|uj Z (Pv.lenStr Z)<|uj Z (Pv.leq Z Z)<|qj Z Z<|aj Z<|nl<|vz Z (tz Z) ?_
   exact congrArg Value.bool (by rw [mayN,decide_eq_true (show 1≤s.size by omega),Bool.true_and];rw [Bool.eq_iff_iff];simp;omega)
 · simp only [Bool.not_eq_false',dt] at h5
   rw [size_zero] at h5
   iterate 3 (first | refine Rg.skipP rfl rfl rfl ?_ | refine Rg.skipR rfl rfl rfl ?_ | refine Rg.skipE rfl rfl rfl ?_)
   refine pj Z Z<|aj Z<|nl<|vz Z (tz Z) ?_
   exact congrArg Value.bool (by rw [mayN,decide_eq_false (show ¬1≤s.size by omega)];rfl)
def putAt (now:List UInt8) (k:Nat) (bs:List UInt8):List UInt8:=now.take k++bs++now.drop (k+bs.length)
theorem putAt_length {now bs:List UInt8} {k:Nat} (hk:k≤now.length):(putAt now k bs).length=max now.length (k+bs.length):=by
 simp [putAt];omega
theorem putAt_of {now bs:List UInt8} {k:Nat} (hk:k≤now.length) :
 let ys:=now++List.replicate (max now.length (k+bs.length)-now.length) 0
 ys.take k++bs.take (min bs.length (ys.length-k))++ys.drop (k+min bs.length (ys.length-k))=putAt now k bs:=by
 intro ys
 have hyl:ys.length=max now.length (k+bs.length):=by simp [ys];omega
 have hm:min bs.length (ys.length-k)=bs.length:=by rw [hyl];omega
 rw [hm,List.take_length,putAt]
 have h1:ys.take k=now.take k:=by simp [ys,List.take_append_of_le_length hk]
 rw [h1]
 congr 1
 by_cases h:k+bs.length≤now.length
 · have:max now.length (k+bs.length)-now.length=0:=by omega
   simp [ys,this]
 · rw [List.drop_eq_nil_of_le (by omega),List.drop_eq_nil_of_le (by omega)]
def wrG (room used:Int) (now:List UInt8) (at_:Int) (bs:List UInt8):Int×Int×List UInt8 :=
 if at_<0∨(now.length:Int)<at_ then (1,used,now)
 else if room<used+((secs (max now.length (at_.toNat+bs.length)):Int)-(secs now.length:Int)) then (6,used,now)
 else (0,used+((secs (max now.length (at_.toNat+bs.length)):Int)-(secs now.length:Int)),putAt now at_.toNat bs)
set_option maxHeartbeats 1000000 in
theorem writes_spec {F:Fm} {db mb fb:Nat} {room used ops armed:Int} {keep vn vs:Value} {down:Bool} {now bs:List UInt8} {s1:Hl} {vb:Value} (own:Own byteE vn now s1) (hb:Arg byteE F vb bs) (at_:Int)
 (hn:now.length<1073741824) (hbl:bs.length<1073741824) (hu:0≤used∧used≤1099511627776) :
 Spec Tryz.prog 256 #[.pointer (some ⟨db,0,none⟩),.pointer (some ⟨fb,0,none⟩),.int .i64 at_,vb] F ((db,dkO mb room used ops armed keep down)::(fb,cellsO [vn,vs] 109)::s1)
  fun v s=>v=.int .i64 (wrG room used now at_ bs).1∧∃vn' s1',Own byteE vn' (wrG room used now at_ bs).2.2 s1'∧s=(db,dkO mb room (wrG room used now at_ bs).2.1 ops armed keep down)::(fb,cellsO [vn',vs] 109)::s1':=by
 obtain ⟨pb,cb,rfl⟩:=hb.shape
 obtain ⟨pn,cn,rfl⟩:=own.shape
 refine Spec.of (n:=83) (vs:=[.pointer (some ⟨db,0,none⟩),.pointer (some ⟨fb,0,none⟩),.int .i64 at_,.slice pb bs.length cb]) Tryz.func256 rfl Tryz.ntmps256 rfl ?_
 refine sj [.p] Z<|aj Z<|nl<|wj<|sj [.p,.p,.p,.p,.p,.p,.p,.r,.p,.p,.p] Z<|mj Z<|uj Z (Pv.lss Z Z)<|mj Z<|Rg.split (t:=13) Z (fun h13=>?_) (fun h13=>?_)
 · simp only [dt] at h13
   iterate 7 (first | refine Rg.skipP rfl rfl rfl ?_ | refine Rg.skipR rfl rfl rfl ?_ | refine Rg.skipE rfl rfl rfl ?_)
   refine qj Z Z<|nl<|Vc.condT Z<|sj [.p] Z<|aj Z<|nl ?_
   exact vr rfl (tz Z) (⟨congrArg (Value.int .i64) (by rw [wrG,if_pos (.inl h13)]),_,s1,by rw [wrG,if_pos (.inl h13)];exact own,by rw [wrG,if_pos (.inl h13)]⟩) pulled
 · simp only [df] at h13
   refine mj Z<|mj Z<|nj Z<|fj Z<|lj Z Z<|uj Z (Pv.lenS Z)<|uj Z (Pv.gtr Z Z)<|pj Z Z<|nl<|cj Z (fun h21=>?_) (fun h21=>?_)
   · simp only [dt] at h21
     refine sj [.p] Z<|aj Z<|nl ?_
     exact vr rfl (tz Z) (⟨congrArg (Value.int .i64) (by rw [wrG,if_pos (.inr h21)]),_,s1,by rw [wrG,if_pos (.inr h21)];exact own,by rw [wrG,if_pos (.inr h21)]⟩) pulled
   · simp only [df] at h21
     obtain ⟨k,rfl⟩:∃k:Nat,at_=k:=⟨at_.toNat,by omega⟩
     have hk:k≤now.length:=by omega
     obtain ⟨size,hsz⟩:∃s,s=max now.length (k+bs.length):=⟨_,rfl⟩
     have hpa:=putAt_of (bs:=bs) hk
     have hpl:=putAt_length (bs:=bs) hk
     rw [←hsz] at hpa hpl
     refine kj<|sj [.p,.p,.p,.r,.p,.p,.p,.p,.p,.p,.p] Z<|mj Z<|nj Z<|fj Z<|lj Z Z<|uj Z (Pv.lenS Z)<|mj Z<|mj Z<|uj Z (Pv.lenS Z)<|uj Z (Pv.add rfl rfl (by omega))<|uj Z (Pv.asI (size) (Pv.max rfl rfl) (by omega))<|aj Z<|nl<|wj ?_
     refine Vc.draw [] (sd [(0,.pure),(2,.pure),(3,.pure),(4,.pure),(5,.read),(6,.pure),(1,.eff),(7,.eff),(8,.pure),(9,.pure)]) mixed (by kernel_rfl)<|mj Z<|mj Z<|nj Z<|fj Z<|lj Z Z<|uj Z (Pv.lenS Z) ?_
     refine Rg.callP Z Z Z (mz Z) (sectors_spec _ size (by omega)) ?_
     rintro _ rfl
     refine Rg.callP Z Z Z (mz Z) (sectors_spec _ now.length (by omega)) ?_
     rintro _ rfl
     refine uj Z (Pv.sub rfl rfl (by have:secs size≤1099511627776:=(by unfold secs;omega);have:secs now.length≤1099511627776:=(by unfold secs;omega);omega)) ?_
     have hs1:secs size≤1099511627776:=by unfold secs;omega
     have hs2:secs now.length≤1099511627776:=by unfold secs;omega
     refine aj Z<|nl<|wj<|wj ?_
     refine Vc.draw [] (sd [(0,.pure),(1,.pure),(2,.pure),(3,.read),(4,.pure),(5,.pure),(6,.pure),(7,.pure),(8,.pure),(9,.read),(10,.pure)]) mixed (by kernel_rfl)<|mj Z<|nj Z<|fj Z<|lj Z Z<|mj Z<|uj Z (Pv.add rfl rfl (by omega))<|mj Z<|nj Z<|fj Z<|lj Z Z<|uj Z (Pv.gtr Z Z)<|nl<|cj Z (fun h51=>?_) (fun h51=>?_)
     · simp only [dt] at h51
       refine sj [.p] Z<|aj Z<|nl ?_
       exact vr rfl (tz Z) (⟨congrArg (Value.int .i64) (by rw [wrG,if_neg (by omega),Int.toNat_natCast,←hsz,if_pos h51]),_,s1,by rw [wrG,if_neg (by omega),Int.toNat_natCast,←hsz,if_pos h51];exact own,by rw [wrG,if_neg (by omega),Int.toNat_natCast,←hsz,if_pos h51]⟩) pulled
     · simp only [df] at h51
       refine kj<|sj [.p,.p,.p,.r,.p,.p,.p,.p,.e] Z<|mj Z<|nj Z<|fj Z<|lj Z Z<|mj Z<|uj Z (Pv.add rfl rfl (by omega))<|nj Z<|fj Z ?_
       refine Rg.store Z Z Z Z Z Z Z Z<|nl<|wj ?_
       refine Vc.draw [12,15] (sd [(0,.pure),(1,.pure),(2,.pure),(3,.pure),(4,.read),(5,.pure),(6,.pure),(7,.pure),(8,.pure),(9,.read),(10,.pure),(11,.pure),(12,.eff),(13,.pure),(14,.pure),(15,.eff)]) mixed (by kernel_rfl)<|mj Z<|mj Z<|nj Z<|fj Z<|lj Z Z<|mj Z<|mj Z<|nj Z<|fj Z<|lj Z Z<|uj Z (Pv.lenS Z)<|uj Z (Pv.asI (size-now.length) (Pv.sub rfl rfl (by omega)) (by omega)) ?_
       refine Rg.appendZ (E:=byteE) 0 (size-now.length) rfl rfl rfl rfl rfl own (by omega) (by rw [show maxLen=9223372036854775807 from rfl];omega) rfl (fun v72 s72 own72=>?_)
       have hyl:(now++List.replicate (size-now.length) (0:UInt8)).length=size:=by simp;omega
       obtain ⟨p72,c72,rfl⟩:=own72.shape
       refine nj Z<|fj Z ?_
       refine Rg.store Z Z Z Z Z Z Z Z<|nl<|sj [.p,.p,.p,.r,.p,.p,.p,.e] Z<|mj Z<|nj Z<|fj Z<|lj Z Z<|mj Z<|uj Z (Pv.sl (lv:=none) (hv:=none) k (now++List.replicate (size-now.length) (0:UInt8)).length rfl rfl rfl (by omega) (Arg.own (F:=frz F s72) own72 fun b o hb=>Or.inl hb).cap.2 (fun _=>(Arg.own (F:=frz F s72) own72 fun b o hb=>Or.inl hb).cap.2))<|mj Z ?_
       refine Rg.copyTo (E:=byteE) (zs:=bs) k rfl rfl rfl rfl rfl own72 hb.src (by omega) rfl (fun s82 own82=>?_)
       rw [hpa] at own82
       refine nl<|sj [.p] Z<|aj Z<|nl ?_
       exact vr rfl (tz Z) (⟨congrArg (Value.int .i64) (by rw [wrG,if_neg (by omega),Int.toNat_natCast,←hsz,if_neg h51]),_,s82,by rw [wrG,if_neg (by omega),Int.toNat_natCast,←hsz,if_neg h51];exact own82,by rw [wrG,if_neg (by omega),Int.toNat_natCast,←hsz,if_neg h51]⟩) pulled
theorem Arg.from {α:Type} {E:Enc α} {F:Fm} {p:Option Addr} {m c:Nat} {xs:List α} (h:Arg E F (.slice p m c) xs) {i:Nat} (hi:i≤xs.length):Arg E F (.slice (if c=i then p else p.map (·.add (i*E.k))) (m-i) (c-i)) (xs.drop i):=by
 obtain ⟨hm,hc⟩:=h.cap
 by_cases h0:xs.length=0
 · obtain rfl:xs=[]:=List.length_eq_zero_iff.1 h0
   obtain rfl:i=0:=by simpa using hi
   rw [hm]
   exact Arg.nil
 · obtain ⟨b,off,c',e,_⟩:=h.block (by omega)
   cases e
   have:=h.sub i xs.length hi (Nat.le_refl _)
   rw [List.take_of_length_le (by simp)] at this
   by_cases hci:c=i
   · rw [if_pos hci] at this ⊢; exact this
   · rw [if_neg hci] at this ⊢
     simpa [addr_add] using this
theorem equal_spec {F:Fm} {va vb:Value} {xs ys:List UInt8} (ha:Arg byteE F va xs) (hb:Arg byteE F vb ys) :
 Spec Tryz.prog 61 #[va,vb] F [] fun v _=>v=.bool (decide (xs=ys)):=by
 obtain ⟨p,c,rfl⟩:=ha.shape
 obtain ⟨q,d,rfl⟩:=hb.shape
 refine Spec.of (n:=10) (vs:=[.slice p xs.length c,.slice q ys.length d]) Tryz.func61 rfl Tryz.ntmps61 rfl ?_
 refine sj [.p] Z<|aj Z<|nl<|sj [.p,.r,.p,.r,.p,.p] Z<|mj Z<|rj Z (Ev.str (ha.src) Z)<|mj Z<|rj Z (Ev.str (hb.src) Z)<|uj Z (Pv.eqlS Z Z)<|aj Z<|nl<|vz Z (tz Z) ?_
 exact congrArg Value.bool (by rw [Bool.eq_iff_iff];simp)
def hdB (ks:List Bool):Bool:=ks.headD false
theorem next_spec {F:Fm} {kb:Nat} {kv:Value} {ks:List Bool} (K:Fm→Prop) (hKF:K F) (hka:∀F',K F'→Arg boolE F' kv ks) :
 Spec Tryz.prog 33 #[.pointer (some ⟨kb,0,none⟩)] F [(kb,cellsO [kv] 41)] fun v s=>v=.bool (hdB ks)∧∃kv',(∀F',K F'→Arg boolE F' kv' (ks.drop 1))∧s=[(kb,cellsO [kv'] 41)]:=by
 have hk:=hka F hKF
 obtain ⟨p,c,rfl⟩:=hk.shape
 refine Spec.of (n:=12) (vs:=[.pointer (some ⟨kb,0,none⟩)]) Tryz.func33 rfl Tryz.ntmps33 rfl ?_
 refine sj [.p] Z<|aj Z<|nl<|wj<|sj [.r,.p,.p] Z<|lj Z Z<|uj Z (Pv.lenS Z)<|uj Z (Pv.eql Z Z)<|nl<|cj Z (fun h5=>?_) (fun h5=>?_)
 · simp only [beq_iff_eq] at h5
   obtain rfl:ks=[]:=List.length_eq_zero_iff.1 (by omega)
   refine sj [.p] Z<|aj Z<|nl ?_
   exact vr rfl (tz Z) (⟨rfl,.slice p 0 c,fun F' h=>Arg.nil,rfl⟩) pulled
 · simp only [beq_eq_false_iff_ne,ne_eq] at h5
   obtain ⟨b,off,c',e,hcc⟩:=hk.block (by omega)
   cases e
   obtain ⟨x,l,rfl⟩:∃x l,ks=x::l:=by cases ks with | nil=>exact absurd rfl h5 | cons x l=>exact ⟨x,l,rfl⟩
   refine kj<|sj [.r,.p,.r,.p] Z<|lj Z Z<|uj Z (Pv.ixA 0 rfl rfl rfl (by simp))<|rj Z (Ev.as (.bool x) (Ev.ldS (E:=boolE) 0 hk.src rfl rfl (by simp) (by simp)) rfl)<|aj Z<|nl<|sj [.r,.p,.e] Z<|lj Z Z<|uj Z (Pv.slFrom 1 rfl rfl (by simp) hcc)<|Rg.store Z Z Z Z Z Z Z Z<|nl<|sj [.p,.p] Z<|mj Z<|aj Z ?_
   refine nl ?_
   exact Vc.ret (Vc.retsH rfl (tz Z) (⟨rfl,.slice (some ⟨b,if c=1 then off else off+1*1,none⟩) ((x::l).length-1) (c-1),fun F' h=>by
    have:=(hka F' h).sub 1 (x::l).length (by simp) (Nat.le_refl _)
    rw [List.take_of_length_le (by simp)] at this
    exact this,rfl⟩) pulled)
def secTo (now:List UInt8) (i:Nat):Nat:=min (16*i+16) now.length
def piece (l:List UInt8) (a b:Nat):List UInt8:=(l.drop a).take (b-a)
def sameSec (now synced:List UInt8) (i:Nat):Bool:=decide (secTo now i≤synced.length)&&decide (piece now (16*i) (secTo now i)=piece synced (16*i) (secTo now i))
def padTo (l:List UInt8) (n:Nat):List UInt8:=l++List.replicate (n-l.length) 0
def tornStep (now synced:List UInt8) (st:List UInt8×List Bool) (i:Nat):List UInt8×List Bool :=
 if sameSec now synced i=true then st
 else if hdB st.2=true then (putAt (padTo st.1 (secTo now i)) (16*i) (piece now (16*i) (secTo now i)),st.2.drop 1) else (st.1,st.2.drop 1)
def tornG (now synced:List UInt8) (ks:List Bool) (n:Nat):List UInt8×List Bool:=(List.range n).foldl (tornStep now synced) (synced,ks)
theorem tornG_succ (now synced:List UInt8) (ks:List Bool) (n:Nat):tornG now synced ks (n+1)=tornStep now synced (tornG now synced ks n) n:=by simp [tornG,List.range_succ]
theorem tornStep_len {now synced:List UInt8} {st:List UInt8×List Bool} {i m:Nat} (h:st.1.length≤m) (hm:now.length≤m) (hi:16*i≤now.length):(tornStep now synced st i).1.length≤m:=by
 unfold tornStep
 split
 · exact h
 · split
   · have ht:secTo now i≤now.length:=Nat.min_le_right _ _
     have hp:16*i≤(padTo st.1 (secTo now i)).length:=by simp [padTo,secTo];omega
     rw [putAt_length hp]
     simp [padTo,piece,secTo]
     omega
   · exact h
theorem tornG_len {now synced:List UInt8} {ks:List Bool} {m:Nat} (hs:synced.length≤m) (hm:now.length≤m):∀n,(n=0∨16*(n-1)≤now.length)→(tornG now synced ks n).1.length≤m
 | 0,_=>hs
 | n+1,h=>by
  have h':16*n≤now.length:=by simpa using h
  rw [tornG_succ]
  exact tornStep_len (tornG_len hs hm n (by omega)) hm h'
set_option maxHeartbeats 2000000 in
theorem torn_spec {F:Fm} {fb kb:Nat} {vn vs kv:Value} {now synced:List UInt8} {ks:List Bool} {s1 s2:Hl} (own1:Own byteE vn now s1) (own2:Own byteE vs synced s2) (K:Fm→Prop) (hKF:∀F':Fm,(∀b o,F.at_ b o→F'.at_ b o)→K F') (hk:∀F',K F'→Arg boolE F' kv ks)
 (hn:now.length<1073741824) (hs:synced.length<1073741824) :
 Spec Tryz.prog 36 #[.pointer (some ⟨fb,0,none⟩),.func (.func 33) #[] #[.pointer (some ⟨kb,0,none⟩)]] F ((fb,cellsO [vn,vs] 109)::(kb,cellsO [kv] 41)::(s1++s2))
  fun _ s=>∃vn' vs' kv' s1' s2',Own byteE vn' (tornG now synced ks (secs now.length)).1 s1'∧Own byteE vs' (tornG now synced ks (secs now.length)).1 s2'∧(∀F':Fm,K F'→Arg boolE F' kv' (tornG now synced ks (secs now.length)).2) ∧
   s=(fb,cellsO [vn',vs'] 109)::(kb,cellsO [kv'] 41)::(s1'++s2'):=by
 obtain ⟨pn,cn,rfl⟩:=own1.shape
 obtain ⟨ps,cs,rfl⟩:=own2.shape
 have hcn:now.length≤cn:=(Arg.own (F:=frz F s1) own1 fun b o hb=>Or.inl hb).cap.2
 have hcs:synced.length≤cs:=(Arg.own (F:=frz F s2) own2 fun b o hb=>Or.inl hb).cap.2
 refine Spec.of (n:=88) (vs:=[.pointer (some ⟨fb,0,none⟩),.func (.func 33) #[] #[.pointer (some ⟨kb,0,none⟩)]]) Tryz.func36 rfl Tryz.ntmps36 rfl ?_
 refine sj [.p,.p,.p,.r,.e,.p] Z<|mj Z<|nj Z<|fj Z<|lj Z Z ?_
 refine Rg.callA Z Z Z (mz Z) (clone_spec (Arg.own own2 frz_sb) (by omega)) ?_
 rintro _ s11 own11
 refine aj Z<|nl<|wj<|sj [.p] Z<|aj Z<|nl<|bj ?_
 refine Vc.loop5 (fun (i:Nat) (kv v:Value) (sg:Hl) (st:List UInt8×List Bool)=>st=tornG now synced ks i∧(i=0∨16*(i-1)<now.length)∧(∀F':Fm,K F'→Arg boolE F' kv st.2)∧Own byteE v st.1 sg∧st.1.length<1073741824) (fun i kv v sg st=>[(0,.pointer (some ⟨fb,0,none⟩)),(1,.func (.func 33) #[] #[.pointer (some ⟨kb,0,none⟩)]),(4,v),(5,.int .i64 ((16*i:Nat):Int))]) (fun i kv v sg st=>(fb,cellsO [.slice pn now.length cn,.slice ps synced.length cs] 109)::(kb,cellsO [kv] 41)::(sg++(s1++s2))) (fun i kv v sg st=>now.length+16-16*i) 0 kv _ s11 (synced,ks) ⟨Z,.inl Z,hk,own11,hs⟩ (.cons Z (.cons Z (.cons Z (.cons Z .nil)))) pulled ?_
 rintro i kv v sg st ⟨hst,hi0,hkv,own,hsl⟩
 obtain ⟨pv,cv,rfl⟩:=own.shape
 refine wj<|sj [.p,.p,.p,.p,.r,.p,.p] Z<|mj Z<|mj Z<|nj Z<|fj Z<|lj Z Z<|uj Z (Pv.lenS Z)<|uj Z (Pv.lss Z Z)<|nl<|cj Z (fun h18=>?_) (fun h18=>?_)
 · simp only [dt] at h18
   have hi:16*i<now.length:=by omega
   have hto:secTo now i≤now.length∧16*i≤secTo now i:=by unfold secTo;omega
   have hsucc:=tornG_succ now synced ks i
   have hlen:=tornG_len (now:=now) (synced:=synced) (ks:=ks) (m:=1073741823) (by omega) (by omega) (i+1) (.inr (by simp;omega))
   rw [hsucc,←hst] at hlen
   rw [←hst] at hsucc
   have hkb:=hkv
   refine kj<|wj<|bj<|sj [.p,.p,.p,.p,.p,.r,.p,.p,.p] Z<|mj Z<|uj Z (Pv.asI (16*i+16) (Pv.add rfl rfl (by omega)) (by omega))<|mj Z<|nj Z<|fj Z<|lj Z Z<|uj Z (Pv.lenS Z)<|uj Z (Pv.asI (secTo now i) (Pv.min rfl rfl) (by unfold secTo;omega))<|aj Z<|nl<|wj ?_
   refine wj<|Vc.cut3 (fun (bb:Bool) (kv':Value) (ks':List Bool)=>(bb=true→tornStep now synced st i=(st.1,ks'))∧(bb=false→tornStep now synced st i=(putAt (padTo st.1 (secTo now i)) (16*i) (piece now (16*i) (secTo now i)),ks'))∧(∀F':Fm,K F'→Arg boolE F' kv' ks')) (fun bb kv' ks'=>[(57,.bool bb),(0,.pointer (some ⟨fb,0,none⟩)),(1,.func (.func 33) #[] #[.pointer (some ⟨kb,0,none⟩)]),(4,.slice pv st.1.length cv),(5,.int .i64 ((16*i:Nat):Int)),(6,.int .i64 ((secTo now i:Nat):Int))]) (fun bb kv' ks'=>(fb,cellsO [.slice pn now.length cn,.slice ps synced.length cs] 109)::(kb,cellsO [kv'] 41)::(sg++(s1++s2))) ?_ ?_
   · refine Vc.draw [26] (sd [(0,.pure),(1,.pure),(2,.pure),(3,.pure),(4,.read),(5,.pure),(6,.pure),(7,.pure),(8,.pure),(9,.pure),(10,.pure),(11,.read),(12,.pure),(13,.pure),(14,.pure),(15,.pure),(16,.pure),(17,.pure),(18,.read),(19,.pure),(20,.pure),(21,.pure),(22,.eff),(23,.pure),(24,.pure),(25,.pure),(26,.eff),(27,.pure),(28,.pure)]) mixed (by kernel_rfl)<|mj Z<|mj Z<|nj Z<|fj Z<|lj Z Z<|uj Z (Pv.lenS Z)<|uj Z (Pv.leq Z Z)<|mj Z ?_
     refine Rg.split (t:=36) Z (fun h36=>?_) (fun h36=>?_)
     · simp only [dt] at h36
       have hle:secTo now i≤synced.length:=by omega
       refine mj Z<|nj Z<|fj Z<|lj Z Z<|mj Z<|mj Z<|uj Z (Pv.sl (lv:=some (.int .i64 ((16*i:Nat):Int))) (hv:=some (.int .i64 ((secTo now i:Nat):Int))) (16*i) (secTo now i) rfl rfl rfl (by omega) (by omega) (by simp))<|mj Z<|nj Z<|fj Z<|lj Z Z<|mj Z<|mj Z<|uj Z (Pv.sl (lv:=some (.int .i64 ((16*i:Nat):Int))) (hv:=some (.int .i64 ((secTo now i:Nat):Int))) (16*i) (secTo now i) rfl rfl rfl (by omega) (by omega) (by simp)) ?_
       refine Rg.callP Z Z Z (mz Z) (equal_spec (((Arg.own own1 frz_sb).from (i:=16*i) (by omega)).take (k:=secTo now i-16*i) (by simp;omega)) (((Arg.own own2 frz_sb).from (i:=16*i) (by omega)).take (k:=secTo now i-16*i) (by simp;omega))) ?_
       rintro _ rfl
       refine qj Z Z<|mj Z<|Rg.split (t:=53) Z (fun h53=>?_) (fun h53=>?_)
       · iterate 3 (first | refine Rg.skipP rfl rfl rfl ?_ | refine Rg.skipR rfl rfl rfl ?_ | refine Rg.skipE rfl rfl rfl ?_)
         refine qj Z Z<|nl ?_
         exact Vc.inv3 true kv st.2 ⟨fun _=>by rw [tornStep,if_pos (by rw [sameSec,decide_eq_true hle,Bool.true_and];exact h53)],fun h=>(by cases h),hkv⟩ (.cons rfl (.cons rfl (.cons rfl (.cons rfl (.cons rfl (.cons rfl .nil)))))) pulled
       · refine mj Z<|Rg.callH Z Z Z (run_callV Z Z) (fun F' hF'=>next_spec (F:=F') K (hKF F' fun b o h=>hF' b o (.inr h)) hkv) Z ?_
         rintro _ _ ⟨rfl,kv2,hkv2,rfl⟩
         refine uj Z (Pv.not Z)<|pj Z Z<|nl ?_
         exact Vc.inv3 (!hdB st.2) kv2 (st.2.drop 1) ⟨fun h=>by rw [tornStep,if_neg (by rw [sameSec,decide_eq_true hle,Bool.true_and];intro hh;rw [show decide (piece now (16*i) (secTo now i)=piece synced (16*i) (secTo now i))=false from h53] at hh;cases hh),if_neg (by simpa using h)],fun h=>by rw [tornStep,if_neg (by rw [sameSec,decide_eq_true hle,Bool.true_and];intro hh;rw [show decide (piece now (16*i) (secTo now i)=piece synced (16*i) (secTo now i))=false from h53] at hh;cases hh),if_pos (by simpa using h)],hkv2⟩ (.cons rfl (.cons rfl (.cons rfl (.cons rfl (.cons rfl (.cons rfl .nil)))))) pulled
     · simp only [df] at h36
       iterate 15 (first | refine Rg.skipP rfl rfl rfl ?_ | refine Rg.skipR rfl rfl rfl ?_ | refine Rg.skipE rfl rfl rfl ?_)
       refine pj Z Z<|mj Z<|mj Z<|Rg.callH Z Z Z (run_callV Z Z) (fun F' hF'=>next_spec (F:=F') K (hKF F' fun b o h=>hF' b o (.inr h)) hkv) Z ?_
       rintro _ _ ⟨rfl,kv2,hkv2,rfl⟩
       refine uj Z (Pv.not Z)<|pj Z Z<|nl ?_
       exact Vc.inv3 (!hdB st.2) kv2 (st.2.drop 1) ⟨fun h=>by rw [tornStep,if_neg (by rw [sameSec,decide_eq_false (by omega)];simp),if_neg (by simpa using h)],fun h=>by rw [tornStep,if_neg (by rw [sameSec,decide_eq_false (by omega)];simp),if_pos (by simpa using h)],hkv2⟩ (.cons rfl (.cons rfl (.cons rfl (.cons rfl (.cons rfl (.cons rfl .nil)))))) pulled
   · rintro bb kv2 ks2 ⟨hb1,hb2,hkv2⟩
     refine cj Z (fun h57=>?_) (fun h57=>?_)
     · rw [hb1 h57] at hsucc
       refine Vc.exit Z<|tj [.p,.p,.p] Z<|mj Z<|uj Z (Pv.asI (16*(i+1)) (Pv.add rfl rfl (by omega)) (by omega))<|aj Z<|nl ?_
       exact Vc.inv5 (i+1) kv2 _ sg (st.1,ks2) ⟨⟨hsucc.symm,.inr (by simpa using hi),hkv2,own,hsl⟩,by omega⟩ (.cons rfl (.cons rfl (.cons rfl (.cons rfl .nil)))) pulled
     · have hst2:=hb2 h57
       rw [hst2] at hsucc hlen
       have hzl:(piece now (16*i) (secTo now i)).length=secTo now i-16*i:=by simp [piece];omega
       refine kj<|wj<|sj [.p,.p,.p,.p] Z<|mj Z<|mj Z<|uj Z (Pv.lenS Z)<|uj Z (Pv.gtr Z Z)<|nl<|Vc.cut2 (fun (v:Value) (sg:Hl)=>Own byteE v (padTo st.1 (secTo now i)) sg) (fun v sg=>[(0,.pointer (some ⟨fb,0,none⟩)),(1,.func (.func 33) #[] #[.pointer (some ⟨kb,0,none⟩)]),(4,v),(5,.int .i64 ((16*i:Nat):Int)),(6,.int .i64 ((secTo now i:Nat):Int))]) (fun v sg=>(fb,cellsO [.slice pn now.length cn,.slice ps synced.length cs] 109)::(kb,cellsO [kv2] 41)::(sg++(s1++s2))) ?_ ?_
       · refine cj Z (fun h61=>?_) (fun h61=>?_)
         · simp only [dt] at h61
           refine tj [.p,.p,.p,.p,.p,.e,.p] Z<|mj Z<|mj Z<|mj Z<|uj Z (Pv.lenS Z)<|uj Z (Pv.asI (secTo now i-st.1.length) (Pv.sub rfl rfl (by omega)) (by omega))<|Rg.appendZ (E:=byteE) 0 (secTo now i-st.1.length) rfl rfl rfl rfl rfl own (by omega) (by rw [show maxLen=9223372036854775807 from rfl];omega) rfl (fun v67 s67 own67=>?_)
           refine aj Z<|nl ?_
           exact Vc.inv2 v67 s67 own67 (.cons rfl (.cons rfl (.cons rfl (.cons rfl (.cons rfl .nil))))) pulled
         · simp only [df] at h61
           refine kj ?_
           exact Vc.inv2 _ sg (by rw [padTo,show secTo now i-st.1.length=0 by omega,List.replicate_zero,List.append_nil];exact own) (.cons rfl (.cons rfl (.cons rfl (.cons rfl (.cons rfl .nil))))) pulled
       · rintro v sg ownp
         obtain ⟨pp,cp,rfl⟩:=ownp.shape
         have hpl:secTo now i≤(padTo st.1 (secTo now i)).length:=by simp [padTo];omega
         have hcp:(padTo st.1 (secTo now i)).length≤cp:=(Arg.own (F:=frz F sg) ownp fun b o hb=>Or.inl hb).cap.2
         have hput:(padTo st.1 (secTo now i)).take (16*i)++(piece now (16*i) (secTo now i)).take (min (piece now (16*i) (secTo now i)).length ((padTo st.1 (secTo now i)).length-16*i))++(padTo st.1 (secTo now i)).drop (16*i+min (piece now (16*i) (secTo now i)).length ((padTo st.1 (secTo now i)).length-16*i))=putAt (padTo st.1 (secTo now i)) (16*i) (piece now (16*i) (secTo now i)):=by
          rw [Nat.min_eq_left (by omega),List.take_length,putAt]
         refine Vc.draw [10] (sd [(0,.pure),(1,.pure),(2,.pure),(3,.pure),(4,.pure),(5,.pure),(6,.read),(7,.pure),(8,.pure),(9,.pure),(10,.eff)]) mixed (by kernel_rfl)<|mj Z<|mj Z<|uj Z (Pv.sl (lv:=none) (hv:=none) (16*i) (padTo st.1 (secTo now i)).length rfl rfl rfl (by omega) hcp (fun _=>hcp))<|mj Z<|nj Z<|fj Z<|lj Z Z<|mj Z<|mj Z<|uj Z (Pv.sl (lv:=some (.int .i64 ((16*i:Nat):Int))) (hv:=some (.int .i64 ((secTo now i:Nat):Int))) (16*i) (secTo now i) rfl rfl rfl (by omega) (by omega) (by simp)) ?_
         refine Rg.copyTo (E:=byteE) (zs:=piece now (16*i) (secTo now i)) (16*i) rfl rfl rfl rfl rfl ownp (((Arg.own (F:=frz F s1) own1 fun b o hb=>Or.inl hb).from (i:=16*i) (by omega)).take (k:=secTo now i-16*i) (by simp;omega)).srcF (by omega) rfl (fun s78 own78=>?_)
         rw [hput] at own78
         have hplen:(padTo st.1 (secTo now i)).length=(putAt (padTo st.1 (secTo now i)) (16*i) (piece now (16*i) (secTo now i))).length:=by rw [putAt_length (by omega)];omega
         refine nl<|dj<|tj [.p,.p,.p] Z<|mj Z<|uj Z (Pv.asI (16*(i+1)) (Pv.add rfl rfl (by omega)) (by omega))<|aj Z<|nl ?_
         exact Vc.inv5 (i+1) kv2 _ s78 (putAt (padTo st.1 (secTo now i)) (16*i) (piece now (16*i) (secTo now i)),ks2) ⟨⟨hsucc.symm,.inr (by simpa using hi),hkv2,own78,by omega⟩,by omega⟩ (.cons rfl (.cons rfl (.cons rfl (.cons rfl .nil)))) pulled
 · simp only [df] at h18
   have hsec:i=secs now.length:=by unfold secs;omega
   rw [hsec] at hst
   refine Vc.exit Z<|tj [.p,.p,.p,.p,.e,.p,.p,.e,.p,.p,.e] Z<|mj Z<|mj Z<|mj Z<|mj Z<|Rg.callA Z Z Z (mz Z) (clone_spec (Arg.own own frz_sb) (by omega)) ?_
   rintro v83 s83 own83
   refine nj Z<|fj Z ?_
   refine Rg.store Z Z Z Z Z Z Z Z<|nj Z<|fj Z ?_
   refine Rg.store Z Z Z Z Z own83.one Z Z<|nl ?_
   exact Vc.fin (Vc.retsH rfl .nil (⟨_,v83,kv,sg,s83,by rw [←hst];exact own,by rw [←hst];exact own83,by rw [←hst];exact hkv,rfl⟩) pulled)
abbrev kS:List UInt8→Value:=encStr
instance : KeyTy Tryz.prog 9 kS:=KeyTy.of ⟨.string,Tryz.underlying9,fun _=>trivial⟩ (fun a b h=>by simpa [kS,encStr] using h)
def strE:Enc (List UInt8) where
 k:=1
 tid:=9
 cells:=fun s=>[kS s]
 val:=kS
 pos:=by decide
 len:=fun _=>rfl
 one:=fun x v hv=>by simp at hv;subst hv;rfl
 vc:=fun _=>rfl
instance : RowTy Tryz.prog strE 9:=⟨Tryz.sizeOf9,.inr ⟨Tryz.isAgg9,rfl,fun _=>rfl⟩⟩
instance : TySl Tryz.prog 100 strE 16:=⟨Tryz.underlying100,Tryz.t9,.string ⟨#[]⟩,by kernel_rfl,by kernel_rfl,rfl,rfl,rfl⟩
theorem keysF_spec {F:Fm} {mb:Nat}:Spec Tryz.prog 35 #[.map (some mb)] F [] fun v s=>∃bx,v=.func (.func 59) #[] #[.pointer (some ⟨bx,0,none⟩)]∧s=[(bx,cellsO [.map (some mb)] 93)]:=by
 refine Spec.of (n:=4) (vs:=[.map (some mb)]) Tryz.func35 rfl Tryz.ntmps35 rfl ?_
 refine sj [.e,.p] Z<|Rg.box Z Z Z Z Z (fun b1=>?_)
 refine aj Z<|nl<|sj [.p,.p] Z<|uj Z (Pv.mkF Z Z)<|aj Z<|nl ?_
 exact vr rfl (tz Z) (⟨b1,rfl,rfl⟩) pulled
section
variable {κ : Type}
theorem me_inj {ms:List (Me κ)} (hb:(ms.map (·.born)).Nodup) {x y:Me κ} (hx:x∈ms) (hy:y∈ms) (h:x.born=y.born):x=y:=by
 induction ms with
 | nil=>cases hx
 | cons a ms ih =>
  rw [List.map_cons,List.nodup_cons] at hb
  rcases List.mem_cons.1 hx with rfl | hx'
  · rcases List.mem_cons.1 hy with rfl | hy'
    · rfl
    · exact absurd (List.mem_map.2 ⟨y,hy',h.symm⟩) hb.1
  · rcases List.mem_cons.1 hy with rfl | hy'
    · exact absurd (List.mem_map.2 ⟨x,hx',h⟩) hb.1
    · exact ih hb.2 hx' hy'
theorem me_seen {ms dn:List (Me κ)} {seen:Array Nat} {e:Me κ} (hb:(ms.map (·.born)).Nodup) (he:e∈ms) (h:∀x∈ms,seen.contains x.born=true↔x∈dn) :
 ∀x∈ms,(seen.push e.born).contains x.born=true↔x∈dn++[e]:=fun x hx=>by
 rw [Array.contains_push,Bool.or_eq_true,h x hx,List.mem_append,List.mem_singleton]
 constructor
 · rintro (h | h)
   · exact .inl h
   · exact .inr (me_inj hb hx he (by simpa using h))
 · rintro (h | h)
   · exact .inl h
   · exact .inr (by rw [h];simp)
theorem me_nodup {ms:List (Me κ)} (hb:(ms.map (·.born)).Nodup):ms.Nodup:=by
 induction ms with
 | nil=>exact .nil
 | cons a ms ih =>
  rw [List.map_cons,List.nodup_cons] at hb
  exact List.nodup_cons.2 ⟨fun h=>hb.1 (List.mem_map.2 ⟨a,h,rfl⟩),ih hb.2⟩
end
theorem keys_iter {F:Fm} {mb mc bx:Nat} {ms:List (Me (List UInt8))} (hmap:F.at_ mb (mapO kS ms mc)) (hold:∀m∈ms,m.born<mc) (hbn:(ms.map (·.born)).Nodup) :
 Iter Tryz.prog 59 [.pointer (some ⟨bx,0,none⟩)] F (fun k=>[kS k]) (fun pre=>pre.length≤ms.length) (fun ys=>ys.Perm (ms.map (·.k))) [(bx,cellsO [.map (some mb)] 93)]:=by
 intro lr J F1 hF1 hY hc0 hJ0
 have f3:Fat F1 mb (mapO kS ms mc):=⟨hF1 _ _ hmap⟩
 have hnd:=me_nodup hbn
 refine Spec.of (n:=14) (vs:=[.func (.yield lr) #[] #[],.pointer (some ⟨bx,0,none⟩)]) Tryz.func59 rfl Tryz.ntmps59 rfl ?_
 refine sj [.r,.e] Z<|lj Z Z<|Rg.range Z Z Z Z (fun b5=>?_)
 refine nl<|bj ?_
 refine Vc.loop4 (fun (dn rs:List (Me (List UInt8))) (seen:Array Nat) (hc:Hl)=>ms.Perm (dn++rs)∧(∀e∈ms,seen.contains e.born=true↔e∈dn)∧J (dn.map (·.k)) hc) (fun dn rs seen hc=>[(0,.func (.yield lr) #[] #[]),(5,.pointer (some ⟨b5,0,none⟩))]) (fun dn rs seen hc=>(b5,.mapIter (some mb) mc seen mc)::hc) (fun dn rs seen hc=>rs.length) [] ms #[] hc0 ⟨.refl _,fun e he=>by simp,hJ0⟩ (.cons rfl (.cons rfl .nil)) pulled ?_
 rintro dn rs seen hc ⟨hp,hseen,hJ⟩
 refine sj [.e,.p] Z<|Rg.next Z Z Z Z (hold) (Nat.le_refl _) Z (fun all6=>?_) (fun m6 mem6 new6=>?_)
 · have hrs:rs=[]:=List.eq_nil_iff_forall_not_mem.2 fun e he=>by
    have hees:e∈ms:=hp.mem_iff.2 (List.mem_append_right _ he)
    have hd:=(hseen e hees).1 (all6 e hees)
    exact (List.nodup_append.1 (hp.nodup_iff.1 hnd)).2.2 e hd e he rfl
   subst hrs
   rw [List.append_nil] at hp
   refine xj Z Z<|nl<|wj<|Vc.condF Z<|Vc.exit Z ?_
   exact Vc.fin (Vc.retsH rfl .nil (⟨dn.map (·.k),(hp.map _).symm,hJ⟩) pulled)
 · have hers:m6∈rs:=by
    rcases List.mem_append.1 (hp.mem_iff.1 mem6) with h | h
    · rw [(hseen m6 mem6).2 h] at new6;cases new6
    · exact h
   obtain ⟨A,B,rfl⟩:=List.append_of_mem hers
   have hpl:=hp.length_eq
   simp only [ly,List.length_cons] at hpl
   refine xj Z Z<|nl<|wj<|Vc.condT Z<|kj<|bj<|sj [.r,.p,.p] Z<|rj Z (Ev.entry (m6) Z (mem6) (hbn))<|xj Z Z<|aj Z<|nl<|sj [.p,.p,.e,.p] Z<|mj Z<|mj Z<|Rg.yieldH Z Z Z Z Z (fun F' hF'=>hY (dn.map (·.k)) m6.k (by simp;omega) hc hJ F' (fun b o h=>hF' b o (.inr h))) rfl ?_
   rintro _ hc' ⟨rfl,hJ'⟩
   refine uj Z (Pv.not Z)<|nl<|cj Z (fun h13=>absurd h13 (by simp)) (fun h13=>?_)
   refine kj<|dj ?_
   exact Vc.inv4 (dn++[m6]) (A++B) (seen.push m6.born) hc' ⟨⟨hp.trans (by rw [lx];exact (List.perm_middle (l₁:=A) (l₂:=B)).append_left dn),me_seen hbn mem6 hseen,by rw [List.map_append];exact hJ'⟩,by simp⟩ (.cons rfl (.cons rfl .nil)) pulled
theorem appendSeqS_spec {F:Fm} {gf:Nat} [TyCall Tryz.prog gf] {lb:List Value} {Sp S:List (List UInt8)→Prop} {hi:Hl} (hit:∀F',(∀b o,F.at_ b o→F'.at_ b o)→Iter Tryz.prog gf lb F' (fun x=>[strE.val x]) Sp S hi) (hS:∀pre x,Sp (pre++[x])→pre.length<1073741824) :
 Spec Tryz.prog 76 #[.slice none 0 0,.func (.func gf) #[] lb.toArray] F hi fun v s=>∃ys,S ys∧Own strE v ys s:=by
 refine Spec.of (n:=13) (vs:=[.slice none 0 0,.func (.func gf) #[] lb.toArray]) Tryz.func76 rfl Tryz.ntmps76 rfl ?_
 refine sj [.e,.p] Z<|Rg.box Z Z Z Z Z (fun b2=>?_)
 refine aj Z<|nl<|wj<|sj [.p] Z<|mj Z<|nl<|bj ?_
 refine Vc.rangeFunc (enc:=fun x=>[strE.val x]) (Sp:=Sp) (S:=S) (hi:=hi) (rest:=[]) (fun pre hc=>∃v sg,Own strE v pre sg∧hc=(b2,cellsO [v] 100)::sg) [(b2,cellsO [.slice none 0 0] 100)] Z Z (fun _=>Z) Z pulled (fun F1 hF1=>hit F1 fun b o h=>hF1 b o (.inr h)) ⟨_,[],Own.nil,Z⟩ ?_ ?_
 · rintro lr rc pre x hc F1 hF1 hpre ⟨v,sg,own,rfl⟩
   have hpl:=hS pre x hpre
   refine tj [.p] Z<|aj Z<|nl<|Vc.begin<|bj<|tj [.r,.p,.e,.e,.e] Z<|lj Z Z<|mj Z<|Rg.bslice1 Z Z Z Z Z Z Z (fun b10=>?_)
   refine Rg.append Z Z Z Z Z own (Src.one (y:=x) rfl) (by simp<;>omega) (by simp [maxLen]<;>omega) rfl (fun v11 s11 own11=>?_)
   refine Rg.store Z Z Z Z Z own11.one Z Z<|nl<|dj ?_
   exact Vc.finR ((b2,cellsO [v11] 100)::s11) ⟨v11,s11,own11,rfl⟩ pulled
 · rintro D ys hc hD hSy ⟨v,sg,own,rfl⟩
   refine dj<|sj [.r,.p] Z<|lj Z Z<|aj Z<|nl ?_
   exact Vc.ret (Vc.retsM (hl':=sg) (Mk.one hD) rfl (tz Z) ⟨ys,hSy,own⟩ pulled)
theorem collectS_spec {F:Fm} {gf:Nat} [TyCall Tryz.prog gf] {lb:List Value} {Sp S:List (List UInt8)→Prop} {hi:Hl} (hit:∀F',(∀b o,F.at_ b o→F'.at_ b o)→Iter Tryz.prog gf lb F' (fun x=>[strE.val x]) Sp S hi) (hS:∀pre x,Sp (pre++[x])→pre.length<1073741824) :
 Spec Tryz.prog 57 #[.func (.func gf) #[] lb.toArray] F hi fun v s=>∃ys,S ys∧Own strE v ys s:=by
 refine Spec.of (n:=5) (vs:=[.func (.func gf) #[] lb.toArray]) Tryz.func57 rfl Tryz.ntmps57 rfl ?_
 refine sj [.p] Z<|aj Z<|nl<|sj [.p,.e,.p] Z<|mj Z<|Rg.callH Z Z Z (mz Z) (fun F' hF'=>appendSeqS_spec (F:=F') (Sp:=Sp) (S:=S) (fun F'' h=>hit F'' fun b o hb=>h b o (hF' b o (.inr hb))) hS) Z ?_
 rintro v4 s4 ⟨ys,hSy,own⟩
 refine aj Z<|nl ?_
 exact vr rfl (tz Z) (⟨ys,hSy,own⟩) pulled
structure Fl where
 now:List UInt8
 synced:List UInt8
 deriving Inhabited
inductive FilesAt:List (Me (List UInt8))→List (List UInt8×Fl)→Hl→Prop
 | nil:FilesAt [] [] []
 | cons {ms:List (Me (List UInt8))} {fs:List (List UInt8×Fl)} {hl s1 s2:Hl} {k:List UInt8} {f:Fl} {b born:Nat} {vn vs:Value} (h:FilesAt ms fs hl) (own1:Own byteE vn f.now s1) (own2:Own byteE vs f.synced s2) :
  FilesAt (⟨k,.pointer (some ⟨b,0,none⟩),born⟩::ms) ((k,f)::fs) ((b,cellsO [vn,vs] 109)::(s1++(s2++hl)))
theorem FilesAt.keys {ms:List (Me (List UInt8))} {fs:List (List UInt8×Fl)} {hl:Hl} (h:FilesAt ms fs hl):ms.map (·.k)=fs.map (·.1):=by
 induction h with
 | nil=>rfl
 | cons h own1 own2 ih=>simp [ih]
def setF (fs:List (List UInt8×Fl)) (k:List UInt8) (f:Fl):List (List UInt8×Fl):=fs.map fun p=>if p.1=k then (k,f) else p
def findF (fs:List (List UInt8×Fl)) (k:List UInt8):Option Fl:=(fs.find? fun p=>decide (p.1=k)).map (·.2)
theorem setF_none {fs:List (List UInt8×Fl)} {k:List UInt8} {f:Fl} (h:∀p∈fs,p.1≠k):setF fs k f=fs:=by
 unfold setF
 conv=>rhs;rw [←List.map_id fs]
 exact List.map_congr_left fun p hp=>by rw [if_neg (h p hp)];rfl
theorem perm_move {α:Type} (x y:α) (s1 s2 t1 t2 rest:List α):(x::(s1++(s2++(y::(t1++(t2++rest)))))).Perm (y::(t1++(t2++(x::(s1++(s2++rest)))))):=by
 have e1:(x::(s1++(s2++(y::(t1++(t2++rest))))))=(x::(s1++s2))++((y::(t1++t2))++rest):=by simp
 have e2:(y::(t1++(t2++(x::(s1++(s2++rest))))))=(y::(t1++t2))++((x::(s1++s2))++rest):=by simp
 rw [e1,e2,←lx,←lx]
 exact List.perm_append_comm.append_right rest
theorem FilesAt.get {ms:List (Me (List UInt8))} {fs:List (List UInt8×Fl)} {hl:Hl} (h:FilesAt ms fs hl) (hn:(ms.map (·.k)).Nodup) {m:Me (List UInt8)} (hm:m∈ms) :
 ∃b f vn vs s1 s2 rest,m.v=.pointer (some ⟨b,0,none⟩)∧findF fs m.k=some f∧hl.Perm ((b,cellsO [vn,vs] 109)::(s1++(s2++rest)))∧Own byteE vn f.now s1∧Own byteE vs f.synced s2 ∧
  ∀(f':Fl) vn' vs' s1' s2',Own byteE vn' f'.now s1'→Own byteE vs' f'.synced s2'→∃hl',hl'.Perm ((b,cellsO [vn',vs'] 109)::(s1'++(s2'++rest)))∧FilesAt ms (setF fs m.k f') hl':=by
 induction h with
 | nil=>cases hm
 | @cons ms fs hl s1 s2 k f b born vn vs h own1 own2 ih =>
  rw [List.map_cons,List.nodup_cons] at hn
  have hks:=h.keys
  rcases List.mem_cons.1 hm with rfl | hm'
  · refine ⟨b,f,vn,vs,s1,s2,hl,rfl,by simp [findF],.refl _,own1,own2,fun f' vn' vs' s1' s2' o1 o2=>⟨_,.refl _,?_⟩⟩
    have hno:∀p∈fs,p.1≠k:=fun p hp e=>hn.1 (by rw [hks];exact List.mem_map.2 ⟨p,hp,e⟩)
    have e:setF ((k,f)::fs) k f'=(k,f')::fs:=by
     have:=setF_none (f:=f') hno
     simp only [setF] at this ⊢
     rw [List.map_cons,this,if_pos rfl]
    show FilesAt _ (setF ((k,f)::fs) k f') _
    rw [e]
    exact .cons h o1 o2
  · obtain ⟨b2,f2,vn2,vs2,t1,t2,rest,e1,e2,hp,o1,o2,hset⟩:=ih hn.2 hm'
    have hne:k≠m.k:=fun e=>hn.1 (List.mem_map.2 ⟨m,hm',e.symm⟩)
    refine ⟨b2,f2,vn2,vs2,t1,t2,(b,cellsO [vn,vs] 109)::(s1++(s2++rest)),e1,?_,?_,o1,o2,fun f' vn' vs' s1' s2' p1 p2=>?_⟩
    · simp only [findF,List.find?_cons] at e2 ⊢
      rw [decide_eq_false hne]
      exact e2
    · refine ((hp.append_left s2).append_left s1).cons _ |>.trans ?_
      exact perm_move _ _ _ _ _ _ _
    · obtain ⟨hl',hp',h'⟩:=hset f' vn' vs' s1' s2' p1 p2
      refine ⟨(b,cellsO [vn,vs] 109)::(s1++(s2++hl')),((hp'.append_left s2).append_left s1).cons _ |>.trans (perm_move _ _ _ _ _ _ _),?_⟩
      have e:setF ((k,f)::fs) m.k f'=(k,f)::setF fs m.k f':=by simp only [setF,List.map_cons];rw [if_neg hne]
      rw [e]
      exact .cons h' own1 own2
structure Dk where
 files:List (List UInt8×Fl)
 room:Int
 used:Int
 ops:Int
 armed:Int
 keep:List Bool
 down:Bool
def DiskAt (db:Nat) (D:Dk) (hl:Hl):Prop:=∃mb mc ms hf kv sk,FilesAt ms D.files hf∧(ms.map (·.k)).Nodup∧(ms.map (·.born)).Nodup∧(∀m∈ms,m.born<mc)∧Own boolE kv D.keep sk ∧
 hl.Perm ((db,dkO mb D.room D.used D.ops D.armed kv D.down)::(mb,mapO kS ms mc)::(hf++sk))
theorem Spec.perm {P:Program} {f:Nat} {args:Array Value} {F:Fm} {h1 h2:Hl} {post:Value→Hl→Prop} (h:Spec P f args F h2 post) (hp:h1.Perm h2):Spec P f args F h1 post:=fun w hw=>h w (hw.perm hp)
theorem new_spec (F:Fm) (room:Int):Spec Tryz.prog 22 #[.int .i64 room] F [] fun v s=>∃db,v=.pointer (some ⟨db,0,none⟩)∧DiskAt db ⟨[],max room 0,0,0,0,[],false⟩ s:=by
 refine Spec.of (n:=8) (vs:=[.int .i64 room]) Tryz.func22 rfl Tryz.ntmps22 rfl ?_
 refine sj [.p] Z<|aj Z<|nl<|sj [.e,.p,.p,.p,.e,.p] Z<|Rg.makeMap kS Z Z Z (fun b3=>?_)
 refine mj Z<|uj Z (Pv.max Z Z)<|uj Z (Pv.build (c:=#[.map (some b3),.int .i64 (max room 0),.int .i64 0,.int .i64 0,.int .i64 0,.slice none 0 0,.int .u32 0]) Z Z)<|Rg.box Z Z Z Z Z (fun b7=>?_)
 refine aj Z<|nl ?_
 exact vr (hl':=[(b7,cellsO [.map (some b3),.int .i64 (max room 0),.int .i64 0,.int .i64 0,.int .i64 0,.slice none 0 0,.int .u32 0] 98),(b3,mapO kS [] 0)]) rfl (tz Z) ⟨b7,rfl,b3,0,[],[],.slice none 0 0,[],.nil,.nil,.nil,(fun m hm=>by cases hm),.nil,.refl _⟩ pulled
section
variable {F : Fm} {db : Nat} {D : Dk} {s : Hl}
end
def sortN (l:List (List UInt8)):List (List UInt8):=l.mergeSort fun x y=>decide (x≤y)
structure Cr where
 files:List (List UInt8×Fl)
 used:Int
 ks:List Bool
def crStep (st:Cr) (k:List UInt8):Cr :=
 let f:=(findF st.files k).getD ⟨[],[]⟩
 let t:=tornG f.now f.synced st.ks (secs f.now.length)
 ⟨setF st.files k ⟨t.1,t.1⟩,st.used+(secs t.1.length:Nat),t.2⟩
def crFold (files:List (List UInt8×Fl)) (ks:List Bool) (names:List (List UInt8)):Cr:=names.foldl crStep ⟨files,0,ks⟩
theorem crFold_snoc (files:List (List UInt8×Fl)) (ks:List Bool) (names:List (List UInt8)) (k:List UInt8):crFold files ks (names++[k])=crStep (crFold files ks names) k:=by simp [crFold]
def crashD (ks:List Bool) (D:Dk):Dk :=
 if D.down=true then D
 else
  let c:=crFold D.files ks (sortN (D.files.map (·.1)))
  { D with files:=c.files,used:=c.used,armed:=0,down:=true }
theorem setF_keys (fs:List (List UInt8×Fl)) (k:List UInt8) (f:Fl):(setF fs k f).map (·.1)=fs.map (·.1):=by
 simp only [setF,List.map_map]
 refine List.map_congr_left fun p hp=>?_
 simp only [Function.comp]
 split
 · rename_i h;exact h.symm
 · rfl
theorem crFold_keys (files:List (List UInt8×Fl)) (ks:List Bool) (names:List (List UInt8)):(crFold files ks names).files.map (·.1)=files.map (·.1):=by
 unfold crFold
 suffices h:∀(st:Cr),(names.foldl crStep st).files.map (·.1)=st.files.map (·.1) from h _
 induction names with
 | nil=>intro st;rfl
 | cons k l ih=>intro st;rw [List.foldl_cons,ih];exact setF_keys _ _ _
def beginsD (D:Dk):Int×Dk :=
 let D1:={ D with ops:=IntKind.i64.wrap (D.ops+1) }
 let D2:=if 0<D.armed then (if D.armed-1=0 then crashD D.keep { D1 with armed:=0 } else { D1 with armed:=D.armed-1 }) else D1
 (if D2.down=true then 7 else 0,D2)
def Disk0 (db:Nat) (D:Dk) (kv:Value) (hl:Hl):Prop:=∃mb mc ms hf,FilesAt ms D.files hf∧(ms.map (·.k)).Nodup∧(ms.map (·.born)).Nodup∧(∀m∈ms,m.born<mc) ∧
 hl.Perm ((db,dkO mb D.room D.used D.ops D.armed kv D.down)::(mb,mapO kS ms mc)::hf)
theorem DiskAt.parts {db:Nat} {D:Dk} {hl:Hl} (h:DiskAt db D hl):∃kv sk h0,Disk0 db D kv h0∧Own boolE kv D.keep sk∧hl.Perm (h0++sk):=by
 obtain ⟨mb,mc,ms,hf,kv,sk,h1,h2,h3,h4,own,hp⟩:=h
 exact ⟨kv,sk,_,⟨mb,mc,ms,hf,h1,h2,h3,h4,.refl _⟩,own,hp⟩
theorem DiskAt.mk {db:Nat} {D:Dk} {kv:Value} {h0 sk hl:Hl} (h:Disk0 db D kv h0) (own:Own boolE kv D.keep sk) (hp:hl.Perm (h0++sk)):DiskAt db D hl:=by
 obtain ⟨mb,mc,ms,hf,h1,h2,h3,h4,hp0⟩:=h
 exact ⟨mb,mc,ms,hf,kv,sk,h1,h2,h3,h4,own,hp.trans (hp0.append_right sk)⟩
open Go.Proofs Go.Shelf Go.Sort
theorem sort_str {P:Program} {ρ:Ren} (L:SlLaysM.n6 P ρ) (E:Enc (List UInt8)) (hk:E.k=1) (h1:∀x,E.cells x=[E.val x]) (hv:∀x,E.val x=encStr x) (F:Fm) (b cap:Nat) (xs:List (List UInt8)) (sp:List Value) (hsz:xs.length<4611686018427387904) :
 Spec P (ρ.f 6) #[.slice (some ⟨b,0,none⟩) xs.length cap] F [(b,rowS E xs sp)] fun _ hl'=>hl'=[(b,rowS E (xs.mergeSort fun x y=>decide (x≤y)) sp)]:=by
 intro w hw
 have hflat:∀l:List (List UInt8),flat E l=l.map encStr:=fun l=>by
  induction l with
  | nil=>rfl
  | cons x l ih=>rw [List.map_cons,←ih];show E.cells x++flat E l=_;rw [h1,hv];rfl
 have hblk:w.heap[b]? = some (rowS E xs sp):=hw.own b _ List.mem_cons_self
 have hlt:=hw.lt (b:=b) (o:=rowS E xs sp) List.mem_cons_self
 have hH:Holds encStr w b 0 xs.toArray:=fun j hj=>by
  have hj':j<xs.length:=by simpa using hj
  constructor
  · simp only [World.cell?,hblk,rowS,Option.isSome_none,Bool.false_eq_true,if_false,Nat.zero_add,List.getElem?_toArray,hflat]
    rw [List.getElem?_append_left (by simpa using hj'),List.getElem?_map,List.getElem?_eq_getElem hj']
    rw [getElem!_pos xs.toArray j hj]
    simp
  · simp [World.frozen?,hblk,rowS]
 refine (AnyM.slices_Sort_string L b 0 cap xs w hH hlt hsz).mono fun e w' ⟨he,n,os,hw'⟩=>⟨_,_,he,rfl,?_⟩
 obtain ⟨ds,hds⟩:∃ds,ds=xs.mergeSort fun x y=>decide (x≤y):=⟨_,rfl⟩
 have hdl:ds.length=xs.length:=by rw [hds,List.length_mergeSort]
 rw [←hds] at hw' ⊢
 have e0:(w.heap.modify b (onCells (putCells encStr 0 ds.toArray)))[b]? = some (rowS E ds sp):=by
  rw [Array.getElem?_modify,if_pos rfl,hblk]
  simp only [Option.map_some,rowS,onCells]
  congr 2
  apply Array.ext_getElem?
  intro k
  simp only [putCells,Array.getElem?_mapIdx,List.getElem?_toArray,hflat]
  by_cases hk':k<xs.length
  · rw [List.getElem?_append_left (by simpa using hk'),List.getElem?_append_left (by simpa [hdl] using hk')]
    simp only [List.getElem?_map,List.getElem?_eq_getElem hk',Option.map_some,Nat.sub_zero,Nat.zero_le,true_and,Nat.zero_add,List.size_toArray,hdl,hk',if_true]
    rw [List.getElem?_eq_getElem (by omega)]
    simp only [Option.map_some]
    rw [getElem!_pos ds.toArray k (by simpa [hdl] using hk')]
    simp
  · rw [List.getElem?_append_right (by simp;omega),List.getElem?_append_right (by simp [hdl];omega)]
    simp only [List.length_map,hdl,List.size_toArray,Nat.zero_add,Nat.zero_le,true_and,hk',if_false]
    cases sp[k-xs.length]? <;> rfl
 have hself:w'.heap=w.heap.modify b (onCells (putCells encStr 0 ds.toArray))++os:=by rw [hw'];rfl
 refine ⟨by rw [hw'];exact hw.os,by rw [hw'];exact hw.tape,by rw [hw'];exact hw.output,fun c o hc=>?_,fun c o hc=>?_,by simp,fun c o o' hc hf=>?_,by rw [hw'];exact Nat.le_trans hw.drawn (Nat.le_add_right _ _)⟩
 · simp only [List.mem_singleton,Prod.mk.injEq] at hc
   obtain ⟨rfl,rfl⟩:=hc
   rw [hself,Array.getElem?_append_left (by simpa using hlt)]
   exact e0
 · have hne:b≠c:=fun e=>hw.apart b _ o List.mem_cons_self (e▸hc)
   rw [hself,Array.getElem?_append_left (by simpa using hw.flt hc),Array.getElem?_modify,if_neg hne]
   exact hw.frame c o hc
 · simp only [List.mem_singleton,Prod.mk.injEq] at hc
   obtain ⟨rfl,rfl⟩:=hc
   exact hw.apart c _ o' List.mem_cons_self hf
end Go.Proofs.YtkpiakgmkpbikaaGreatDoor
