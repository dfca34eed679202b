/- Proved here: steps of the proof (SlM SlN SlR SlP). -/
import Derived.Test.YtkpiakgmkpbikaaGreatDoorSlG
import Derived.Maps.RangeRun
import Derived.MapKept
import Derived.WideKeyRuns
import Derived.Laws.MakeOwn
import Derived.Laws.Strings
import Derived.ReadAgain
import Derived.Deep.Slices
import Derived.RowKit
import Derived.OpenShut
import Derived.Below
import Derived.ChangeSame
import Derived.Deep.Modes
set_option linter.unusedVariables false
namespace Go.Proofs.YtkpiakgmkpbikaaGreatDoor
set_option linter.unusedSectionVars false
open Go.MapKept (IsKey findNow_spec run_findKey run_checkKey run_setObj_map)
structure Me (κ:Type) where
 k:κ
 v:Value
 born:Nat
abbrev ent {κ:Type} (kv:κ→Value) (m:Me κ):MapEntry:=⟨kv m.k,m.v,m.born⟩
def mapO {κ:Type} (kv:κ→Value) (ms:List (Me κ)) (clock:Nat):Obj:=.map (ms.map (ent kv)).toArray clock
class KeyTy (P:Program) (kt:TypeId) {κ:Type} (kv:κ→Value):Prop where
 fnd:∀(l:List MapEntry) (k:κ),(∀x∈l,∃a,x.key=kv a) →
  ((∀x∈l,x.key≠kv k)∧∀w,(Instr.findKey kt (kv k) l).run P w=.ok none w)∨∃j e,l[j]? = some e∧e.key=kv k∧∀w,(Instr.findKey kt (kv k) l).run P w=.ok (some (j,e.val)) w
 chk:∀(e:Bool) (k:κ) (w:World),(Instr.checkKey e 10000 kt (kv k)).run P w=.ok () w
 inj:∀a b,kv a=kv b→a=b
theorem KeyTy.of {P:Program} {kt:TypeId} {κ:Type} {kv:κ→Value} (h:∃d,P.underlying kt=some d∧∀a,IsKey d (kv a)) (inj:∀a b,kv a=kv b→a=b):KeyTy P kt kv:=by
 obtain ⟨d,hd,hk⟩:=h
 refine ⟨fun l k hl => ?_,fun e k w=>run_checkKey hd (hk k) e 9999,inj⟩
 rcases findNow_spec (hk k) l 0 (fun x hx=>by obtain ⟨a,ha⟩:=hl x hx; rw [ha]; exact hk a) with ⟨h1,h2⟩ | ⟨j,e,h1,h2,h3⟩
 · exact .inl ⟨h2,fun w=>run_findKey hd h1⟩
 · exact .inr ⟨j,e,h2,h3,fun w=>by rw [Nat.zero_add] at h1; exact run_findKey hd h1⟩
section
variable {P : Program} {κ : Type} [DecidableEq κ] {kv : κ → Value} {kt : TypeId}
def findM (ms:List (Me κ)) (k:κ):Option (Me κ):=ms.find? fun m=>decide (m.k=k)
def cutM (ms:List (Me κ)) (k:κ):List (Me κ):=ms.filter fun m=>!decide (m.k=k)
theorem findM_none {ms:List (Me κ)} {k:κ}:findM ms k=none↔∀m∈ms,m.k≠k:=by
 simp [findM,List.find?_eq_none]
theorem findM_some {ms:List (Me κ)} {k:κ} (hn:(ms.map (·.k)).Nodup) {m:Me κ} (hm:m∈ms) (hk:m.k=k):findM ms k=some m:=by
 induction ms with
 | nil=>cases hm
 | cons x ms ih =>
  rw [List.map_cons,List.nodup_cons] at hn
  rcases List.mem_cons.1 hm with rfl | hm'
  · simp [findM,hk]
  · have hne:x.k≠k:=fun e=>hn.1 (List.mem_map.2 ⟨m,hm',by rw [hk,e]⟩)
    have:=ih hn.2 hm'
    simp only [findM,List.find?_cons,hne,decide_false] at this ⊢
    exact this
theorem run_find [h:KeyTy P kt kv] (ms:List (Me κ)) (k:κ) (w:World) (hn:(ms.map (·.k)).Nodup) :
 (findM ms k=none∧(∀m∈ms,m.k≠k)∧(Instr.findKey kt (kv k) (ms.map (ent kv))).run P w=.ok none w) ∨
 ∃j m,findM ms k=some m∧ms[j]? = some m∧m.k=k∧(Instr.findKey kt (kv k) (ms.map (ent kv))).run P w=.ok (some (j,m.v)) w:=by
 rcases h.fnd (ms.map (ent kv)) k (fun x hx=>by obtain ⟨m,_,rfl⟩:=List.mem_map.1 hx; exact ⟨_,rfl⟩) with ⟨h2,h1⟩ | ⟨j,e,h2,h3,h1⟩
 · have h4:∀m∈ms,m.k≠k:=fun m hm e=>h2 (ent kv m) (List.mem_map.2 ⟨m,hm,rfl⟩) (by rw [←e])
   exact .inl ⟨findM_none.2 h4,h4,h1 w⟩
 · rw [List.getElem?_map] at h2
   cases hm:ms[j]? with
   | none=>rw [hm] at h2; cases h2
   | some m =>
    rw [hm] at h2
    simp only [Option.map_some,Option.some.injEq] at h2
    subst h2
    have hk':=h.inj _ _ h3
    exact .inr ⟨j,m,findM_some hn (List.mem_of_getElem? hm) hk',hm,hk',h1 w⟩
theorem run_check [h:KeyTy P kt kv] (e:Bool) (k:κ) (w:World):(Instr.checkKey e 10000 kt (kv k)).run P w=.ok () w:=by
 exact h.chk e k w
variable {n : Nf} {F : Fm} {l : Env} {hl : Hl} {ty : TypeId} {pos : String} {af : Array Edge} {g : Option (Nat × Bool)} {d : Option Tmp}
theorem Ev.lookup {t e b clock:Nat} {x y:Operand} {ms:List (Me κ)} {k:κ} {z:Value} [ht:TyUnder P t (.map kt e)] [h:KeyTy P kt kv] [hz:TyZero P e z] (hx:ev l x=some (.map (some b))) (hy:ev l y=some (kv k)) [hb:Has F hl b (mapO kv ms clock)]
 (hn:(ms.map (·.k)).Nodup):Ev P n F l hl ⟨d,.lookup t x y false,ty,pos,af,g⟩ (((findM ms k).map (·.v)).getD z):=fun a w hf hs=>by
 have h1:=hb.st hs
 have h2:(getObj b).run P w=.ok (mapO kv ms clock) w:=Go.MapKept.run_getObj_map h1
 rcases run_find (P:=P) (kt:=kt) (kv:=kv) ms k w hn with ⟨h3,_,h4⟩ | ⟨j,m,h3,_,_,h4⟩
 · simp [execOp,hf.ev hx,hf.ev hy,Instr.lookup,run_underlying ht.under,h2,mapO,run_check,h4,hz.zero,h3]
 · simp [execOp,hf.ev hx,hf.ev hy,Instr.lookup,run_underlying ht.under,h2,mapO,run_check,h4,h3]
theorem Ev.lenM {t e b clock:Nat} {x:Operand} {ms:List (Me κ)} [ht:TyUnder P t (.map kt e)] (hx:ev l x=some (.map (some b))) [hb:Has F hl b (mapO kv ms clock)] :
 Ev P n F l hl ⟨d,.call { callee:=.builtin .len,args:=#[x],argTypes:=#[t] },ty,pos,af,g⟩ (.int .i64 (ms.length:Int)):=fun a w hf hs=>by
 have h1:=hb.st hs
 have h2:(getObj b).run P w=.ok (mapO kv ms clock) w:=Go.MapKept.run_getObj_map h1
 simp [execOp,resolve,invoke,builtin,Builtin.len_,run_underlying ht.under,hf.ev hx,h2,mapO,goInt]
theorem Ev.entry {b clock it since:Nat} {x:Operand} {ms:List (Me κ)} {seen:Array Nat} (m:Me κ) (hx:ev l x=some (.pointer (some ⟨it,0,none⟩))) [hi:Has F hl it (.mapIter (some b) since (seen.push m.born) clock)] [hb:Has F hl b (mapO kv ms clock)]
 (hm:m∈ms) (hn:(ms.map (·.born)).Nodup):Ev P n F l hl ⟨d,.entry x,ty,pos,af,g⟩ (.tuple #[kv m.k,m.v]):=fun a w hf hs=>by
 have h:=run_entry_at (P:=P) w it b since seen (ms.map (ent kv)).toArray clock (ent kv m) (hi.st hs) (hb.st hs) (by rw [List.toList_toArray]; exact List.mem_map.2 ⟨m,hm,rfl⟩) (by rw [List.toList_toArray,List.map_map]; exact hn)
 simp [execOp,hf.ev hx,h]
variable {Qf : Exit → Act → World → Prop} {ks : List KItem} {ops : List Oper} {clr : List Nat} {hs : Hl} {r : Sd} {i : Nat}
theorem Rg.makeMap {t0 t:Nat} (kv:κ→Value) (ho:nth ops i=some ⟨some t0,.makeMap t none,ty,pos,af,g⟩) (hg:wantB ops l g=some true) (ht:Nat.blt t0 n.n=true)
 (h:∀b,Rg P Qf n F ks ops clr ((b,mapO kv [] 0)::hl) r ((t0,.map (some b))::l) ((b,mapO kv [] 0)::hl)):Rg P Qf n F ks ops clr hl (.st i .eff r) l hl :=
 Rg.run ho hg fun a w hf hh=>⟨{ w with heap:=w.heap.push (mapO kv [] 0) },(t0,.map (some w.heap.size))::l,(w.heap.size,mapO kv [] 0)::hl,_,
  .inl ⟨_,by simp [execOp,Instr.makeMap,run_new,mapO],hf.put ht _⟩,hh.alloc _,(hh.alloc _).st,.one,h _⟩
theorem Rg.mapPut {t e b clock:Nat} {x y z:Operand} {ms:List (Me κ)} {k:κ} {v:Value} {put:Obj→Hl} [ht:TyUnder P t (.map kt e)] [h:KeyTy P kt kv] (ho:nth ops i=some ⟨d,.mapUpdate t x y z,ty,pos,af,g⟩) (hg:wantB ops l g=some true) (hd:d=none)
 (hx:ev l x=some (.map (some b))) (hy:ev l y=some (kv k)) (hz:ev l z=some v) [hb:Lens hl b (mapO kv ms clock) put] (hno:∀m∈ms,m.k≠k) (hn:(ms.map (·.k)).Nodup) (hclr:clr.contains i=true)
 (hc:Rg P Qf n F ks ops clr (put (mapO kv (ms++[⟨k,v,clock⟩]) (clock+1))) r l (put (mapO kv (ms++[⟨k,v,clock⟩]) (clock+1)))):Rg P Qf n F ks ops clr hs (.st i .eff r) l hl :=
 Rg.run ho hg fun a w hf hh=>by
  subst hd
  have h1:=hh.own b _ hb.mem
  have h2:(getObj b).run P w=.ok (mapO kv ms clock) w:=Go.MapKept.run_getObj_map h1
  rcases run_find (P:=P) (kt:=kt) (kv:=kv) ms k w hn with ⟨_,_,h4⟩ | ⟨j,m,_,hm,hk,_⟩
  · have h5:(setObj b (mapO kv (ms++[⟨k,v,clock⟩]) (clock+1))).run P w=.ok () (putB w b (mapO kv (ms++[⟨k,v,clock⟩]) (clock+1))):=run_setObj_map _ h1
    simp only [mapO,List.map_append,List.map_cons,List.map_nil] at h5
    exact ⟨putB w b (mapO kv (ms++[⟨k,v,clock⟩]) (clock+1)),l,_,_,.inr ⟨by simp [execOp,hf.ev hx,hf.ev hy,hf.ev hz,Instr.mapUpdate,run_underlying ht.under,h2,mapO,run_check,h4,h5],hf⟩,hb.putB hh _,(hb.putB hh _).st,.inl hclr,hc⟩
  · exact absurd hk (hno m (List.mem_of_getElem? hm))
theorem cutM_erase {ms:List (Me κ)} {j:Nat} {m:Me κ} (hn:(ms.map (·.k)).Nodup) (hm:ms[j]? = some m):ms.eraseIdx j=cutM ms m.k:=by
 induction ms generalizing j with
 | nil=>simp at hm
 | cons x ms ih =>
  rw [List.map_cons,List.nodup_cons] at hn
  cases j with
  | zero =>
   simp only [List.getElem?_cons_zero,Option.some.injEq] at hm
   subst hm
   have:cutM ms x.k=ms:=by
    rw [cutM,List.filter_eq_self]
    intro y hy
    have:y.k≠x.k:=fun e=>hn.1 (List.mem_map.2 ⟨y,hy,e⟩)
    simp [this]
   rw [List.eraseIdx_cons_zero]
   have e2:cutM (x::ms) x.k=cutM ms x.k:=by simp [cutM]
   rw [e2,this]
  | succ j =>
   simp only [List.getElem?_cons_succ] at hm
   have hne:x.k≠m.k:=fun e=>hn.1 (List.mem_map.2 ⟨m,List.mem_of_getElem? hm,e.symm⟩)
   rw [List.eraseIdx_cons_succ,ih hn.2 hm]
   simp [cutM,hne]
theorem Rg.mapDel {t t' e b clock:Nat} {x y:Operand} {ms:List (Me κ)} {k:κ} {put:Obj→Hl} [ht:TyUnder P t (.map kt e)] [h:KeyTy P kt kv] (ho:nth ops i=some ⟨d,.call { callee:=.builtin .delete,args:=#[x,y],argTypes:=#[t,t'] },ty,pos,af,g⟩) (hg:wantB ops l g=some true) (hd:d=none)
 (hx:ev l x=some (.map (some b))) (hy:ev l y=some (kv k)) [hb:Lens hl b (mapO kv ms clock) put] (hin:∃m∈ms,m.k=k) (hn:(ms.map (·.k)).Nodup) (hclr:clr.contains i=true)
 (hc:Rg P Qf n F ks ops clr (put (mapO kv (cutM ms k) clock)) r l (put (mapO kv (cutM ms k) clock))):Rg P Qf n F ks ops clr hs (.st i .eff r) l hl :=
 Rg.run ho hg fun a w hf hh=>by
  subst hd
  have h1:=hh.own b _ hb.mem
  have h2:(getObj b).run P w=.ok (mapO kv ms clock) w:=Go.MapKept.run_getObj_map h1
  rcases run_find (P:=P) (kt:=kt) (kv:=kv) ms k w hn with ⟨_,hno,_⟩ | ⟨j,m,_,hm,hk,h4⟩
  · obtain ⟨m,hm,hk⟩:=hin
    exact absurd hk (hno m hm)
  · have hj:=(List.getElem?_eq_some_iff.1 hm).1
    have h6:(ms.map (ent kv)).eraseIdx j=(cutM ms k).map (ent kv):=by
     rw [←hk,←cutM_erase hn hm,Go.ChangeMaps.map_eraseIdx]
    have h5:(setObj b (mapO kv (cutM ms k) clock)).run P w=.ok () (putB w b (mapO kv (cutM ms k) clock)):=run_setObj_map _ h1
    simp only [mapO] at h5
    have h8:(ms.map (ent kv)).toArray.eraseIdxIfInBounds j=((cutM ms k).map (ent kv)).toArray:=by
     rw [←h6]
     simp [Array.eraseIdxIfInBounds,hj]
    refine ⟨putB w b (mapO kv (cutM ms k) clock),l,_,_,.inl ⟨.tuple #[],?_,hf⟩,hb.putB hh _,(hb.putB hh _).st,.inl hclr,hc⟩
    simp only [execOp,resolve,invoke,builtin,hf.ev hx,hf.ev hy,Builtin.delete_,run_underlying ht.under,h2,mapO,run_check,h4,h8,h5,Sem.run_bind,Sem.run_pure,Result.andThen_ok,List.map_toArray,List.map_cons,List.map_nil,List.getElem?_toArray,List.getElem?_cons_zero,List.getElem?_cons_succ]
theorem Rg.range {t0 t e b clock:Nat} {x:Operand} {ms:List (Me κ)} [ht:TyUnder P t (.map kt e)] (ho:nth ops i=some ⟨some t0,.range t x,ty,pos,af,g⟩) (hg:wantB ops l g=some true) (ht0:Nat.blt t0 n.n=true)
 (hx:ev l x=some (.map (some b))) [hb:Has F hl b (mapO kv ms clock)]
 (h:∀it,Rg P Qf n F ks ops clr ((it,.mapIter (some b) clock #[] clock)::hl) r ((t0,.pointer (some ⟨it,0,none⟩))::l) ((it,.mapIter (some b) clock #[] clock)::hl)):Rg P Qf n F ks ops clr hl (.st i .eff r) l hl :=
 Rg.run ho hg fun a w hf hh=>by
  have h2:(getObj b).run P w=.ok (mapO kv ms clock) w:=Go.MapKept.run_getObj_map (hb.hp hh)
  exact ⟨{ w with heap:=w.heap.push (.mapIter (some b) clock #[] clock) },(t0,.pointer (some ⟨w.heap.size,0,none⟩))::l,(w.heap.size,.mapIter (some b) clock #[] clock)::hl,_,
   .inl ⟨_,by simp [execOp,Instr.range,run_underlying ht.under,hf.ev hx,h2,mapO,run_new],hf.put ht0 _⟩,hh.alloc _,(hh.alloc _).st,.one,h _⟩
theorem Rg.next {t0 b clock it since c0:Nat} {x:Operand} {ms:List (Me κ)} {seen:Array Nat} {put:Obj→Hl} (ho:nth ops i=some ⟨some t0,.next x false,ty,pos,af,g⟩) (hg:wantB ops l g=some true) (ht0:Nat.blt t0 n.n=true)
 (hx:ev l x=some (.pointer (some ⟨it,0,none⟩))) [hi:Lens hl it (.mapIter (some b) since seen c0) put] [hb:Has F hl b (mapO kv ms clock)] (hold:∀m∈ms,m.born<since) (hsc:since≤c0) (hclr:clr.contains i=true)
 (h0:(∀m∈ms,seen.contains m.born=true)→Rg P Qf n F ks ops clr hl r ((t0,.tuple #[.bool false])::l) hl)
 (h1:∀m∈ms,seen.contains m.born=false→Rg P Qf n F ks ops clr (put (.mapIter (some b) since (seen.push m.born) clock)) r ((t0,.tuple #[.bool true,kv m.k,m.v])::l) (put (.mapIter (some b) since (seen.push m.born) clock))) :
 Rg P Qf n F ks ops clr hs (.st i .eff r) l hl :=
 Rg.run ho hg fun a w hf hh=>by
  rcases run_next_at (P:=P) w ty it b since c0 seen (ms.map (ent kv)).toArray clock (hh.own it _ hi.mem) (hb.hp hh) (fun x hx=>by
   have hx':x∈ms.map (ent kv):=by simpa using hx
   obtain ⟨m,hm,rfl⟩:=List.mem_map.1 hx'
   exact hold m hm) hsc with ⟨he,hr⟩ | ⟨e,he,w1,hw1,hr⟩
  · refine ⟨w,_,_,_,.inl ⟨_,by simp [execOp,hf.ev hx,hr],hf.put ht0 _⟩,hh,hh.st,.inl hclr,h0 fun m hm => ?_⟩
    have h2:=Array.eq_empty_of_size_eq_zero he
    rw [leftOf,Array.filter_eq_empty_iff] at h2
    have:=h2 (ent kv m) (by rw [List.mem_toArray]; exact List.mem_map.2 ⟨m,hm,rfl⟩)
    simpa using this
  · have he':e∈ms.map (ent kv)∧seen.contains e.born=false:=by
     simp only [leftOf,Array.toList_filter,List.mem_filter] at he
     exact ⟨by simpa using he.1,by simpa using he.2⟩
    obtain ⟨hme,hnew⟩:=he'
    obtain ⟨m,hm,rfl⟩:=List.mem_map.1 hme
    have hh1:Hp F hl w1:=by rcases hw1 with rfl | rfl; exact hh; exact hh.drew
    exact ⟨_,_,_,_,.inl ⟨_,by simp [execOp,hf.ev hx,hr,ChangeMaps.setBlock,Go.Proofs.YtkpiakgmkpbikaaGreatDoor.putB],hf.put ht0 _⟩,hi.putB hh1 _,(hi.putB hh1 _).st,.inl hclr,h1 m hm hnew⟩
theorem Rg.make0 {α:Type} (E:Enc α) {t0 t B c:Nat} {x y:Operand} {kl kc:IntKind} [hT:TySl P t E B] (ho:nth ops i=some ⟨some t0,.makeSlice t x y,ty,pos,af,g⟩) (hg:wantB ops l g=some true) (ht0:Nat.blt t0 n.n=true)
 (hx:ev l x=some (.int kl 0)) (hy:ev l y=some (.int kc (c:Int))) (hc:B*c≤281474976710656∧c≤maxLen)
 (h:∀b sp,Own E (.slice (some ⟨b,0,none⟩) 0 c) [] [(b,rowS E [] sp)]→Rg P Qf n F ks ops clr ((b,rowS E [] sp)::hl) r ((t0,.slice (some ⟨b,0,none⟩) 0 c)::l) ((b,rowS E [] sp)::hl)):Rg P Qf n F ks ops clr hl (.st i .eff r) l hl :=
 Rg.run ho hg fun a w hf hh=>by
  obtain ⟨inf,z,hi,hz,hsz,hby,hzs⟩:=hT.info
  have hm:(maxLen:Int)≤9223372036854775807:=by simp [maxLen]
  have hb':(inf.bytes:Int)*(c:Int)≤281474976710656:=by
   have h:((inf.bytes*c:Nat):Int)≤281474976710656:=by rw [hby]; omega
   rwa [Int.natCast_mul] at h
  have hr:=run_make (P:=P) w t E.tid inf z hT.under hi hz kl kc 0 c (Int.le_refl _) (by omega) hb' (by omega)
  simp only [Int.toNat_zero,Int.toNat_natCast] at hr
  have e:w.alloc (.cells (madeCells z.cells (c*inf.size)) E.tid)={ w with heap:=w.heap.push (rowS E [] (madeCells z.cells (c*inf.size)).toList) }:=by
   show ({ w with heap:=w.heap.push _ }:World)=_
   simp [rowS,flat]
  rw [e] at hr
  refine ⟨_,(t0,.slice (some ⟨w.heap.size,0,none⟩) 0 c)::l,(w.heap.size,rowS E [] (madeCells z.cells (c*inf.size)).toList)::hl,_,.inl ⟨_,by simp [execOp,hf.ev hx,hf.ev hy,hr],hf.put ht0 _⟩,hh.alloc _,(hh.alloc _).st,.one,h _ _ (.blk _ c [] _ ?_ hc.2)⟩
  have:=size_madeCells z.cells (c*inf.size)
  rw [hsz] at this ⊢
  simp [this]
theorem run_equal_nilP {t e:TypeId} {p:Option Addr} {w:World} (h:P.underlying t=some (.pointer e)):(Op.equal t (.pointer p) (.pointer none)).run P w=.ok p.isNone w:=by
 have key:∀n,(Op.equalIn (n+1) t (.pointer p) (.pointer none)).run P w=.ok p.isNone w:=fun n=>by
  cases p<;>simp [Op.equalIn,run_underlying h]
 exact key 9999
theorem Pv.neqNil {t t' e:TypeId} {x y:Operand} {p:Option Addr} [h:TyUnder P t (.pointer e)] (hx:ev l x=some (.pointer p)) (hy:ev l y=some (.pointer none)):Pv P n l ⟨d,.binOp .neq t x y t',ty,pos,af,g⟩ (.bool p.isSome):=fun a w hf=>by
 have:=run_equal_nilP (P:=P) (t:=t) (p:=p) (w:=w) h.under
 cases p<;>simp [execOp,hf.ev hx,hf.ev hy,eqGuard,binOp,this]
theorem Pv.eqlNil {t t' e:TypeId} {x y:Operand} {p:Option Addr} [h:TyUnder P t (.pointer e)] (hx:ev l x=some (.pointer p)) (hy:ev l y=some (.pointer none)):Pv P n l ⟨d,.binOp .eql t x y t',ty,pos,af,g⟩ (.bool p.isNone):=fun a w hf=>by
 have:=run_equal_nilP (P:=P) (t:=t) (p:=p) (w:=w) h.under
 cases p<;>simp [execOp,hf.ev hx,hf.ev hy,eqGuard,binOp,this]
theorem Pv.eqlS {t t':TypeId} {x y:Operand} {p q:ByteArray} [h:TyUnder P t .string] (hx:ev l x=some (.string p)) (hy:ev l y=some (.string q)):Pv P n l ⟨d,.binOp .eql t x y t',ty,pos,af,g⟩ (.bool (decide (p=q))):=fun a w hf=>by
 have e:(p.toList==q.toList)=decide (p=q):=by
  rw [Bool.eq_iff_iff,decide_eq_true_eq,ByteArray.toList_eq,ByteArray.toList_eq,beq_iff_eq]
  exact ⟨fun h=>(by obtain ⟨⟨x⟩⟩:=p; obtain ⟨⟨y⟩⟩:=q; simp only at h; rw [h]),fun h=>by rw [h]⟩
 simp [execOp,hf.ev hx,hf.ev hy,eqGuard,binOp,Op.stringOp,e]
theorem Pv.neqS {t t':TypeId} {x y:Operand} {p q:ByteArray} [h:TyUnder P t .string] (hx:ev l x=some (.string p)) (hy:ev l y=some (.string q)):Pv P n l ⟨d,.binOp .neq t x y t',ty,pos,af,g⟩ (.bool (!decide (p=q))):=fun a w hf=>by
 have e:(p.toList==q.toList)=decide (p=q):=by
  rw [Bool.eq_iff_iff,decide_eq_true_eq,ByteArray.toList_eq,ByteArray.toList_eq,beq_iff_eq]
  exact ⟨fun h=>(by obtain ⟨⟨x⟩⟩:=p; obtain ⟨⟨y⟩⟩:=q; simp only at h; rw [h]),fun h=>by rw [h]⟩
 simp [execOp,hf.ev hx,hf.ev hy,eqGuard,binOp,Op.stringOp,e]
end
end Go.Proofs.YtkpiakgmkpbikaaGreatDoor
namespace Go.Proofs.YtkpiakgmkpbikaaGreatDoor
theorem flat_rep {α:Type} (E:Enc α) (z:α) (m:Nat):flat E (List.replicate m z)=(List.replicate m (E.cells z)).flatten:=by
 induction m with
 | zero=>rfl
 | succ m ih=>rw [List.replicate_succ,List.replicate_succ,List.flatten_cons,←ih]; rfl
section
variable {P : Program} {n : Nf} {F : Fm} {l : Env} {hl : Hl} {d : Option Tmp} {ty : TypeId} {pos : String} {af : Array Edge} {g : Option (Nat × Bool)} {α : Type} {E : Enc α}
variable {Qf : Exit → Act → World → Prop} {ks : List KItem} {ops : List Oper} {clr : List Nat} {hs : Hl} {r : Sd} {i : Nat}
theorem Rg.makeN (E:Enc α) (z:α) {t0 t B m:Nat} {x y:Operand} {kl kc:IntKind} [hT:TySl P t E B] [hz:TyZero P E.tid (E.val z)] (ho:nth ops i=some ⟨some t0,.makeSlice t x y,ty,pos,af,g⟩) (hg:wantB ops l g=some true) (ht0:Nat.blt t0 n.n=true)
 (hx:ev l x=some (.int kl (m:Int))) (hy:ev l y=some (.int kc (m:Int))) (hc:B*m≤281474976710656∧m≤maxLen)
 (h:∀b,Own E (.slice (some ⟨b,0,none⟩) m m) (List.replicate m z) [(b,rowS E (List.replicate m z) [])]→Rg P Qf n F ks ops clr ((b,rowS E (List.replicate m z) [])::hl) r ((t0,.slice (some ⟨b,0,none⟩) m m)::l) ((b,rowS E (List.replicate m z) [])::hl)):Rg P Qf n F ks ops clr hl (.st i .eff r) l hl :=
 Rg.run ho hg fun a w hf hh=>by
  obtain ⟨inf,z',hi,hz',hsz,hby,hzs⟩:=hT.info
  have hzz:z'=E.val z:=by
   have h1:=hz.zero w
   have h2:(zeroValue E.tid).run P w=.ok z' w:=by simp [zeroValue,typeInfo,hi,hz']
   rw [h2] at h1
   cases h1; rfl
  subst hzz
  have hm:(maxLen:Int)≤9223372036854775807:=by simp [maxLen]
  have hb':(inf.bytes:Int)*(m:Int)≤281474976710656:=by
   have h:((inf.bytes*m:Nat):Int)≤281474976710656:=by rw [hby]; omega
   rwa [Int.natCast_mul] at h
  have hr:=run_make (P:=P) w t E.tid inf (E.val z) hT.under hi hz' kl kc m m (by omega) (Int.le_refl _) hb' (by omega)
  simp only [Int.toNat_natCast] at hr
  have hcell:(E.val z).cells=(E.cells z).toArray:=by rw [←E.vc]
  have e1:madeCells (E.val z).cells (m*inf.size)=(flat E (List.replicate m z)++[]).toArray:=by
   have h4:=rep_cells (E.cells z) (by rw [E.len]; exact E.pos) m
   rw [E.len] at h4
   unfold madeCells
   rw [hsz,hcell,h4,flat_rep,List.append_nil]
  have e:w.alloc (.cells (madeCells (E.val z).cells (m*inf.size)) E.tid)={ w with heap:=w.heap.push (rowS E (List.replicate m z) []) }:=by
   rw [e1]; rfl
  rw [e] at hr
  refine ⟨_,(t0,.slice (some ⟨w.heap.size,0,none⟩) m m)::l,(w.heap.size,rowS E (List.replicate m z) [])::hl,_,.inl ⟨_,by simp [execOp,hf.ev hx,hf.ev hy,hr],hf.put ht0 _⟩,hh.alloc _,(hh.alloc _).st,.one,h _ ?_⟩
  exact Own.blk' (E:=E) w.heap.size m m (List.replicate m z) [] (by simp) (by simp) hc.2
theorem Pv.sl3 {t e k m c b off:Nat} {x y z u:Operand} (i j q:Nat) [ht:TyUnder P t (.slice e)] [hs:TySize P e k] (hx:ev l x=some (.slice (some ⟨b,off,none⟩) m c)) (hy:ev l y=some (.int .i64 (i:Int))) (hz:ev l z=some (.int .i64 (j:Int))) (hu:ev l u=some (.int .i64 (q:Int))) (hij:i≤j) (hj:j≤q) (hq:q≤c) :
 Pv P n l ⟨d,.slice t x (some y) (some z) (some u),ty,pos,af,g⟩ (.slice (some ⟨b,if q=i then off else off+i*k,none⟩) (j-i) (q-i)):=fun a w hf=>by
 simp [execOp,Instr.sliceAt,Instr.slice,Instr.sliceBounds,Instr.sliceBound,run_underlying ht.under,hf.ev hx,hf.ev hy,hf.ev hz,hf.ev hu,hs.size,asIntOf,hij,hj,hq]
 split<;>simp [addr_add]
end
end Go.Proofs.YtkpiakgmkpbikaaGreatDoor
namespace Go.Proofs.YtkpiakgmkpbikaaGreatDoor
open Go.ChangeShapes Go.WideShapes Go.RowKit
abbrev fmOf (W:World):Fm:=⟨W.os,W.tape,W.output,fun b o=>W.heap[b]? = some o,W.drawn⟩
theorem hp_start (W:World):Hp (fmOf W) [] W :=
 ⟨rfl,rfl,rfl,fun _ _ h=>(by cases h),fun _ _ h=>h,List.nodup_nil,fun _ _ _ h=>(by cases h),Nat.le_refl _⟩
theorem below_end {W W':World} {hl:Hl} (h:Hp (fmOf W) hl W'):Below W.heap.size W W':=by
 have hb:∀k,k<W.heap.size→W'.heap[k]? = W.heap[k]? := fun k hk=>by
  have e:W.heap[k]? = some W.heap[k]:=Array.getElem?_eq_getElem hk
  rw [e]; exact h.frame k _ e
 refine ⟨h.os,h.tape,h.output,?_,hb⟩
 by_cases h0:W.heap.size=0
 · omega
 · have:=hb (W.heap.size-1) (by omega)
   rw [Array.getElem?_eq_getElem (show W.heap.size-1<W.heap.size by omega)] at this
   have:=(Array.getElem?_eq_some_iff.1 this).1
   omega
section
variable {H : Type} {enc : TypeId × Value → H} {P : Program}
theorem carryAll {W W':World} {base:Nat} {spare:Nat→Bool} {held:Bool} (hs:∀p:MemPlace,p.block<W.heap.size→W.sameAt W' p):∀{ts:List TypeId} {vs:List Value} {ds:List (DataW H)} {ps:List MemPlace},
 DataW.TrodAll enc P W base spare held ts vs ds ps→DataW.TrodAll enc P W' base spare held ts vs ds ps
 | [],[],[],_,h=>h
 | _::_,_::_,_::_,_,⟨p,q,⟨n,h1⟩,h2,e⟩=>⟨p,q,⟨n,DataW.trod_carry n _ _ _ h1 fun x hx=>hs x (DataW.trod_lt n _ _ _ h1 x hx)⟩,carryAll hs h2,e⟩
theorem sameAt_below {W W':World} (h:Below W.heap.size W W') (p:MemPlace) (hp:p.block<W.heap.size):W.sameAt W' p:=by
 cases p with
 | cell b off=>exact World.cell?_of_block (h.block b hp)
 | map b=>exact h.block b hp
theorem post_kept {f:Func} {s:ChangeSpec} {apart fresh handsOn:Bool} {W W':World} {args:Array Value} {ds gs:List (DataW H)} {before:List MemPlace} {tb:TypeId} {r:Bool}
 (hl:laidOutB P=true) (hm:mapsRowed P=true)
 (hz:((List.range P.types.size).all fun t=>match P.underlying t with | some (.slice e)=>decide (0<P.cellsOf e) | _=>true)=true) (ht:f.params.toList.all (fun t=>decide (t<P.types.size))=true)
 (hW:DataW.Whole enc P f.params.toList s.vars apart W args.toList ds gs before) (hv:s.vars=[]) (hs:s.fn H (ds++gs)={ results:=[.lit (.bool r)],args:=ds }) (htb:P.underlying tb=some .bool) (hrt:f.resultTypes=#[tb])
 (hb:Below W.heap.size W W'):s.post enc P f apart fresh handsOn false W args (.bool r) W':=by
 have hW':=hW
 obtain ⟨p,q,hA,hV,e,hfz,hnd⟩:=hW
 have hlt:∀x∈p,x.block<W.heap.size:=fun x hx=>hA.lt x hx
 have hA2:DataW.TrodAll enc P W' 0 (fun b=>decide (b<W.heap.size)) true f.params.toList args.toList ds p :=
  carryAll (sameAt_below hb) (DataW.TrodAll.respare (T:=(· < P.types.size)) (kids_rows hl hm) (slices_full_of P hz) (fun t h=>of_decide_eq_true (List.all_eq_true.1 ht t h)) hA (fun x hx=>by simpa using hlt x hx))
 refine ⟨ds,gs,before,[],p,[],hW',?_,?_,?_,World.keptBut_mono (fun x hx=>⟨hx,?_⟩) (hb.frame (· ∈ before)),fun h=>by cases h⟩
 · rw [hs,hrt]
   exact trodAll_cons_mk (shut_bool htb r) trodAll_mk0
 · rw [hs]; exact hA2
 · rw [hs,hv]; exact rfl
 · rw [hv] at hV
   have hq:q=[]:=by
    cases gs with
    | nil=>exact hV
    | cons g gs=>exact hV.elim
   rw [e,hq,List.append_nil] at hx
   exact .inr (.inl hx)
theorem cell_mono {W w:World} {a:Addr} {u:Value} (h:W.cell? a=some u) (hw:∀(b:Nat) (o:Obj),W.heap[b]? = some o→w.heap[b]? = some o):w.cell? a=some u:=by
 have e:∃o,W.heap[a.block]? = some o:=by
  cases he:W.heap[a.block]? with
  | some o=>exact ⟨o,rfl⟩
  | none=>simp [World.cell?,he] at h
 obtain ⟨o,ho⟩:=e
 rw [←h]
 exact World.cell?_of_block (by rw [hw _ _ ho,ho])
theorem open_arg {α:Type} [Inhabited α] {E:Enc α} {W:World} {r:Reach} {base:Nat} {t e:TypeId} {v:Value} {d:DataW H} {ps:List MemPlace} (good:α→Prop) (ht:P.underlying t=some (.slice e)) (he:P.cellsOf e=E.k)
 (hval:Value.okWide P W r base t v) (h:DataW.Trod enc P W 0 (fun _=>true) true t v d ps)
 (dec:∀(n:Nat) (cs:List Value) (y:DataW H×List MemPlace),cs.length=E.k→DataW.trod enc P W 0 (fun _=>true) true n e cs=some y→∃x,cs=E.cells x∧good x) :
 ∃xs:List α,Arg E (fmOf W) v xs∧∀x∈xs,good x:=by
 obtain ⟨a,len,cap,rfl⟩:=okWide_slice ht hval
 obtain ⟨fuel,h⟩:=h
 rcases Go.Deep.open_slice ht h with ⟨h0,_⟩ | ⟨a',len',cap',m,n,D,Pl,h0,_,hle,hcap,hm,_,hx⟩
 · have:Value.slice a len cap=.slice none 0 0:=by simpa [Value.cells] using h0
   exact ⟨[],.inl ⟨⟨_,_,this⟩,rfl⟩,fun x hx=>by cases hx⟩
 · have e0:Value.slice a len cap=.slice (some a') len' cap':=by simpa [Value.cells] using h0
   obtain ⟨rfl,rfl,rfl⟩:a=some a'∧len=len'∧cap=cap':=by simpa using e0
   have hspot:a'.spot=none:=by
    simp only [Value.okWide,ht,Cell.okWide,Cell.ok] at hval
    exact hval.2.2.2.1
   obtain ⟨b,off,sp⟩:=a'
   simp only at hspot
   subst hspot
   simp only [if_true] at hm
   subst hm
   have each:∀i,i<m→∃x,(∀j,j<E.k→W.cell? ⟨b,off+i*E.k+j,none⟩=(E.cells x)[j]?)∧good x:=fun i hi=>by
    obtain ⟨cs,h1,h2⟩:=hx i hi
    rw [he] at h1
    obtain ⟨_,hlen,hcell⟩:=World.cells?_some h1
    obtain ⟨x,rfl,hg⟩:=dec _ _ _ hlen h2
    refine ⟨x,fun j hj => ?_,hg⟩
    rw [←hcell j hj,addr_add,addr_add]
   obtain ⟨f,hf⟩:=Go.Deep.choose_lt each
   refine ⟨(List.range len).map f,.inr ⟨b,off,m,by simp,by simpa using hle,fun w hw j u hu => ?_⟩,fun x hxm => ?_⟩
   · have hj:=(List.getElem?_eq_some_iff.1 hu).1
     rw [flat_length,List.length_map,List.length_range] at hj
     have hpos:=E.pos
     have hi:j / E.k<len:=Nat.div_lt_of_lt_mul (by rw [Nat.mul_comm]; exact hj)
     have hr:j % E.k<E.k:=Nat.mod_lt _ hpos
     have ej:j / E.k*E.k+j % E.k=j:=by rw [Nat.mul_comm]; exact Nat.div_add_mod j E.k
     have hg:=flat_get E ((List.range len).map f) (j / E.k) (j % E.k) (f (j / E.k)) (by simp [hi]) hr
     rw [ej] at hg
     rw [hg,←(hf (j / E.k) (by omega)).1 _ hr] at hu
     have:=cell_mono hu hw
     rwa [Nat.add_assoc,ej] at this
   · obtain ⟨i,hi,rfl⟩:=List.mem_map.1 hxm
     exact (hf i (by have:=List.mem_range.1 hi; omega)).2
end
end Go.Proofs.YtkpiakgmkpbikaaGreatDoor
namespace Go.Proofs.YtkpiakgmkpbikaaGreatDoor
theorem Arg.cap {α:Type} {E:Enc α} {F:Fm} {p:Option Addr} {m c:Nat} {ys:List α} (h:Arg E F (.slice p m c) ys):m=ys.length∧ys.length≤c:=by
 rcases h with ⟨⟨p',c',e⟩,rfl⟩ | ⟨b,off,c',e,hc,_⟩
 · cases e; exact ⟨rfl,Nat.zero_le _⟩
 · cases e; exact ⟨rfl,hc⟩
section
variable {P : Program} {n : Nf} {F : Fm} {l : Env} {hl : Hl} {d : Option Tmp} {ty : TypeId} {pos : String} {af : Array Edge} {g : Option (Nat × Bool)} {α : Type} {E : Enc α}
variable {Qf : Exit → Act → World → Prop} {ks : List KItem} {ops : List Oper} {clr : List Nat} {hs : Hl} {r : Sd} {i : Nat}
theorem flat_parts (xs:List α) (k:Nat):flat E xs=flat E (xs.take k)++flat E (xs.drop k):=by
 conv=>lhs; rw [←List.take_append_drop k xs]
 simp only [flat,List.flatMap_append]
theorem Rg.bslice1R {t st e k:Nat} {x:Operand} {v z:Value} {zs:List Value} (y:α) [hu:TyUnder P st (.slice e)] [hs0:TySize P e k] [hz:TyZero P e z] (ho:nth ops i=some ⟨some t,.buildSlice st 1 #[(0,x)],ty,pos,af,g⟩) (hg:wantB ops l g=some true) (ht:Nat.blt t n.n=true)
 (hx:ev l x=some v) (hc:cl v=some (E.cells y)) (hcz:cl z=some zs) (hk:((E.cells y).length==k&&zs.length==k&&Nat.blt 0 k&&Nat.ble k 16777216)=true) (hr:cellsO (E.cells y) e=rowS E [y] [])
 (h:∀b,Own E (.slice (some ⟨b,0,none⟩) 1 1) [y] [(b,rowS E [y] [])]→Rg P Qf n F ks ops clr ((b,rowS E [y] [])::hl) r ((t,.slice (some ⟨b,0,none⟩) 1 1)::l) ((b,rowS E [y] [])::hl)):Rg P Qf n F ks ops clr hl (.st i .eff r) l hl :=
 Rg.bslice1 ho hg ht hx hc hcz hk fun b=>by
  rw [hr]
  exact h b (Own.blk' b 1 1 [y] [] rfl (by simp) (by decide))
theorem Rg.bsliceR {t st e k m:Nat} {ps:List (Nat×Operand)} {vs:List (Nat×Value)} {z:Value} {zs cs:List Value} (ys:List α) [hu:TyUnder P st (.slice e)] [hs0:TySize P e k] [hz:TyZero P e z] (ho:nth ops i=some ⟨some t,.buildSlice st m ps.toArray,ty,pos,af,g⟩) (hg:wantB ops l g=some true) (ht:Nat.blt t n.n=true)
 (hv:evp l ps=some vs) (hcz:cl z=some zs) (hk:(zs.length==k&&Nat.blt 0 k&&Nat.blt 0 m&&Nat.ble (m*k) 16777216)=true) (hc:Instr.fill (fun i=>some (i*k,k)) ((List.replicate m zs).flatten).toArray vs=some cs.toArray)
 (hr:cellsO cs e=rowS E ys []) (hm:m=ys.length) (hml:m≤maxLen)
 (h:∀b,Own E (.slice (some ⟨b,0,none⟩) m m) ys [(b,rowS E ys [])]→Rg P Qf n F ks ops clr ((b,rowS E ys [])::hl) r ((t,.slice (some ⟨b,0,none⟩) m m)::l) ((b,rowS E ys [])::hl)):Rg P Qf n F ks ops clr hl (.st i .eff r) l hl :=
 Rg.bsliceN ho hg ht hv hcz hk hc fun b=>by
  rw [hr]
  exact h b (Own.blk' b m m ys [] hm (by simp) hml)
theorem Arg.srcF {s:Hl} {v:Value} {ys:List α} (h:Arg E (frz F s) v ys) [hsb:Sb s hl]:Src E F hl v ys:=by
 rcases h with h | ⟨b,off,c,e,_,h⟩
 · exact .inl h
 · exact .inr ⟨b,off,c,e,fun w ⟨hn,hw⟩=>h w fun b o hbo=>hbo.elim (fun hm=>hw.own b o (List.mem_append_right _ (hsb.sub _ hm))) (hw.frame b o)⟩
theorem flat_set1 [Inhabited α] {ys:List α} {j i:Nat} {z:α} {u:Value} (hj:j<ys.length) (hi:i<E.k) (hz:E.cells z=(E.cells ys[j]!).set i u):flat E (ys.set j z)=(flat E ys).set (j*E.k+i) u:=by
 have e:flat E ys=(flat E ys).take (j*E.k)++E.cells ys[j]! ++ (flat E ys).drop (j*E.k+E.k):=by
  have:=flat_set (E:=E) ys j ys[j]! hj
  rw [getElem!_pos ys j hj,List.set_getElem_self] at this
  rw [getElem!_pos ys j hj]
  exact this
 have hlen:=flat_lt E ys (i:=E.k-1) hj (by have:=E.pos; omega)
 have ht:((flat E ys).take (j*E.k)).length=j*E.k:=by simp; omega
 rw [flat_set ys j z hj,hz]
 conv=>rhs; rw [e]
 rw [List.append_assoc,List.append_assoc,List.set_append_right _ _ (by omega),ht,show j*E.k+i-j*E.k=i by omega,List.set_append_left _ _ (by rw [E.len]; exact hi)]
theorem Rg.storeRf [Inhabited α] {t b off:Nat} {x y:Operand} {d:Option Tmp} {z:α} {v:Value} {ys:List α} {sp:List Value} {put:Obj→Hl} (j i0:Nat) (ho:nth ops i=some ⟨d,.store t x y,ty,pos,af,g⟩) (hg:wantB ops l g=some true) (hd:d=none)
 (hx:ev l x=some (.pointer (some ⟨b,off,none⟩))) (hy:ev l y=some v) [hb:Lens hl b (rowS E ys sp) put] [ht:TyOne P t] (hc1:v.oneCell'=true) (hz:E.cells z=(E.cells ys[j]!).set i0 v) (hi:i0<E.k) (hoff:off=j*E.k+i0) (hj:j<ys.length) (hclr:clr.contains i=true)
 (h:Rg P Qf n F ks ops clr (put (rowS E (ys.set j z) sp)) r l (put (rowS E (ys.set j z) sp))):Rg P Qf n F ks ops clr hs (.st i .eff r) l hl :=
 Rg.run ho hg fun a w hf hh=>by
  subst hd; subst hoff
  have hlen:=flat_lt E ys hj hi
  have hq:setsL (flat E ys++sp) (j*E.k+i0) [v]=some (flat E (ys.set j z)++sp):=by
   rw [setsL_mk _ _ _ (by simp; omega),flat_set1 hj hi hz,List.set_eq_take_append_cons_drop,if_pos hlen,List.take_append_of_le_length (by omega),List.drop_append_of_le_length (by simp; omega)]
   simp
  have hrun:=run_storeAt (P:=P) (t:=t) (us:=[v]) ht.size (cells_one hc1) rfl (by simpa using hc1) (hh.own b _ hb.mem) hq
  exact ⟨_,l,_,_,.inr ⟨by simp [execOp,hf.ev hx,hf.ev hy,hrun,rowS],hf⟩,hb.putB hh _,(hb.putB hh _).st,.inl hclr,h⟩
theorem Rg.ext {t f:Nat} {xs:List Operand} {vs:List Value} {ats:Array TypeId} {v:Value} (ho:nth ops i=some ⟨some t,.call { callee:=.value (.func f),args:=xs.toArray,argTypes:=ats },ty,pos,af,g⟩) (hg:wantB ops l g=some true) (ht:Nat.blt t n.n=true)
 (hv:evs l xs=some vs) (hc:∀w,(callFunc f vs.toArray).run P w=.ok (.value v) w) (h:Rg P Qf n F ks ops clr hl r ((t,v)::l) hl):Rg P Qf n F ks ops clr hl (.st i .eff r) l hl :=
 Rg.run ho hg fun a w hf hh=>⟨w,(t,v)::l,hl,hl,.inl ⟨v,by simp [execOp,resolve,Deferred.ofValue,Act.eval,invoke,hc,hf.evs hv],hf.put ht v⟩,hh,hh.st,.same,h⟩
theorem Rg.callHN {t f:Nat} {o:Op} {args:Array Value} {pre rest q:Hl} {post:Value→Hl→Prop} (ho:nth ops i=some ⟨some t,o,ty,pos,af,g⟩) (hg:wantB ops l g=some true) (ht:Nat.blt t n.n=true) (hc:Callz P n l ⟨some t,o,ty,pos,af,g⟩ f args)
 (hspec:∀F',(∀b o,(b,o)∈rest∨F.at_ b o→F'.at_ b o)→Spec P f args F' pre post) [hp:PullL hl pre rest] [hq:PullL rest hs q] (h:∀v hl',post v hl'→Rg P Qf n F ks ops clr hs r ((t,v)::l) (hl'++rest)):Rg P Qf n F ks ops clr hs (.st i .eff r) l hl :=
 Rg.calls pre rest ho hg (fun a w hf _=>hc a w hf) hp.perm (hspec (frz F rest) fun _ _ h=>h) fun v hl' hpost=>⟨hs,fun w hw=>⟨hl'++q,hw.perm (by rw [List.append_assoc]; exact (hq.perm.trans List.perm_append_comm).append_left hl')⟩,.same,fun a hf=>⟨_,hf.put ht v,h v hl' hpost⟩⟩
theorem Pv.remN {t t':TypeId} {x y:Operand} {k:IntKind} (p q:Nat) (hx:ev l x=some (.int k (p:Int))) (hy:ev l y=some (.int k (q:Int))) (hq:0<q):Pv P n l ⟨d,.binOp .rem t x y t',ty,pos,af,g⟩ (.int k ((p % q:Nat):Int)):=Pv.ar hx hy fun w=>by
 have h0:(q:Int)≠0:=by omega
 have hd:(p:Int).tmod (q:Int)=((p % q:Nat):Int):=by rw [Int.tmod_eq_emod_of_nonneg (by omega)]; rfl
 simp [binOp,Op.intDiv,h0,hd]
 intro hk
 omega
end
end Go.Proofs.YtkpiakgmkpbikaaGreatDoor
