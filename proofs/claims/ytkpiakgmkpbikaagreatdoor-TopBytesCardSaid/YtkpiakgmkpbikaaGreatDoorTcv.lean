/- Steps of the proof. -/
import Derived.Test.YtkpiakgmkpbikaaGreatDoorTct
import Derived.Test.YtkpiakgmkpbikaaGreatDoorRows
import Derived.WalkKit
import Derived.ProofKit
import Derived.LaidMore
import Derived.WideKeyElems2
import Derived.Stop.LaidErr
import Derived.Stop.Joined
import Derived.Deep.Strs
set_option linter.unusedVariables false
namespace Go.Proofs.YtkpiakgmkpbikaaGreatDoor
open Go.ChangeShapes Go.WideShapes Go.ChangeAt Go.RowKit
abbrev laidL : List (String × DataW Unit) := [("math/bits.deBruijn32tab", Rows.laid_math_bits_deBruijn32tab), ("math/bits.deBruijn64tab", Rows.laid_math_bits_deBruijn64tab), ("internal/strconv.uint64pow10", Rows.laid_internal_strconv_uint64pow10), ("strconv.ErrRange", Rows.laid_strconv_ErrRange), ("strconv.ErrSyntax", Rows.laid_strconv_ErrSyntax), ("cartage/script.calls", Rows.laid_cartage_script_calls)]
theorem var_block {W:World} {name:String} {g:Nat} {cs:Array Value} (hg:Tryz.prog.globalNamed name=some g) (h:W.var? Tryz.prog name=some cs):∃T z,W.heap[g]? = some (.cells cs T z):=by
 unfold World.var? at h
 rw [hg] at h
 simp only [Option.bind_some] at h
 split at h
 · rename_i c T z hb
   cases h
   exact ⟨T,z,hb⟩
 · cases h
theorem iface_of_trod {H:Type} {enc:TypeId×Value→H} {W:World} {sp:Nat→Bool} {held:Bool} {fuel:Nat} {t:TypeId} {ms:Array (String×TypeId)} {cs:List Value} {nm:String} {d:DataW H} {p:List MemPlace} (hi:Tryz.prog.underlying t=some (.interface ms)) (h:DataW.trod enc Tryz.prog W 0 sp held fuel t cs=some (.iface nm d,p)):∃u v,cs=[.iface u v]:=by
 cases fuel with
 | zero=>simp [DataW.trod] at h
 | succ n =>
  rw [DataW.trod_step] at h
  unfold DataW.trodStep at h
  rw [hi] at h
  split at h<;>simp_all
abbrev nmC (c:UInt8):List UInt8:=[99,97,114,116,97,103,101,47,115,99,114,105,112,116,46,99,97,108,108,115,36,c]
abbrev tabT:List (Lit×DataW (List UInt8)):=[(.int .i64 2,.held (nmC 49)),(.int .i64 3,.held (nmC 50)),(.int .i64 4,.held (nmC 51)),(.int .i64 5,.held (nmC 52))]
def nOf:Value→Int
 | .int _ n=>n
 | _=>0
theorem key_int {k:Lit} {v:Value} (h:keyOf Tryz.prog 3 v=some k):∃n:Int,v=.int .i64 n∧k=.int .i64 n:=by
 have hu:Tryz.prog.underlying 3=some (.int .i64):=Tryz.underlying3
 unfold keyOf at h
 rw [hu] at h
 simp only at h
 unfold mapKey at h
 rw [hu] at h
 split at h<;>simp_all
theorem func_cells {v:Value} {b:UInt8} {r:List UInt8} {q:List MemPlace} {W:World} {fuel:Nat} {f0:FuncId}
 (hone:((List.range Tryz.prog.funcs.size).filter fun f=>(Tryz.prog.funcs[f]?).any (·.name.toUTF8.data.toList==b::r))=[f0])
 (h:WideElems.elemAt (funcToken Tryz.prog) Tryz.prog W 0 (fun _=>true) true fuel 74 v=some (.held (b::r),q)):v=.func (.func f0) #[] #[]:=by
 unfold WideElems.elemAt at h
 split at h
 · rename_i hfm
   have hc:v.cells.toList=[v]:=by
    cases v<;>first | rfl | (simp [Value.formed,Tryz.underlying74] at hfm)
   rw [hc] at h
   exact func_of_trod Tryz.underlying74 hone h
 · cases h
set_option maxRecDepth 100000 in
theorem table_of {W:World} (h:laidMetH Tryz.prog laidL W):∃T z mb ms clock,W.heap[0]? = some (.cells [Value.map (some mb)].toArray T z)∧W.heap[mb]? = some (mapO kI ms clock)∧(ms.map (·.k)).Nodup ∧
 (findM ms 2).map (·.v)=some (.func (.func 175) #[] #[])∧(findM ms 3).map (·.v)=some (.func (.func 177) #[] #[])∧(findM ms 4).map (·.v)=some (.func (.func 179) #[] #[])∧(findM ms 5).map (·.v)=some (.func (.func 181) #[] #[]):=by
 obtain ⟨g, t, cs, fuel, p, hg, ht, hv, hd⟩ := h.funcs (n := "cartage/script.calls") (by simp [laidL, Rows.laid_cartage_script_calls]; rfl)
 obtain rfl := Option.some.inj ((show Tryz.prog.globalNamed "cartage/script.calls" = some 0 by kernel_rfl).symm.trans hg)
 obtain rfl:=Option.some.inj ((show (Tryz.prog.globals[0]?).map (·.type)=some 75 by kernel_rfl).symm.trans ht)
 obtain ⟨T,z,hb0⟩:=var_block hg hv
 have hd':DataW.trod (funcToken Tryz.prog) Tryz.prog W 0 (fun _=>true) true fuel 75 cs.toList=some (.map tabT,p):=hd
 have hmt:Tryz.prog.underlying 75=some (.map 3 74):=Tryz.underlying75
 rcases WideElems.open_map hmt hd' with ⟨_,hx⟩ | ⟨b,es,clock,n,_,hcs,hb,_,hF,hx⟩
 · cases hx
 · simp only [Prod.mk.injEq,DataW.map.injEq] at hx
   have hperm:=sorted_perm (es.toList.map (WideElems.rg Tryz.prog 3 (WideElems.elemAt (funcToken Tryz.prog) Tryz.prog W 0 (fun _=>true) true n 74)))
   rw [←hx.1] at hperm
   obtain ⟨ms,hms⟩:∃ms:List (Me Int),ms=es.toList.map fun x=>⟨nOf x.key,x.val,x.born⟩:=⟨_,rfl⟩
   have hkey:∀x∈es.toList,x.key=.int .i64 (nOf x.key):=fun x hx=>by
    obtain ⟨y,hy⟩:=hF.reads x hx
    obtain ⟨m,e,_⟩:=key_int (WideElems.rd_key hy)
    rw [e];rfl
   have hes:es.toList=ms.map (ent kI):=by
    rw [hms,List.map_map]
    refine (List.map_id es.toList).symm.trans (List.map_congr_left fun x hx=>?_)
    show x=(⟨.int .i64 (nOf x.key),x.val,x.born⟩:MapEntry)
    rw [←hkey x hx]
   have hnd:(ms.map (·.k)).Nodup:=by
    have hpw:=hF.stamped.2.2
    have e:es.toList.map (·.key)=(ms.map (·.k)).map kI:=by rw [hes,List.map_map,List.map_map];rfl
    rw [e] at hpw
    exact (List.pairwise_map.1 hpw).imp fun h e=>h (by rw [e])
   have key:∀(c:UInt8) (m:Int) (f0:FuncId),((Lit.int .i64 m,DataW.held (nmC c)):Lit×DataW (List UInt8))∈tabT→((List.range Tryz.prog.funcs.size).filter fun f=>(Tryz.prog.funcs[f]?).any (·.name.toUTF8.data.toList==nmC c))=[f0]→(findM ms m).map (·.v)=some (.func (.func f0) #[] #[]):=fun c m f0 hin hone=>by
    obtain ⟨x,hx,hrx⟩:=List.mem_map.1 (hperm.mem_iff.1 hin)
    obtain ⟨y,hy⟩:=hF.reads x hx
    rw [WideElems.rg_of hy] at hrx
    subst hrx
    obtain ⟨m',e1,e2⟩:=key_int (WideElems.rd_key hy)
    simp only [Lit.int.injEq,true_and] at e2
    subst e2
    unfold WideElems.rd at hy
    simp only [Option.bind_eq_some_iff,Option.map_eq_some_iff] at hy
    obtain ⟨kk,_,⟨d,q⟩,hel,hkd⟩:=hy
    simp only [Prod.mk.injEq] at hkd
    obtain ⟨_,rfl⟩:=hkd
    have hvx:=func_cells hone hel
    have hmem:(⟨m,x.val,x.born⟩:Me Int)∈ms:=by
     rw [hms]
     exact List.mem_map.2 ⟨x,hx,by rw [e1];rfl⟩
    cases hfd:findM ms m with
    | none=>exact absurd rfl (findM_none.1 hfd _ hmem)
    | some m2 =>
     have h1:=List.find?_some hfd
     simp only [dt] at h1
     have h2:=List.mem_of_find?_eq_some hfd
     have:m2=⟨m,x.val,x.born⟩:=by
      obtain ⟨i,hi,ei⟩:=List.mem_iff_getElem.1 h2
      obtain ⟨j,hj,ej⟩:=List.mem_iff_getElem.1 hmem
      have hij:i=j:=(List.getElem_inj (xs:=ms.map (·.k)) (h₀:=by simpa using hi) (h₁:=by simpa using hj) hnd).1 (by simp [ei,ej,h1])
      subst hij
      rw [←ei,ej]
     rw [this]
     show some x.val=_
     rw [hvx]
   refine ⟨T,z,b,ms,clock,?_,?_,hnd,key 49 2 _ (by simp [tabT]) (by kernel_rfl),key 50 3 _ (by simp [tabT]) (by kernel_rfl),key 51 4 _ (by simp [tabT]) (by kernel_rfl),key 52 5 _ (by simp [tabT]) (by kernel_rfl)⟩
   · rw [hb0]
     congr 2
     rw [←hcs]
   · rw [hb]
     unfold mapO
     rw [←hes]
set_option maxRecDepth 100000 in
theorem laid_of {W:World} (h:laidMetH Tryz.prog laidL W):Laid (fmOf W):=by
 obtain ⟨T,z,mb,ms,clock,h0,hm,hnd,k2,k3,k4,k5⟩:=table_of h
 have h' : laidMet Tryz.prog [("math/bits.deBruijn32tab", Rows.laid_math_bits_deBruijn32tab), ("math/bits.deBruijn64tab", Rows.laid_math_bits_deBruijn64tab), ("internal/strconv.uint64pow10", Rows.laid_internal_strconv_uint64pow10), ("strconv.ErrRange", Rows.laid_strconv_ErrRange), ("strconv.ErrSyntax", Rows.laid_strconv_ErrSyntax)] W ∧ handlesMet Tryz.prog [("cartage/script.calls", Rows.laid_cartage_script_calls)] W := h
 obtain ⟨ps,⟨g1,t1,cs1,f1,p1,q1,hg1,ht1,hv1,hd1,_,_⟩,_,_⟩:=h'.1.tail.tail.tail.tail
 obtain rfl := Option.some.inj ((show Tryz.prog.globalNamed "strconv.ErrSyntax" = some 1 by kernel_rfl).symm.trans hg1)
 obtain rfl:=Option.some.inj ((show (Tryz.prog.globals[1]?).map (·.type)=some 161 by kernel_rfl).symm.trans ht1)
 obtain ⟨T1,z1,hb1⟩:=var_block hg1 hv1
 obtain ⟨u,v,hcs1⟩:=iface_of_trod (TyIfc.under (P:=Tryz.prog) (t:=161)) hd1
 have hb1':W.heap[1]? = some (.cells [Value.iface u v].toArray T1 z1):=by
  rw [hb1]
  congr 2
  rw [←hcs1]
 exact ⟨⟨T,z,mb,ms,clock,h0,hm,hnd,k2⟩,⟨T,z,mb,ms,clock,h0,hm,hnd,k3⟩,⟨T,z,mb,ms,clock,h0,hm,hnd,k4⟩,⟨T,z,mb,ms,clock,h0,hm,hnd,k5⟩,atoiN_of (F:=fmOf W) hb1'⟩
open ED (Eg egV egC edgeE InE grV)
theorem ownKnob_none:ownKnob Tryz.prog.godebug=none:=by kernel_rfl
theorem laidOut:laidOutB Tryz.prog=true:=by kernel_rfl
theorem rowed:mapsRowed Tryz.prog=true:=by kernel_rfl
theorem slicesFull:((List.range Tryz.prog.types.size).all fun t=>match Tryz.prog.underlying t with | some (.slice e)=>decide (0<Tryz.prog.cellsOf e) | _=>true)=true:=by kernel_rfl
theorem cellsBy:Tryz.prog.cellsOf 5=byteE.k:=by kernel_rfl
theorem cellsBo:Tryz.prog.cellsOf 4=boolE.k:=by kernel_rfl
theorem num_u8 {a:Int} (h:(Lit.int .u8 a).wf=true):a=(((UInt8.ofNat a.toNat).toNat:Nat):Int):=by
 simp [Lit.wf,IntKind.min,IntKind.max,IntKind.signed,IntKind.bits] at h
 simp
 omega
section
variable {H : Type} {enc : TypeId × Value → H}
set_option maxRecDepth 100000 in
theorem open_bytesT {W:World} {base:Nat} {v:Value} {d:DataW H} {ps:List MemPlace} (hval:Value.okWide Tryz.prog W .any base 40 v) (h:DataW.Trod enc Tryz.prog W 0 (fun _=>true) true 40 v d ps) :
 ∃xs:List UInt8,Arg byteE (fmOf W) v xs:=by
 obtain ⟨xs,h,_⟩:=open_arg (E:=byteE) (fun _=>True) Tryz.underlying40 cellsBy hval h fun n cs y hlen hy=>by
  obtain ⟨a,e,_,wa⟩:=DataW.trod_int Tryz.underlying5 hy
  refine ⟨UInt8.ofNat a.toNat,?_,trivial⟩
  rw [e]
  show [Value.int .u8 a]=[Value.int .u8 (((UInt8.ofNat a.toNat).toNat:Nat):Int)]
  rw [←num_u8 wa]
 exact ⟨xs,h⟩
set_option maxRecDepth 100000 in
theorem open_bitsT {W:World} {base:Nat} {v:Value} {d:DataW H} {ps:List MemPlace} (hval:Value.okWide Tryz.prog W .any base 41 v) (h:DataW.Trod enc Tryz.prog W 0 (fun _=>true) true 41 v d ps) :
 ∃xs:List Bool,Arg boolE (fmOf W) v xs:=by
 obtain ⟨xs,h,_⟩:=open_arg (E:=boolE) (fun _=>True) Tryz.underlying41 cellsBo hval h fun n cs y hlen hy=>by
  obtain ⟨b,e,_⟩:=DataW.trod_bool Tryz.underlying4 hy
  exact ⟨b,e,trivial⟩
 exact ⟨xs,h⟩
end
theorem door_met (os:Os) (args:Array Value):laidMetH Tryz.prog laidL ((World.doorLaid Tryz.prog 87 os).forCall (fun _ _=>0) ⟨#[],args,[]⟩).memory :=
 laidMetH_of_parts3 (fuel:=8) (laidMet_of_run' 8 (by kernel_rfl) (by kernel_rfl)) (by kernel_rfl) (by kernel_rfl)
end Go.Proofs.YtkpiakgmkpbikaaGreatDoor
