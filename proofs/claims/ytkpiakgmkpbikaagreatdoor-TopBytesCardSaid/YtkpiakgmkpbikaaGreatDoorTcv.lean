/- Proved here: steps of the proof (Tcq Tcr Tcs Tct Tcu Tcv). -/
import Derived.Test.YtkpiakgmkpbikaaGreatDoorTcp
import Derived.Test.YtkpiakgmkpbikaaGreatDoorRows
import Derived.WalkKit
import Derived.ProofKit
import Derived.LaidMore
import Derived.WideKeyElems2
import Derived.Stop.LaidErr
import Derived.Stop.Joined
import Derived.Deep.Strs
set_option linter.unusedVariables false
namespace Go.Proofs.YtkpiakgmkpbikaaGreatDoor
open ED (Eg egV egC edgeE InE grV)
abbrev CT:Cx:=ctxC 10 15 20 43 10000
theorem CT_ok:CT.Ok:=ctxC_ok (by decide) (by decide)
theorem CT_nms:NmsOk CT:=ctxC_nms (by decide)
section
variable {F : Fm} {s : Hl} {pb db eb : Nat} {D : Dk} {bs : List UInt8} {pd pk : Option Addr} {cd nk ck : Nat} {M : Int} {q : Prg}
theorem ingest_bytes (hL:Laid F) (ha:Arg byteE F (.slice pd bs.length cd) bs) (hl:bs.length≤500) {sh:Nat} (h1:1≤sh) (h2:sh≤20) {n a e:Nat} {es:List Eg} (hd:ED.decG bs=(n,es,a,e)) (hE:Eng CT ⟨0,0⟩ n sh es 0 D ma0 false false) (hD:DiskAt db D s) (harm:D.armed=0) :
 Spec Tryz.prog 9 #[.pointer (some ⟨pb,0,none⟩),spV 2 (sh:Int) M q (.slice pd bs.length cd) (.slice pk nk ck)] F ((pb,plO 0 db (.pointer (some ⟨eb,0,none⟩)) ((3:Nat):Int))::(eb,enO db ((3:Nat):Int) ma0 false false)::s) fun v s'=>∃D' m2 is2 g,v=anV (e:Int) (a:Int) 0 false ⟨0,0⟩∧s'=(pb,plO 0 db (.pointer (some ⟨eb,0,none⟩)) ((3:Nat):Int))::(eb,enO db ((3:Nat):Int) m2 is2 false)::g∧DiskAt db D' g∧Eng CT ⟨0,0⟩ n sh es 0 D' m2 is2 false∧D'.armed=0∧is2=((e:Int)==0)∧(if is2=true then m2.step else -1) = -1:=by
 by_cases he:e=0
 · subst he
   obtain ⟨rfl,hn,hes,hrg,hin⟩:=ED.dec_good hd
   have hes41:es.length≤41:=by omega
   have hnc:=nc_mono (B:=3) hes41
   have h14:nc 3 41=14:=by decide
   have hP:IngP CT n sh 3 43 es:=ingP_ctx h1 (by omega) h2 hrg hin (by omega) (by decide) (by decide) (by omega) (by decide)
   refine (ingest_any hL hP ha (by omega) hd CT_ok hE hD).mono ?_
   rintro v s' ⟨e,D',m2,is2,dd2,g,hv,hs,hD',hE',_,hq2,hq3⟩
   obtain ⟨ha2,rfl,rfl,he0⟩:=hq3 harm rfl
   obtain ⟨rfl,_,rfl⟩:=(hq2 rfl rfl).resolve_right (fun h=>by cases h.2)
   exact ⟨D',_,true,g,hv,hs,hD',hE',ha2,rfl,rfl⟩
 · refine (Spec.frame (h1:=(pb,plO 0 db (.pointer (some ⟨eb,0,none⟩)) ((3:Nat):Int))::[(eb,enO db ((3:Nat):Int) ma0 false false)]) (rest:=s) (do_ingest_bad (hL.mono fun b o h=>Or.inr h) (ha.mono fun b o h=>Or.inr h) (by omega) hd he)).mono ?_
   rintro v s' ⟨s1,⟨hv,rfl⟩,rfl⟩
   exact ⟨D,ma0,false,s,hv,rfl,hD,hE,harm,(by rw [eq_comm,beq_eq_false_iff_ne]; omega),rfl⟩
end
section
variable {F : Fm}
set_option maxHeartbeats 8000000 in
theorem TopBytes_spec (hL:Laid F) {v0 v2:Value} {bs0:List UInt8} {ks0:List Bool} (ha:Arg byteE F v0 bs0) (hk:Arg boolE F v2 ks0) (S:Int) :
 Spec Tryz.prog 5 #[v0,.int .i64 S,v2] F [] fun v _=>v=.bool true:=by
 obtain ⟨p0,c0,rfl⟩:=ha.shape
 obtain ⟨p2,c2,rfl⟩:=hk.shape
 have hca:=ha.cap.2
 have hck:=hk.cap.2
 have ht:=ha.take (k:=min bs0.length 500) (Nat.min_le_left _ _)
 have hkt:=hk.take (k:=min ks0.length 60) (Nat.min_le_left _ _)
 obtain ⟨bs,hbs⟩:∃bs,bs=bs0.take (min bs0.length 500):=⟨_,rfl⟩
 obtain ⟨ks,hks⟩:∃ks,ks=ks0.take (min ks0.length 60):=⟨_,rfl⟩
 have hbl:min bs0.length 500=bs.length:=by rw [hbs,List.length_take]; omega
 have hkl:min ks0.length 60=ks.length:=by rw [hks,List.length_take]; omega
 rw [←hbs,hbl] at ht
 rw [←hks,hkl] at hkt
 have hb500:bs.length≤500:=by omega
 have hk60:ks.length≤60:=by omega
 obtain ⟨n,es,a,e,hd⟩:∃n es a e,ED.decG bs=(n,es,a,e):=⟨_,_,_,_,rfl⟩
 have hw0:Wz CT ⟨[],max 10000 0,0,0,0,[],false⟩:=Wz.new CT
 have hs1:1≤tcB S:=by unfold tcB; omega
 have hs2:tcB S≤20:=by unfold tcB; omega
 refine Spec.of (n:=103) (vs:=[.slice p0 bs0.length c0,.int .i64 S,.slice p2 ks0.length c2]) Tryz.func5 rfl Tryz.ntmps5 rfl ?_
 refine sj [.p] Z<|aj Z<|nl<|sj [.e,.p] Z<|Rg.callA Z Z Z (run_callF Z) (works_spec (hL.mono fun b o h=>Or.inr h)) ?_
 rintro _ s16 rfl
 refine aj Z<|nl<|sj [.p,.p,.p,.p,.p,.p] Z<|mj Z<|mj Z<|uj Z (Pv.lenS Z)<|uj Z (Pv.asI (min bs0.length 500) (Pv.min rfl rfl) (by omega))<|uj Z (Pv.slTo (min bs0.length 500) rfl rfl (by omega)) ?_
 simp only [hbl]
 refine aj Z<|nl<|sj [.p,.p,.p,.p,.p,.p] Z<|mj Z<|mj Z<|uj Z (Pv.lenS Z)<|uj Z (Pv.asI (min ks0.length 60) (Pv.min rfl rfl) (by omega))<|uj Z (Pv.slTo (min ks0.length 60) rfl rfl (by omega)) ?_
 simp only [hkl]
 refine aj Z<|nl<|sj [.p,.p,.p,.p,.p] Z<|mj Z<|uj Z (Pv.and rfl rfl ⟨by decide,by decide⟩)<|uj Z (Pv.remN (andN S 65535) 20 rfl rfl (by decide))<|uj Z (Pv.asI (tcB S) (Pv.add rfl rfl (by omega)) (by unfold tcB; omega))<|aj Z<|nl<|sj [.e,.p] Z<|Rg.callA Z Z Z (run_callF Z) (new_player 10000 ((3:Nat):Int)) ?_
 rintro _ _ ⟨pb,db,s2,rfl,rfl,hD0⟩
 refine aj Z<|nl<|wj<|sj [.p,.p] Z<|mj Z<|uj Z (Pv.eqlNil Z Z)<|nl<|cj Z (fun h33=>absurd h33 (by simp)) (fun h33 => ?_)
 refine kj<|sj [.p,.e,.p,.p,.p,.p,.e,.e,.p,.p] Z<|mj Z<|Rg.callA Z Z Z (run_callF rfl) (ED.rdecode_spec (ht.mono fun b o h=>Or.inr h) (by omega)) ?_
 rw [hd]
 rintro _ s36 ⟨u36,rfl,own36⟩
 obtain ⟨p36,c36,rfl⟩:=own36.shape
 refine mj Z<|xj Z Z<|xj Z Z<|xj Z Z<|Rg.alloc Z Z Z Z (fun b9 => ?_)
 refine Rg.storeA (us:=[.int .i64 (n:Int),.slice p36 es.length c36]) Z Z Z Z Z Z Z Z<|aj Z<|aj Z<|nl<|sj [.p,.p,.e] Z<|mj Z<|uj Z (Pv.build (c:=#[.int .i64 1,.int .i64 0,.int .i64 0,.int .i64 0,.int .u32 ((0:Nat):Int),.slice none 0 0,.slice none 0 0]) rfl (by kernel_rfl))<|Rg.callH Z Z Z (run_callF rfl) (fun F' hF'=>open_none (F:=F') (p:=⟨0,0⟩) (n:=n) (sh:=tcB S) (es:=es) (d:=0) (B:=3) (C:=CT) (q:=⟨0,0⟩) (N:=0) (M:=0) (pd:=none) (nd:=0) (cd:=0) (pk:=none) (nk:=0) (ck:=0) (ep:=.pointer none) (pb:=pb) (hL.mono fun b o h=>hF' b o (Or.inr h)) CT_nms (by decide) (by omega) (by decide) CT_ok ⟨rfl,rfl⟩ hD0 hw0 rfl) rfl ?_
 rintro _ _ ⟨eb,g,D1,rfl,rfl,hD1,hE1,ha1⟩
 refine nl<|sj [.p,.p,.p,.p,.e,.e,.e] Z<|mj Z<|mj Z<|mj Z<|uj Z (Pv.build (c:=#[.int .i64 2,.int .i64 (tcB S:Int),.int .i64 0,.int .i64 0,.int .u32 ((0:Nat):Int),.slice p0 bs.length c0,.slice none 0 0]) rfl (by kernel_rfl))<|Rg.callH Z Z Z (run_callF Z) (fun F' hF'=>ingest_bytes (F:=F') (q:=⟨0,0⟩) (M:=0) (pk:=none) (nk:=0) (ck:=0) (eb:=eb) (pb:=pb) (hL.mono fun b o h=>hF' b o (Or.inr h)) (ht.mono fun b o h=>hF' b o (Or.inr h)) hb500 hs1 hs2 hd hE1 hD1 ha1) Z ?_
 rintro _ _ ⟨D2,m2,is2,g2,rfl,rfl,hD2,hE2,ha2,his2,hst2⟩
 refine Rg.alloc Z Z Z Z (fun b12 => ?_)
 refine Rg.storeA (us:=anC (e:Int) (a:Int) 0 false ⟨0,0⟩) Z Z Z Z Z Z Z Z<|nl<|sj [.p,.p,.e,.e,.e] Z<|mj Z<|uj Z (Pv.build (c:=#[.int .i64 5,.int .i64 0,.int .i64 0,.int .i64 0,.int .u32 ((0:Nat):Int),.slice none 0 0,.slice none 0 0]) rfl (by kernel_rfl))<|Rg.callH Z Z Z (run_callF Z) (fun F' hF'=>status_any (F:=F') (s:=g2) (m:=m2) (is:=is2) (dd:=false) (q:=⟨0,0⟩) (N:=0) (M:=0) (pd:=none) (nd:=0) (cd:=0) (pk:=none) (nk:=0) (ck:=0) (eb:=eb) (pb:=pb) (db:=db) (Bi:=((3:Nat):Int)) (hL.mono fun b o h=>hF' b o (Or.inr h))) Z ?_
 rintro _ _ ⟨rfl,rfl⟩
 rw [hst2]
 generalize (if is2=true then m2.p else ⟨0,0⟩)=q2
 refine Rg.alloc Z Z Z Z (fun b13 => ?_)
 refine Rg.storeA (us:=anC 0 (-1) 0 is2 q2) Z Z Z Z Z Z Z Z<|nl<|sj [.p,.p,.p,.e] Z<|mj Z<|mj Z<|uj Z (Pv.build (c:=#[.int .i64 6,.int .i64 0,.int .i64 0,.int .i64 0,.int .u32 ((0:Nat):Int),.slice none 0 0,.slice p2 ks.length c2]) rfl (by kernel_rfl))<|Rg.callH Z Z Z (run_callF rfl) (fun F' hF'=>crash_any (F:=F') (p:=⟨0,0⟩) (n:=n) (sh:=tcB S) (es:=es) (d:=0) (mo:=if is2=true then some m2 else none) (C:=CT) (q:=⟨0,0⟩) (N:=0) (M:=0) (pd:=none) (nd:=0) (cd:=0) (ep:=.pointer (some ⟨eb,0,none⟩)) (B:=3) (pb:=pb) CT_ok (by decide) (hkt.mono fun b o h=>hF' b o (Or.inr h)) hE2.wz hE2.rn hD2) rfl ?_
 obtain ⟨mo,hmo⟩:∃mo,mo=if is2=true then some m2 else none:=⟨_,rfl⟩
 rw [←hmo]
 have hmo1:mo.isSome=is2:=by rw [hmo]; cases is2<;>rfl
 have hmo2:(if mo.isSome=true then (mo.getD ma0).step else -1) = -1:=by
  rw [hmo]
  revert hst2
  clear his2 hE2 hmo hmo1
  cases is2
  · exact fun _=>rfl
  · exact fun h=>h
 rintro _ _ ⟨g3,D3,rfl,rfl,hD3,hw3,hR3,ha3⟩
 refine nl<|sj [.p,.p,.e,.e,.e] Z<|mj Z<|uj Z (Pv.build (c:=#[.int .i64 1,.int .i64 0,.int .i64 0,.int .i64 0,.int .u32 ((0:Nat):Int),.slice none 0 0,.slice none 0 0]) rfl (by kernel_rfl))<|Rg.callH Z Z Z (run_callF rfl) (fun F' hF'=>open_any (F:=F') (q:=⟨0,0⟩) (N:=0) (M:=0) (pd:=none) (nd:=0) (cd:=0) (pk:=none) (nk:=0) (ck:=0) (ep:=.pointer (some ⟨eb,0,none⟩)) (B:=3) (pb:=pb) (hL.mono fun b o h=>hF' b o (Or.inr h)) CT_nms (by decide) (by omega) (by decide) CT_ok hR3 hD3 hw3) rfl ?_
 rintro _ _ ⟨e4,ep4,s4,g4,D4,rfl,rfl,hD4,hO4⟩
 obtain ⟨rfl,⟨eb4,rfl,rfl⟩,hE4,ha4⟩:=hO4.resolve_right (fun h=>h.2.2.1 (ha3 ha2))
 rw [List.singleton_append]
 refine Rg.alloc Z Z Z Z (fun b14 => ?_)
 refine Rg.storeA (us:=anC 0 0 0 false ⟨0,0⟩) Z Z Z Z Z Z Z Z<|nl<|sj [.p,.p,.e,.e,.e] Z<|mj Z<|uj Z (Pv.build (c:=#[.int .i64 5,.int .i64 0,.int .i64 0,.int .i64 0,.int .u32 ((0:Nat):Int),.slice none 0 0,.slice none 0 0]) rfl (by kernel_rfl))<|Rg.callH Z Z Z (run_callF Z) (fun F' hF'=>status_any (F:=F') (s:=g4) (m:=mo.getD ma0) (is:=mo.isSome) (dd:=false) (q:=⟨0,0⟩) (N:=0) (M:=0) (pd:=none) (nd:=0) (cd:=0) (pk:=none) (nk:=0) (ck:=0) (eb:=eb4) (pb:=pb) (db:=db) (Bi:=((3:Nat):Int)) (hL.mono fun b o h=>hF' b o (Or.inr h))) Z ?_
 rintro _ _ ⟨rfl,rfl⟩
 rw [hmo2]
 generalize (if mo.isSome=true then (mo.getD ma0).p else ⟨0,0⟩)=q4
 refine Rg.alloc Z Z Z Z (fun b15 => ?_)
 refine Rg.storeA (us:=anC 0 (-1) 0 mo.isSome q4) Z Z Z Z Z Z Z Z<|nl<|sj [.p,.p,.p,.r,.p,.p,.p,.p,.p,.r,.p,.p,.p,.p,.p,.r,.p,.p,.p,.p,.p,.p,.r,.p,.p,.p,.p,.r,.p,.p,.p,.p,.r,.p,.r,.p,.p,.p,.p,.r,.p,.p,.p] Z<|mj Z<|mj Z<|Rg.split (t:=62) rfl (fun h62 => ?_) (fun h62=>absurd h62 (by decide))
 refine fj Z<|lj Z Z<|mj Z<|uj Z (Pv.eql Z Z)<|qj Z Z<|mj Z ?_
 refine Rg.split (t:=68) rfl (fun h68 => ?_) (fun h68=>absurd h68 (by simp))
 refine fj Z<|lj Z Z<|mj Z<|uj Z (Pv.eql Z Z)<|qj Z Z<|mj Z ?_
 refine Rg.split (t:=74) rfl (fun h74 => ?_) (fun h74=>absurd h74 (by simp))
 refine fj Z<|lj Z Z<|mj Z<|uj Z (Pv.eql Z Z)<|uj Z (Pv.eqlB Z Z)<|qj Z Z<|mj Z ?_
 refine Rg.split (t:=81) rfl (fun h81 => ?_) (fun h81=>absurd h81 (by simp [his2]))
 refine fj Z<|lj Z Z<|uj Z (Pv.eql Z Z)<|qj Z Z<|mj Z ?_
 refine Rg.split (t:=86) rfl (fun h86 => ?_) (fun h86=>absurd h86 (by decide))
 refine fj Z<|lj Z Z<|uj Z (Pv.eql Z Z)<|qj Z Z<|mj Z ?_
 refine Rg.split (t:=91) rfl (fun h91 => ?_) (fun h91=>absurd h91 (by decide))
 refine fj Z<|lj Z Z<|fj Z<|lj Z Z<|uj Z (Pv.eqlB Z Z)<|qj Z Z<|mj Z ?_
 refine Rg.split (t:=98) rfl (fun h98 => ?_) (fun h98=>absurd h98 (by simp [hmo1]))
 refine fj Z<|lj Z Z<|uj Z (Pv.eql Z Z)<|qj Z Z<|aj Z<|nl<|Vc.ret (Vc.rets Z (.cons (.tmp Z) (.nil)) ?_)
 rfl
end
end Go.Proofs.YtkpiakgmkpbikaaGreatDoor
namespace Go.Proofs.YtkpiakgmkpbikaaGreatDoor
end Go.Proofs.YtkpiakgmkpbikaaGreatDoor
namespace Go.Proofs.YtkpiakgmkpbikaaGreatDoor
open ED (Eg egV egC edgeE InE grV)
section
variable {F : Fm}
end
end Go.Proofs.YtkpiakgmkpbikaaGreatDoor
namespace Go.Proofs.YtkpiakgmkpbikaaGreatDoor
open ED (Eg egV egC edgeE InE grV)
section
variable {F : Fm}
end
end Go.Proofs.YtkpiakgmkpbikaaGreatDoor
namespace Go.Proofs.YtkpiakgmkpbikaaGreatDoor
open Go.ChangeShapes Go.WideShapes Go.ChangeAt Go.RowKit
abbrev laidL : List (String × DataW Unit) := [("math/bits.deBruijn32tab", Rows.laid_math_bits_deBruijn32tab), ("math/bits.deBruijn64tab", Rows.laid_math_bits_deBruijn64tab), ("internal/strconv.uint64pow10", Rows.laid_internal_strconv_uint64pow10), ("strconv.ErrRange", Rows.laid_strconv_ErrRange), ("strconv.ErrSyntax", Rows.laid_strconv_ErrSyntax), ("cartage/script.calls", Rows.laid_cartage_script_calls)]
theorem var_block {W:World} {name:String} {g:Nat} {cs:Array Value} (hg:Tryz.prog.globalNamed name=some g) (h:W.var? Tryz.prog name=some cs):∃T z,W.heap[g]? = some (.cells cs T z):=by
 unfold World.var? at h
 rw [hg] at h
 simp only [Option.bind_some] at h
 split at h
 · rename_i c T z hb
   cases h
   exact ⟨T,z,hb⟩
 · cases h
theorem iface_of_trod {H:Type} {enc:TypeId×Value→H} {W:World} {sp:Nat→Bool} {held:Bool} {fuel:Nat} {t:TypeId} {ms:Array (String×TypeId)} {cs:List Value} {nm:String} {d:DataW H} {p:List MemPlace} (hi:Tryz.prog.underlying t=some (.interface ms)) (h:DataW.trod enc Tryz.prog W 0 sp held fuel t cs=some (.iface nm d,p)):∃u v,cs=[.iface u v]:=by
 cases fuel with
 | zero=>simp [DataW.trod] at h
 | succ n =>
  rw [DataW.trod_step] at h
  unfold DataW.trodStep at h
  rw [hi] at h
  split at h<;>simp_all
abbrev nmC (c:UInt8):List UInt8:=[99,97,114,116,97,103,101,47,115,99,114,105,112,116,46,99,97,108,108,115,36,c]
abbrev tabT:List (Lit×DataW (List UInt8)):=[(.int .i64 2,.held (nmC 49)),(.int .i64 3,.held (nmC 50)),(.int .i64 4,.held (nmC 51)),(.int .i64 5,.held (nmC 52))]
def nOf:Value→Int
 | .int _ n=>n
 | _=>0
theorem key_int {k:Lit} {v:Value} (h:keyOf Tryz.prog 3 v=some k):∃n:Int,v=.int .i64 n∧k=.int .i64 n:=by
 have hu:Tryz.prog.underlying 3=some (.int .i64):=Tryz.underlying3
 unfold keyOf at h
 rw [hu] at h
 simp only at h
 unfold mapKey at h
 rw [hu] at h
 split at h<;>simp_all
theorem func_cells {v:Value} {b:UInt8} {r:List UInt8} {q:List MemPlace} {W:World} {fuel:Nat} {f0:FuncId}
 (hone:((List.range Tryz.prog.funcs.size).filter fun f=>(Tryz.prog.funcs[f]?).any (·.name.toUTF8.data.toList==b::r))=[f0])
 (h:WideElems.elemAt (funcToken Tryz.prog) Tryz.prog W 0 (fun _=>true) true fuel 74 v=some (.held (b::r),q)):v=.func (.func f0) #[] #[]:=by
 unfold WideElems.elemAt at h
 split at h
 · rename_i hfm
   have hc:v.cells.toList=[v]:=by
    cases v<;>first | rfl | (simp [Value.formed,Tryz.underlying74] at hfm)
   rw [hc] at h
   exact func_of_trod Tryz.underlying74 hone h
 · cases h
set_option maxRecDepth 100000 in
theorem table_of {W:World} (h:laidMetH Tryz.prog laidL W):∃T z mb ms clock,W.heap[0]? = some (.cells [Value.map (some mb)].toArray T z)∧W.heap[mb]? = some (mapO kI ms clock)∧(ms.map (·.k)).Nodup ∧
 (findM ms 2).map (·.v)=some (.func (.func 175) #[] #[])∧(findM ms 3).map (·.v)=some (.func (.func 177) #[] #[])∧(findM ms 4).map (·.v)=some (.func (.func 179) #[] #[])∧(findM ms 5).map (·.v)=some (.func (.func 181) #[] #[]):=by
 obtain ⟨g, t, cs, fuel, p, hg, ht, hv, hd⟩ := h.funcs (n := "cartage/script.calls") (by simp [laidL, Rows.laid_cartage_script_calls]; rfl)
 obtain rfl := Option.some.inj ((show Tryz.prog.globalNamed "cartage/script.calls" = some 0 by kernel_rfl).symm.trans hg)
 obtain rfl:=Option.some.inj ((show (Tryz.prog.globals[0]?).map (·.type)=some 75 by kernel_rfl).symm.trans ht)
 obtain ⟨T,z,hb0⟩:=var_block hg hv
 have hd':DataW.trod (funcToken Tryz.prog) Tryz.prog W 0 (fun _=>true) true fuel 75 cs.toList=some (.map tabT,p):=hd
 have hmt:Tryz.prog.underlying 75=some (.map 3 74):=Tryz.underlying75
 rcases WideElems.open_map hmt hd' with ⟨_,hx⟩ | ⟨b,es,clock,n,_,hcs,hb,_,hF,hx⟩
 · cases hx
 · simp only [Prod.mk.injEq,DataW.map.injEq] at hx
   have hperm:=sorted_perm (es.toList.map (WideElems.rg Tryz.prog 3 (WideElems.elemAt (funcToken Tryz.prog) Tryz.prog W 0 (fun _=>true) true n 74)))
   rw [←hx.1] at hperm
   obtain ⟨ms,hms⟩:∃ms:List (Me Int),ms=es.toList.map fun x=>⟨nOf x.key,x.val,x.born⟩:=⟨_,rfl⟩
   have hkey:∀x∈es.toList,x.key=.int .i64 (nOf x.key):=fun x hx=>by
    obtain ⟨y,hy⟩:=hF.reads x hx
    obtain ⟨m,e,_⟩:=key_int (WideElems.rd_key hy)
    rw [e]; rfl
   have hes:es.toList=ms.map (ent kI):=by
    rw [hms,List.map_map]
    refine (List.map_id es.toList).symm.trans (List.map_congr_left fun x hx => ?_)
    show x=(⟨.int .i64 (nOf x.key),x.val,x.born⟩:MapEntry)
    rw [←hkey x hx]
   have hnd:(ms.map (·.k)).Nodup:=by
    have hpw:=hF.stamped.2.2
    have e:es.toList.map (·.key)=(ms.map (·.k)).map kI:=by rw [hes,List.map_map,List.map_map]; rfl
    rw [e] at hpw
    exact (List.pairwise_map.1 hpw).imp fun h e=>h (by rw [e])
   have key:∀(c:UInt8) (m:Int) (f0:FuncId),((Lit.int .i64 m,DataW.held (nmC c)):Lit×DataW (List UInt8))∈tabT→((List.range Tryz.prog.funcs.size).filter fun f=>(Tryz.prog.funcs[f]?).any (·.name.toUTF8.data.toList==nmC c))=[f0]→(findM ms m).map (·.v)=some (.func (.func f0) #[] #[]):=fun c m f0 hin hone=>by
    obtain ⟨x,hx,hrx⟩:=List.mem_map.1 (hperm.mem_iff.1 hin)
    obtain ⟨y,hy⟩:=hF.reads x hx
    rw [WideElems.rg_of hy] at hrx
    subst hrx
    obtain ⟨m',e1,e2⟩:=key_int (WideElems.rd_key hy)
    simp only [Lit.int.injEq,true_and] at e2
    subst e2
    unfold WideElems.rd at hy
    simp only [Option.bind_eq_some_iff,Option.map_eq_some_iff] at hy
    obtain ⟨kk,_,⟨d,q⟩,hel,hkd⟩:=hy
    simp only [Prod.mk.injEq] at hkd
    obtain ⟨_,rfl⟩:=hkd
    have hvx:=func_cells hone hel
    have hmem:(⟨m,x.val,x.born⟩:Me Int)∈ms:=by
     rw [hms]
     exact List.mem_map.2 ⟨x,hx,by rw [e1]; rfl⟩
    cases hfd:findM ms m with
    | none=>exact absurd rfl (findM_none.1 hfd _ hmem)
    | some m2 =>
     have h1:=List.find?_some hfd
     simp only [decide_eq_true_eq] at h1
     have h2:=List.mem_of_find?_eq_some hfd
     have:m2=⟨m,x.val,x.born⟩:=by
      obtain ⟨i,hi,ei⟩:=List.mem_iff_getElem.1 h2
      obtain ⟨j,hj,ej⟩:=List.mem_iff_getElem.1 hmem
      have hij:i=j:=(List.getElem_inj (xs:=ms.map (·.k)) (h₀:=by simpa using hi) (h₁:=by simpa using hj) hnd).1 (by simp [ei,ej,h1])
      subst hij
      rw [←ei,ej]
     rw [this]
     show some x.val=_
     rw [hvx]
   refine ⟨T,z,b,ms,clock,?_,?_,hnd,key 49 2 _ (by simp [tabT]) (by kernel_rfl),key 50 3 _ (by simp [tabT]) (by kernel_rfl),key 51 4 _ (by simp [tabT]) (by kernel_rfl),key 52 5 _ (by simp [tabT]) (by kernel_rfl)⟩
   · rw [hb0]
     congr 2
     rw [←hcs]
   · rw [hb]
     unfold mapO
     rw [←hes]
set_option maxRecDepth 100000 in
theorem laid_of {W:World} (h:laidMetH Tryz.prog laidL W):Laid (fmOf W):=by
 obtain ⟨T,z,mb,ms,clock,h0,hm,hnd,k2,k3,k4,k5⟩:=table_of h
 have h' : laidMet Tryz.prog [("math/bits.deBruijn32tab", Rows.laid_math_bits_deBruijn32tab), ("math/bits.deBruijn64tab", Rows.laid_math_bits_deBruijn64tab), ("internal/strconv.uint64pow10", Rows.laid_internal_strconv_uint64pow10), ("strconv.ErrRange", Rows.laid_strconv_ErrRange), ("strconv.ErrSyntax", Rows.laid_strconv_ErrSyntax)] W ∧ handlesMet Tryz.prog [("cartage/script.calls", Rows.laid_cartage_script_calls)] W := h
 obtain ⟨ps,⟨g1,t1,cs1,f1,p1,q1,hg1,ht1,hv1,hd1,_,_⟩,_,_⟩:=h'.1.tail.tail.tail.tail
 obtain rfl := Option.some.inj ((show Tryz.prog.globalNamed "strconv.ErrSyntax" = some 1 by kernel_rfl).symm.trans hg1)
 obtain rfl:=Option.some.inj ((show (Tryz.prog.globals[1]?).map (·.type)=some 161 by kernel_rfl).symm.trans ht1)
 obtain ⟨T1,z1,hb1⟩:=var_block hg1 hv1
 obtain ⟨u,v,hcs1⟩:=iface_of_trod (TyIfc.under (P:=Tryz.prog) (t:=161)) hd1
 have hb1':W.heap[1]? = some (.cells [Value.iface u v].toArray T1 z1):=by
  rw [hb1]
  congr 2
  rw [←hcs1]
 exact ⟨⟨T,z,mb,ms,clock,h0,hm,hnd,k2⟩,⟨T,z,mb,ms,clock,h0,hm,hnd,k3⟩,⟨T,z,mb,ms,clock,h0,hm,hnd,k4⟩,⟨T,z,mb,ms,clock,h0,hm,hnd,k5⟩,atoiN_of (F:=fmOf W) hb1'⟩
end Go.Proofs.YtkpiakgmkpbikaaGreatDoor
namespace Go.Proofs.YtkpiakgmkpbikaaGreatDoor
open Go.ChangeShapes Go.WideShapes Go.ChangeAt Go.RowKit
open ED (Eg egV egC edgeE InE grV)
theorem ownKnob_none:ownKnob Tryz.prog.godebug=none:=by kernel_rfl
theorem laidOut:laidOutB Tryz.prog=true:=by kernel_rfl
theorem rowed:mapsRowed Tryz.prog=true:=by kernel_rfl
theorem slicesFull:((List.range Tryz.prog.types.size).all fun t=>match Tryz.prog.underlying t with | some (.slice e)=>decide (0<Tryz.prog.cellsOf e) | _=>true)=true:=by kernel_rfl
theorem cellsBy:Tryz.prog.cellsOf 5=byteE.k:=by kernel_rfl
theorem cellsBo:Tryz.prog.cellsOf 4=boolE.k:=by kernel_rfl
theorem num_u8 {a:Int} (h:(Lit.int .u8 a).wf=true):a=(((UInt8.ofNat a.toNat).toNat:Nat):Int):=by
 simp [Lit.wf,IntKind.min,IntKind.max,IntKind.signed,IntKind.bits] at h
 simp
 omega
section
variable {H : Type} {enc : TypeId × Value → H}
set_option maxRecDepth 100000 in
theorem open_bytesT {W:World} {base:Nat} {v:Value} {d:DataW H} {ps:List MemPlace} (hval:Value.okWide Tryz.prog W .any base 40 v) (h:DataW.Trod enc Tryz.prog W 0 (fun _=>true) true 40 v d ps) :
 ∃xs:List UInt8,Arg byteE (fmOf W) v xs:=by
 obtain ⟨xs,h,_⟩:=open_arg (E:=byteE) (fun _=>True) Tryz.underlying40 cellsBy hval h fun n cs y hlen hy=>by
  obtain ⟨a,e,_,wa⟩:=DataW.trod_int Tryz.underlying5 hy
  refine ⟨UInt8.ofNat a.toNat,?_,trivial⟩
  rw [e]
  show [Value.int .u8 a]=[Value.int .u8 (((UInt8.ofNat a.toNat).toNat:Nat):Int)]
  rw [←num_u8 wa]
 exact ⟨xs,h⟩
set_option maxRecDepth 100000 in
theorem open_bitsT {W:World} {base:Nat} {v:Value} {d:DataW H} {ps:List MemPlace} (hval:Value.okWide Tryz.prog W .any base 41 v) (h:DataW.Trod enc Tryz.prog W 0 (fun _=>true) true 41 v d ps) :
 ∃xs:List Bool,Arg boolE (fmOf W) v xs:=by
 obtain ⟨xs,h,_⟩:=open_arg (E:=boolE) (fun _=>True) Tryz.underlying41 cellsBo hval h fun n cs y hlen hy=>by
  obtain ⟨b,e,_⟩:=DataW.trod_bool Tryz.underlying4 hy
  exact ⟨b,e,trivial⟩
 exact ⟨xs,h⟩
end
theorem door_met (os:Os) (args:Array Value):laidMetH Tryz.prog laidL ((World.doorLaid Tryz.prog 87 os).forCall (fun _ _=>0) ⟨#[],args,[]⟩).memory :=
 laidMetH_of_parts3 (fuel:=8) (laidMet_of_run' 8 (by kernel_rfl) (by kernel_rfl)) (by kernel_rfl) (by kernel_rfl)
end Go.Proofs.YtkpiakgmkpbikaaGreatDoor
