/- Steps of the proof. -/
import Derived.Test.YtkpiakgmkpbikaaGreatDoorTcr
import Derived.Test.YtkpiakgmkpbikaaGreatDoorRows
import Derived.WalkKit
import Derived.ProofKit
import Derived.LaidMore
import Derived.WideKeyElems2
import Derived.Stop.LaidErr
import Derived.Stop.Joined
import Derived.Deep.Strs
set_option linter.unusedVariables false
namespace Go.Proofs.YtkpiakgmkpbikaaGreatDoor
open ED (Eg egV egC edgeE InE grV)
theorem tcS_b (S:Int):1≤tcS S∧tcS S≤6:=by unfold tcS;omega
theorem tcM_b (S:Int):tcM S≤6:=by unfold tcM;omega
theorem tcB_b (S:Int):1≤tcB S∧tcB S≤20:=by unfold tcB;omega
structure RunP (p:Prg) (n most d:Nat) (es:List Eg):Prop where
 hp:p.start<4294967296
 hr:rightP p (n:Int)=true
 hn:n≤12
 hrg:ED.rightG (n:Int) es=true
 hE:∀e∈es,InE e
 hl:es.length≤15
 hm:most≤6
 ends:Ends p n es most d
theorem RunP.ing {p:Prg} {n most d:Nat} {es:List Eg} (h:RunP p n most d es) {sh B:Nat} (hs:1≤sh∧sh≤6) (hB:1≤B∧B≤20):IngP CT n sh B 43 es :=
 ingP_ctx hs.1 (by omega) (by omega) h.hrg h.hE (by have:=h.hl;omega) hB.1 (by omega) (by have:=nc_le (len:=es.length) hB.1;have:=h.hl;omega) (by decide)
theorem RunP.go {p:Prg} {n most d:Nat} {es:List Eg} (h:RunP p n most d es) {sh:Nat} (hs:1≤sh∧sh≤6):GoP CT p n sh es most d :=
 goP_ctx h.ends (by have:=h.ends.le;have:=h.hm;omega) (by have:=h.ends.le;have:=h.hm;omega) h.hp h.hr (by have:=h.hn;omega) h.hrg h.hE (by have:=h.hl;omega) h.hl hs.1 (by omega)
theorem RunP.d8 {p:Prg} {n most d:Nat} {es:List Eg} (h:RunP p n most d es):d≤6:=by have:=h.ends.le;have:=h.hm;omega
theorem RunP.hin {p:Prg} {n most d:Nat} {es:List Eg} (h:RunP p n most d es):∀j,InC (conf p n es j) n:=conf_in (by have:=h.hn;omega) (ok_of h.hrg h.hE).2
section
variable {F : Fm}
set_option maxHeartbeats 8000000 in
theorem TopSame_spec (hL:Laid F) {ve:Value} {es0:List Eg} {p:Prg} (ha:Arg edgeE F ve es0) (hE0:∀e∈es0,InE e) (hp:p.start<4294967296) (N S M Bd shs bud:Int) :
 Spec Tryz.prog 3 #[ruV p N ve S M Bd,.int .i64 shs,.int .i64 bud] F [] fun v _=>v=.bool true:=by
 obtain ⟨pe,ce,rfl⟩:=ha.shape
 obtain ⟨es,hes⟩:∃es,es=es0.take 15:=⟨_,rfl⟩
 have hl:es.length≤15:=by rw [hes];simp;omega
 have hE:∀e∈es,InE e:=fun e he=>hE0 e (by rw [hes] at he;exact List.mem_of_mem_take he)
 have hS:=tcS_b S
 have hM:=tcM_b M
 have hB:=tcB_b Bd
 have hS2:=tcS_b shs
 have hB2:=tcB_b bud
 refine Spec.of (n:=110) (vs:=[ruV p N (.slice pe es0.length ce) S M Bd,.int .i64 shs,.int .i64 bud]) Tryz.func3 rfl Tryz.ntmps3 rfl ?_
 refine sj [.e,.p] Z<|Rg.box Z Z Z Z Z (fun b3=>?_)
 refine aj Z<|nl<|sj [.e,.p] Z<|Rg.callA Z Z Z (mz Z) (works_spec (hL.mono fun b o h=>Or.inr h)) ?_
 rintro _ s18 rfl
 refine aj Z<|nl<|sj [.r,.e,.p,.p,.p,.e,.p] Z<|rj Z (Ev.as (ruV p N (.slice pe es0.length ce) S M Bd) (Ev.ldA Z Z) Z)<|Rg.callA Z Z Z (mz Z) (cut_spec (ha.mono fun b o h=>Or.inr h) hE0 hp N S M Bd) ?_
 rw [←hes]
 rintro _ s21 ⟨u,S',M',B',ok,rfl,own,hok1,hok2⟩
 obtain ⟨q,c,rfl⟩:=own.shape
 refine mj Z<|xj Z Z<|xj Z Z<|Rg.storeA (us:=ruC p N (.slice q es.length c) S' M' B') Z Z Z Z Z Z Z Z<|aj Z<|nl<|wj<|sj [.p,.p] Z<|mj Z<|uj Z (Pv.not Z)<|nl<|cj Z (fun h25=>?_) (fun h25=>?_)
 · refine sj [.p,.p] Z<|mj Z<|aj Z<|nl<|vz Z (tz Z) ?_
   rfl
 · obtain ⟨hrg,hN12,hr,rfl,rfl,rfl⟩:=hok1 (by simpa using h25)
   obtain ⟨n,rfl,hn⟩:=ED.rightG_nat hrg
   obtain ⟨d,hEn⟩:=ends_ex p n es (tcM M)
   have hR:RunP p n (tcM M) d es:=⟨hp,hr,by omega,hrg,hE,hl,hM,hEn⟩
   have hd6:=hR.d8
   have hdm:=hEn.le
   refine kj<|sj [.p,.r,.p,.r,.p,.p,.r,.p,.p,.e,.p,.p,.p,.e,.e,.p] Z<|fj Z<|rj Z (Ev.as (prV p) (Ev.ldA Z Z) Z)<|fj Z<|rj Z (Ev.as (grV (n:Int) (.slice q es.length c)) (Ev.ldA Z Z) Z)<|mj Z<|fj Z<|lj Z Z<|mj Z<|uj Z (Pv.build (c:=#[.int .i64 p.kind,.int .u32 (p.start:Int),.int .i64 (n:Int),.slice q es.length c,.int .i64 shs,.int .i64 (tcM M:Int),.int .i64 bud]) rfl (by kernel_rfl)) ?_
   refine Rg.callA Z Z Z (mz Z) (cut_spec (p:=p) (ve:=.slice q es.length c) (es0:=es) (Arg.own own frz_sb) hE hp (n:Int) shs (tcM M:Int) bud) ?_
   rw [List.take_of_length_le hl]
   rintro _ s37 ⟨u2,S2,M2,B2,ok2,rfl,own2,hok3,hok4⟩
   obtain ⟨q2,c2,rfl⟩:=own2.shape
   obtain ⟨_,_,_,rfl,rfl,rfl⟩:=hok3 (hok4 hrg hN12 hr)
   refine mj Z<|xj Z Z<|xj Z Z<|Rg.alloc Z Z Z Z (fun b9=>?_)
   refine Rg.storeA (us:=ruC p (n:Int) (.slice q2 es.length c2) (tcS shs:Int) (tcM (tcM M:Int):Int) (tcB bud:Int)) Z Z Z Z Z Z Z Z<|aj Z<|nl<|sj [.p,.r,.p,.e] Z<|fj Z<|lj Z Z<|fj Z ?_
   refine Rg.store Z Z Z Z Z Z Z Z<|nl<|sj [.r,.e,.p] Z<|rj Z (Ev.as (ruV p (n:Int) (.slice q es.length c) (tcS S:Int) (tcM M:Int) (tcB Bd:Int)) (Ev.ldA Z Z) Z)<|Rg.callA Z Z Z (mz Z) (loads_spec (C:=CT) (K:=43) (d:=d) (n:=n) (sh:=tcS S) (B:=tcB Bd) (hL.mono fun b o h=>Or.inr h) CT_nms CT_ok (by omega) (hR.ing hS hB) (Arg.own own frz_sb) hE rfl) ?_
   rintro _ _ ⟨pb,db,eb,D1,g1,rfl,rfl,hD1,hE1,ha1⟩
   refine aj Z<|nl<|sj [.r,.e,.p] Z<|rj Z (Ev.as (ruV p (n:Int) (.slice q2 es.length c2) (tcS shs:Int) (tcM M:Int) (tcB bud:Int)) (Ev.ldA Z Z) Z)<|Rg.callA Z Z Z (mz Z) (loads_spec (C:=CT) (K:=43) (d:=d) (n:=n) (sh:=tcS shs) (B:=tcB bud) (hL.mono fun b o h=>Or.inr h) CT_nms CT_ok (by omega) (hR.ing hS2 hB2) (Arg.own own2 frz_sb) hE rfl) ?_
   rintro _ _ ⟨pb2,db2,eb2,D2,g2,rfl,rfl,hD2,hE2,ha2⟩
   refine aj Z<|nl<|wj<|sj [.p,.p,.p,.p,.p,.p] Z<|mj Z<|uj Z (Pv.eqlNil Z Z)<|mj Z<|Rg.split (t:=49) rfl (fun h49=>absurd h49 (by simp)) (fun h49=>?_)
   refine mj Z<|uj Z (Pv.eqlNil Z Z)<|pj Z Z<|nl<|cj Z (fun h52=>absurd h52 (by simp)) (fun h52=>?_)
   refine kj<|sj [.p,.p,.r,.p,.r,.p,.e,.e,.e] Z<|mj Z<|fj Z<|lj Z Z<|fj Z<|rj Z (Ev.as (prV p) (Ev.ldA Z Z) Z)<|uj Z (Pv.build (c:=#[.int .i64 3,.int .i64 (tcM M:Int),.int .i64 0,.int .i64 p.kind,.int .u32 (p.start:Int),.slice none 0 0,.slice none 0 0]) rfl (by kernel_rfl)) ?_
   refine Rg.callH Z Z Z (mz Z) (fun F' hF'=>run_any (F:=F') (M:=0) (pd:=none) (nd:=0) (cd:=0) (pk:=none) (nk:=0) (ck:=0) (eb:=eb) (pb:=pb) (hL.mono fun b o h=>hF' b o (Or.inr h)) (hR.go hS) hB.1 CT_ok hE1 hD1) Z ?_
   rintro _ _ ⟨e3,z3,D3,m3,dd3,g3,rfl,rfl,hD3,hE3,hq3⟩
   obtain ⟨ha3,rfl,rfl,rfl,hst3,hmp3⟩:=hq3 ha1 rfl rfl
   refine Rg.alloc Z Z Z Z (fun b13=>?_)
   refine Rg.storeA (us:=anC 0 (d:Int) 0 false ⟨0,0⟩) Z Z Z Z Z Z Z Z<|nl<|sj [.p,.p,.r,.p,.r,.p,.e,.e,.e] Z<|mj Z<|fj Z<|lj Z Z<|fj Z<|rj Z (Ev.as (prV p) (Ev.ldA Z Z) Z)<|uj Z (Pv.build (c:=#[.int .i64 3,.int .i64 (tcM M:Int),.int .i64 0,.int .i64 p.kind,.int .u32 (p.start:Int),.slice none 0 0,.slice none 0 0]) rfl (by kernel_rfl)) ?_
   refine Rg.callH Z Z Z (mz Z) (fun F' hF'=>run_any (F:=F') (M:=0) (pd:=none) (nd:=0) (cd:=0) (pk:=none) (nk:=0) (ck:=0) (eb:=eb2) (pb:=pb2) (hL.mono fun b o h=>hF' b o (Or.inr h)) (hR.go hS2) hB2.1 CT_ok hE2 hD2) Z ?_
   rintro _ _ ⟨e4,z4,D4,m4,dd4,g4,rfl,rfl,hD4,hE4,hq4⟩
   obtain ⟨ha4,rfl,rfl,rfl,hst4,hmp4⟩:=hq4 ha2 rfl rfl
   refine Rg.alloc Z Z Z Z (fun b14=>?_)
   refine Rg.storeA (us:=anC 0 (d:Int) 0 false ⟨0,0⟩) Z Z Z Z Z Z Z Z<|nl<|wj<|sj [.p,.r,.p,.p,.p,.r,.p,.p,.p,.p,.r,.p,.r,.p,.p] Z<|fj Z<|lj Z Z<|uj Z (Pv.neq Z Z)<|mj Z ?_
   refine Rg.split (t:=70) rfl (fun h70=>absurd h70 (by decide)) (fun h70=>?_)
   refine fj Z<|lj Z Z<|uj Z (Pv.neq Z Z)<|pj Z Z<|mj Z ?_
   refine Rg.split (t:=75) rfl (fun h75=>absurd h75 (by decide)) (fun h75=>?_)
   refine fj Z<|lj Z Z<|fj Z<|lj Z Z<|uj Z (Pv.neq Z Z)<|pj Z Z<|nl<|cj Z (fun h81=>absurd h81 (by simp)) (fun h81=>?_)
   refine kj<|wj<|sj [.p] Z<|aj Z<|nl<|bj ?_
   refine Vc.loop5 (fun (v:Nat) (E1:Dk) (h1:Hl) (E2:Dk) (h2:Hl)=>v≤n∧(DiskAt db E1 h1∧Eng CT p n (tcS S) es d E1 m3 true false∧E1.armed=0)∧DiskAt db2 E2 h2∧Eng CT p n (tcS shs) es d E2 m4 true false∧E2.armed=0) (fun v E1 h1 E2 h2=>[(3,.pointer (some ⟨b3,0,none⟩)),(7,.bool true),(11,.pointer (some ⟨pb,0,none⟩)),(12,.pointer (some ⟨pb2,0,none⟩)),(13,.pointer (some ⟨b13,0,none⟩)),(15,.int .i64 (v:Int))]) (fun v E1 h1 E2 h2=>(b3,cellsO (ruC p (n:Int) (.slice q es.length c) (tcS S:Int) (tcM M:Int) (tcB Bd:Int)) 29)::(b13,cellsO (anC 0 (d:Int) 0 false ⟨0,0⟩) 38)::(pb,plO 0 db (.pointer (some ⟨eb,0,none⟩)) (tcB Bd:Int))::(eb,enO db (tcB Bd:Int) m3 true false)::(pb2,plO 0 db2 (.pointer (some ⟨eb2,0,none⟩)) (tcB bud:Int))::(eb2,enO db2 (tcB bud:Int) m4 true false)::(h1++h2)) (fun v E1 h1 E2 h2=>n-v) 0 D3 g3 D4 g4 ⟨Nat.zero_le _,⟨hD3,hE3,ha3⟩,hD4,hE4,ha4⟩ (.cons Z (.cons Z (.cons Z (.cons Z (.cons Z (.cons Z .nil)))))) pulled ?_
   rintro v E1 h1 E2 h2 ⟨hv,⟨hD5,hE5,ha5⟩,hD6,hE6,ha6⟩
   refine wj<|sj [.p,.p,.p,.r,.p] Z<|mj Z<|fj Z<|fj Z<|lj Z Z<|uj Z (Pv.lss Z Z)<|nl<|cj Z (fun h86=>?_) (fun h86=>?_)
   · have hvn:v<n:=by simp only [dt] at h86;omega
     refine kj<|wj<|bj<|sj [.p,.p,.r,.p,.p,.e,.e,.e] Z<|mj Z<|fj Z<|lj Z Z<|mj Z<|uj Z (Pv.build (c:=#[.int .i64 4,.int .i64 (d:Int),.int .i64 (v:Int),.int .i64 0,.int .u32 ((0:Nat):Int),.slice none 0 0,.slice none 0 0]) rfl (by kernel_rfl)) ?_
     refine Rg.callH Z Z Z (mz Z) (fun F' hF'=>query_any (F:=F') (q:=⟨0,0⟩) (j:=d) (v:=v) (Bi:=(tcB Bd:Int)) (eb:=eb) (pb:=pb) (pd:=none) (nd:=0) (cd:=0) (pk:=none) (nk:=0) (ck:=0) (hL.mono fun b o h=>hF' b o (Or.inr h)) (by omega) hR.hin (by omega) CT_ok hE5 ha5 (by omega) hvn hD5) rfl ?_
     rintro _ _ ⟨D7,g7,rfl,rfl,hD7,hE7,ha7⟩
     refine Rg.alloc Z Z Z Z (fun b16=>?_)
     refine Rg.storeA (us:=anC 0 0 (conf p n es d).vals[v]! (conf p n es d).live[v]! ⟨0,0⟩) Z Z Z Z Z Z Z Z<|nl<|sj [.p,.p,.r,.p,.p,.e,.e,.e] Z<|mj Z<|fj Z<|lj Z Z<|mj Z<|uj Z (Pv.build (c:=#[.int .i64 4,.int .i64 (d:Int),.int .i64 (v:Int),.int .i64 0,.int .u32 ((0:Nat):Int),.slice none 0 0,.slice none 0 0]) rfl (by kernel_rfl)) ?_
     refine Rg.callH Z Z Z (mz Z) (fun F' hF'=>query_any (F:=F') (q:=⟨0,0⟩) (j:=d) (v:=v) (Bi:=(tcB bud:Int)) (eb:=eb2) (pb:=pb2) (pd:=none) (nd:=0) (cd:=0) (pk:=none) (nk:=0) (ck:=0) (hL.mono fun b o h=>hF' b o (Or.inr h)) (by omega) hR.hin (by omega) CT_ok hE6 ha6 (by omega) hvn hD6) rfl ?_
     rintro _ _ ⟨D8,g8,rfl,rfl,hD8,hE8,ha8⟩
     refine Rg.alloc Z Z Z Z (fun b17=>?_)
     refine Rg.storeA (us:=anC 0 0 (conf p n es d).vals[v]! (conf p n es d).live[v]! ⟨0,0⟩) Z Z Z Z Z Z Z Z<|nl<|sj [.r,.r,.p,.p,.p,.r,.p,.p] Z<|rj Z (Ev.as (anV 0 0 (conf p n es d).vals[v]! (conf p n es d).live[v]! ⟨0,0⟩) (Ev.ldA Z Z) Z)<|rj Z (Ev.as (anV 0 0 (conf p n es d).vals[v]! (conf p n es d).live[v]! ⟨0,0⟩) (Ev.ldA Z Z) Z)<|uj Z (Pv.neqAn 0 0 (conf p n es d).vals[v]! (conf p n es d).live[v]! ⟨0,0⟩ Z Z)<|mj Z<|Rg.split (t:=104) rfl (fun h104=>absurd h104 (by decide)) (fun h104=>?_)
     refine fj Z<|lj Z Z<|uj Z (Pv.neq Z Z)<|pj Z Z<|nl<|cj Z (fun h108=>absurd h108 (by decide)) (fun h108=>?_)
     refine kj<|dj<|tj [.p,.p,.p] Z<|mj Z<|uj Z (Pv.asI (v+1) (Pv.add rfl rfl (by omega)) (by omega))<|aj Z<|nl ?_
     exact Vc.inv5 (v+1) D7 g7 D8 g8 ⟨⟨by omega,⟨hD7,hE7,ha7⟩,hD8,hE8,ha8⟩,by omega⟩ (.cons rfl (.cons rfl (.cons rfl (.cons rfl (.cons rfl (.cons rfl .nil)))))) pulled
   · refine Vc.exit Z<|sj [.p,.p] Z<|mj Z<|aj Z<|nl<|vz Z (tz Z) ?_
     rfl
end
end Go.Proofs.YtkpiakgmkpbikaaGreatDoor
namespace Go.Proofs.YtkpiakgmkpbikaaGreatDoor
open Go.ChangeShapes Go.WideShapes Go.ChangeAt Go.RowKit
abbrev laidL : List (String × DataW Unit) := [("math/bits.deBruijn32tab", Rows.laid_math_bits_deBruijn32tab), ("math/bits.deBruijn64tab", Rows.laid_math_bits_deBruijn64tab), ("internal/strconv.uint64pow10", Rows.laid_internal_strconv_uint64pow10), ("strconv.ErrRange", Rows.laid_strconv_ErrRange), ("strconv.ErrSyntax", Rows.laid_strconv_ErrSyntax), ("cartage/script.calls", Rows.laid_cartage_script_calls)]
theorem var_block {W:World} {name:String} {g:Nat} {cs:Array Value} (hg:Tryz.prog.globalNamed name=some g) (h:W.var? Tryz.prog name=some cs):∃T z,W.heap[g]? = some (.cells cs T z):=by
 unfold World.var? at h
 rw [hg] at h
 simp only [Option.bind_some] at h
 split at h
 · rename_i c T z hb
   cases h
   exact ⟨T,z,hb⟩
 · cases h
theorem iface_of_trod {H:Type} {enc:TypeId×Value→H} {W:World} {sp:Nat→Bool} {held:Bool} {fuel:Nat} {t:TypeId} {ms:Array (String×TypeId)} {cs:List Value} {nm:String} {d:DataW H} {p:List MemPlace} (hi:Tryz.prog.underlying t=some (.interface ms)) (h:DataW.trod enc Tryz.prog W 0 sp held fuel t cs=some (.iface nm d,p)):∃u v,cs=[.iface u v]:=by
 cases fuel with
 | zero=>simp [DataW.trod] at h
 | succ n =>
  rw [DataW.trod_step] at h
  unfold DataW.trodStep at h
  rw [hi] at h
  split at h<;>simp_all
abbrev nmC (c:UInt8):List UInt8:=[99,97,114,116,97,103,101,47,115,99,114,105,112,116,46,99,97,108,108,115,36,c]
abbrev tabT:List (Lit×DataW (List UInt8)):=[(.int .i64 2,.held (nmC 49)),(.int .i64 3,.held (nmC 50)),(.int .i64 4,.held (nmC 51)),(.int .i64 5,.held (nmC 52))]
def nOf:Value→Int
 | .int _ n=>n
 | _=>0
theorem key_int {k:Lit} {v:Value} (h:keyOf Tryz.prog 3 v=some k):∃n:Int,v=.int .i64 n∧k=.int .i64 n:=by
 have hu:Tryz.prog.underlying 3=some (.int .i64):=Tryz.underlying3
 unfold keyOf at h
 rw [hu] at h
 simp only at h
 unfold mapKey at h
 rw [hu] at h
 split at h<;>simp_all
theorem func_cells {v:Value} {b:UInt8} {r:List UInt8} {q:List MemPlace} {W:World} {fuel:Nat} {f0:FuncId}
 (hone:((List.range Tryz.prog.funcs.size).filter fun f=>(Tryz.prog.funcs[f]?).any (·.name.toUTF8.data.toList==b::r))=[f0])
 (h:WideElems.elemAt (funcToken Tryz.prog) Tryz.prog W 0 (fun _=>true) true fuel 74 v=some (.held (b::r),q)):v=.func (.func f0) #[] #[]:=by
 unfold WideElems.elemAt at h
 split at h
 · rename_i hfm
   have hc:v.cells.toList=[v]:=by
    cases v<;>first | rfl | (simp [Value.formed,Tryz.underlying74] at hfm)
   rw [hc] at h
   exact func_of_trod Tryz.underlying74 hone h
 · cases h
set_option maxRecDepth 100000 in
theorem table_of {W:World} (h:laidMetH Tryz.prog laidL W):∃T z mb ms clock,W.heap[0]? = some (.cells [Value.map (some mb)].toArray T z)∧W.heap[mb]? = some (mapO kI ms clock)∧(ms.map (·.k)).Nodup ∧
 (findM ms 2).map (·.v)=some (.func (.func 175) #[] #[])∧(findM ms 3).map (·.v)=some (.func (.func 177) #[] #[])∧(findM ms 4).map (·.v)=some (.func (.func 179) #[] #[])∧(findM ms 5).map (·.v)=some (.func (.func 181) #[] #[]):=by
 obtain ⟨g, t, cs, fuel, p, hg, ht, hv, hd⟩ := h.funcs (n := "cartage/script.calls") (by simp [laidL, Rows.laid_cartage_script_calls]; rfl)
 obtain rfl := Option.some.inj ((show Tryz.prog.globalNamed "cartage/script.calls" = some 0 by kernel_rfl).symm.trans hg)
 obtain rfl:=Option.some.inj ((show (Tryz.prog.globals[0]?).map (·.type)=some 75 by kernel_rfl).symm.trans ht)
 obtain ⟨T,z,hb0⟩:=var_block hg hv
 have hd':DataW.trod (funcToken Tryz.prog) Tryz.prog W 0 (fun _=>true) true fuel 75 cs.toList=some (.map tabT,p):=hd
 have hmt:Tryz.prog.underlying 75=some (.map 3 74):=Tryz.underlying75
 rcases WideElems.open_map hmt hd' with ⟨_,hx⟩ | ⟨b,es,clock,n,_,hcs,hb,_,hF,hx⟩
 · cases hx
 · simp only [Prod.mk.injEq,DataW.map.injEq] at hx
   have hperm:=sorted_perm (es.toList.map (WideElems.rg Tryz.prog 3 (WideElems.elemAt (funcToken Tryz.prog) Tryz.prog W 0 (fun _=>true) true n 74)))
   rw [←hx.1] at hperm
   obtain ⟨ms,hms⟩:∃ms:List (Me Int),ms=es.toList.map fun x=>⟨nOf x.key,x.val,x.born⟩:=⟨_,rfl⟩
   have hkey:∀x∈es.toList,x.key=.int .i64 (nOf x.key):=fun x hx=>by
    obtain ⟨y,hy⟩:=hF.reads x hx
    obtain ⟨m,e,_⟩:=key_int (WideElems.rd_key hy)
    rw [e];rfl
   have hes:es.toList=ms.map (ent kI):=by
    rw [hms,List.map_map]
    refine (List.map_id es.toList).symm.trans (List.map_congr_left fun x hx=>?_)
    show x=(⟨.int .i64 (nOf x.key),x.val,x.born⟩:MapEntry)
    rw [←hkey x hx]
   have hnd:(ms.map (·.k)).Nodup:=by
    have hpw:=hF.stamped.2.2
    have e:es.toList.map (·.key)=(ms.map (·.k)).map kI:=by rw [hes,List.map_map,List.map_map];rfl
    rw [e] at hpw
    exact (List.pairwise_map.1 hpw).imp fun h e=>h (by rw [e])
   have key:∀(c:UInt8) (m:Int) (f0:FuncId),((Lit.int .i64 m,DataW.held (nmC c)):Lit×DataW (List UInt8))∈tabT→((List.range Tryz.prog.funcs.size).filter fun f=>(Tryz.prog.funcs[f]?).any (·.name.toUTF8.data.toList==nmC c))=[f0]→(findM ms m).map (·.v)=some (.func (.func f0) #[] #[]):=fun c m f0 hin hone=>by
    obtain ⟨x,hx,hrx⟩:=List.mem_map.1 (hperm.mem_iff.1 hin)
    obtain ⟨y,hy⟩:=hF.reads x hx
    rw [WideElems.rg_of hy] at hrx
    subst hrx
    obtain ⟨m',e1,e2⟩:=key_int (WideElems.rd_key hy)
    simp only [Lit.int.injEq,true_and] at e2
    subst e2
    unfold WideElems.rd at hy
    simp only [Option.bind_eq_some_iff,Option.map_eq_some_iff] at hy
    obtain ⟨kk,_,⟨d,q⟩,hel,hkd⟩:=hy
    simp only [Prod.mk.injEq] at hkd
    obtain ⟨_,rfl⟩:=hkd
    have hvx:=func_cells hone hel
    have hmem:(⟨m,x.val,x.born⟩:Me Int)∈ms:=by
     rw [hms]
     exact List.mem_map.2 ⟨x,hx,by rw [e1];rfl⟩
    cases hfd:findM ms m with
    | none=>exact absurd rfl (findM_none.1 hfd _ hmem)
    | some m2 =>
     have h1:=List.find?_some hfd
     simp only [dt] at h1
     have h2:=List.mem_of_find?_eq_some hfd
     have:m2=⟨m,x.val,x.born⟩:=by
      obtain ⟨i,hi,ei⟩:=List.mem_iff_getElem.1 h2
      obtain ⟨j,hj,ej⟩:=List.mem_iff_getElem.1 hmem
      have hij:i=j:=(List.getElem_inj (xs:=ms.map (·.k)) (h₀:=by simpa using hi) (h₁:=by simpa using hj) hnd).1 (by simp [ei,ej,h1])
      subst hij
      rw [←ei,ej]
     rw [this]
     show some x.val=_
     rw [hvx]
   refine ⟨T,z,b,ms,clock,?_,?_,hnd,key 49 2 _ (by simp [tabT]) (by kernel_rfl),key 50 3 _ (by simp [tabT]) (by kernel_rfl),key 51 4 _ (by simp [tabT]) (by kernel_rfl),key 52 5 _ (by simp [tabT]) (by kernel_rfl)⟩
   · rw [hb0]
     congr 2
     rw [←hcs]
   · rw [hb]
     unfold mapO
     rw [←hes]
set_option maxRecDepth 100000 in
theorem laid_of {W:World} (h:laidMetH Tryz.prog laidL W):Laid (fmOf W):=by
 obtain ⟨T,z,mb,ms,clock,h0,hm,hnd,k2,k3,k4,k5⟩:=table_of h
 have h' : laidMet Tryz.prog [("math/bits.deBruijn32tab", Rows.laid_math_bits_deBruijn32tab), ("math/bits.deBruijn64tab", Rows.laid_math_bits_deBruijn64tab), ("internal/strconv.uint64pow10", Rows.laid_internal_strconv_uint64pow10), ("strconv.ErrRange", Rows.laid_strconv_ErrRange), ("strconv.ErrSyntax", Rows.laid_strconv_ErrSyntax)] W ∧ handlesMet Tryz.prog [("cartage/script.calls", Rows.laid_cartage_script_calls)] W := h
 obtain ⟨ps,⟨g1,t1,cs1,f1,p1,q1,hg1,ht1,hv1,hd1,_,_⟩,_,_⟩:=h'.1.tail.tail.tail.tail
 obtain rfl := Option.some.inj ((show Tryz.prog.globalNamed "strconv.ErrSyntax" = some 1 by kernel_rfl).symm.trans hg1)
 obtain rfl:=Option.some.inj ((show (Tryz.prog.globals[1]?).map (·.type)=some 161 by kernel_rfl).symm.trans ht1)
 obtain ⟨T1,z1,hb1⟩:=var_block hg1 hv1
 obtain ⟨u,v,hcs1⟩:=iface_of_trod (TyIfc.under (P:=Tryz.prog) (t:=161)) hd1
 have hb1':W.heap[1]? = some (.cells [Value.iface u v].toArray T1 z1):=by
  rw [hb1]
  congr 2
  rw [←hcs1]
 exact ⟨⟨T,z,mb,ms,clock,h0,hm,hnd,k2⟩,⟨T,z,mb,ms,clock,h0,hm,hnd,k3⟩,⟨T,z,mb,ms,clock,h0,hm,hnd,k4⟩,⟨T,z,mb,ms,clock,h0,hm,hnd,k5⟩,atoiN_of (F:=fmOf W) hb1'⟩
open ED (Eg egV egC edgeE InE grV)
theorem ownKnob_none:ownKnob Tryz.prog.godebug=none:=by kernel_rfl
theorem laidOut:laidOutB Tryz.prog=true:=by kernel_rfl
theorem rowed:mapsRowed Tryz.prog=true:=by kernel_rfl
theorem slicesFull:((List.range Tryz.prog.types.size).all fun t=>match Tryz.prog.underlying t with | some (.slice e)=>decide (0<Tryz.prog.cellsOf e) | _=>true)=true:=by kernel_rfl
theorem cellsBo:Tryz.prog.cellsOf 4=boolE.k:=by kernel_rfl
theorem cellsIn:Tryz.prog.cellsOf 3=intE.k:=by kernel_rfl
theorem cellsIn1:Tryz.prog.cellsOf 3=1:=by kernel_rfl
theorem cellsU4:Tryz.prog.cellsOf 22=1:=by kernel_rfl
theorem cellsEg:Tryz.prog.cellsOf 79=edgeE.k:=by kernel_rfl
theorem cellsSl:Tryz.prog.cellsOf 25=1:=by kernel_rfl
theorem cellsPr:Tryz.prog.cellsOf 24=2:=by kernel_rfl
theorem cellsGr:Tryz.prog.cellsOf 27=2:=by kernel_rfl
theorem cellsRu:Tryz.prog.cellsOf 29=7:=by kernel_rfl
theorem ctRu:Tryz.prog.cellTypes Tryz.prog.depth 29=some [3,22,3,25,3,3,3]:=by kernel_rfl
theorem num_u32 {a:Int} (h:(Lit.int .u32 a).wf=true):a=((a.toNat:Nat):Int)∧a.toNat<4294967296:=by
 simp [Lit.wf,IntKind.min,IntKind.max,IntKind.signed,IntKind.bits] at h
 omega
section
variable {H : Type} {enc : TypeId × Value → H}
set_option maxRecDepth 100000 in
theorem open_bitsT {W:World} {base:Nat} {v:Value} {d:DataW H} {ps:List MemPlace} (hval:Value.okWide Tryz.prog W .any base 41 v) (h:DataW.Trod enc Tryz.prog W 0 (fun _=>true) true 41 v d ps) :
 ∃xs:List Bool,Arg boolE (fmOf W) v xs:=by
 obtain ⟨xs,h,_⟩:=open_arg (E:=boolE) (fun _=>True) Tryz.underlying41 cellsBo hval h fun n cs y hlen hy=>by
  obtain ⟨b,e,_⟩:=DataW.trod_bool Tryz.underlying4 hy
  exact ⟨b,e,trivial⟩
 exact ⟨xs,h⟩
set_option maxRecDepth 100000 in
theorem open_numsT {W:World} {base:Nat} {v:Value} {d:DataW H} {ps:List MemPlace} (hval:Value.okWide Tryz.prog W .any base 45 v) (h:DataW.Trod enc Tryz.prog W 0 (fun _=>true) true 45 v d ps) :
 ∃xs:List Int,Arg intE (fmOf W) v xs:=by
 obtain ⟨xs,h,_⟩:=open_arg (E:=intE) (fun _=>True) Tryz.underlying45 cellsIn hval h fun n cs y hlen hy=>by
  obtain ⟨a,e,_,wa⟩:=DataW.trod_int Tryz.underlying3 hy
  exact ⟨a,e,trivial⟩
 exact ⟨xs,h⟩
set_option maxRecDepth 100000 in
theorem dec_edgeT {W:World} {n:Nat} {cs:List Value} {y:DataW H×List MemPlace} (hlen:cs.length=edgeE.k) (hy:DataW.trod enc Tryz.prog W 0 (fun _=>true) true n 79 cs=some y):∃x,cs=edgeE.cells x∧InE x:=by
 obtain ⟨y0,y1,y2,m,_,_,h0,h1,h2⟩:=Go.Deep.trod_struct3 Tryz.underlying79 hy
 match cs,hlen with
 | [c0,c1,c2],_ =>
  obtain ⟨a,e0,_,wa⟩:=DataW.trod_int Tryz.underlying22 h0
  obtain ⟨b,e1,_,wb⟩:=DataW.trod_int Tryz.underlying22 h1
  obtain ⟨c,e2,_,wc⟩:=DataW.trod_int Tryz.underlying22 h2
  simp [cellsU4] at e0 e1 e2
  subst e0 e1 e2
  obtain ⟨ea,la⟩:=num_u32 wa
  obtain ⟨eb,lb⟩:=num_u32 wb
  obtain ⟨ec,lc⟩:=num_u32 wc
  refine ⟨⟨a.toNat,b.toNat,c.toNat⟩,?_,la,lb,lc⟩
  show _=[Value.int .u32 ((a.toNat:Nat):Int),Value.int .u32 ((b.toNat:Nat):Int),Value.int .u32 ((c.toNat:Nat):Int)]
  rw [←ea,←eb,←ec]
set_option maxRecDepth 100000 in
theorem open_edgesT {W:World} {base:Nat} {v:Value} {d:DataW H} {ps:List MemPlace} (hval:Value.okWide Tryz.prog W .any base 25 v) (h:DataW.Trod enc Tryz.prog W 0 (fun _=>true) true 25 v d ps) :
 ∃xs:List Eg,Arg edgeE (fmOf W) v xs∧∀x∈xs,InE x :=
 open_arg (E:=edgeE) InE Tryz.underlying25 cellsEg hval h fun n cs y hlen hy=>dec_edgeT hlen hy
set_option maxRecDepth 100000 in
theorem open_runT {W:World} {base:Nat} {v:Value} {d:DataW H} {ps:List MemPlace} (hval:Value.okWide Tryz.prog W .any base 29 v) (h:DataW.Trod enc Tryz.prog W 0 (fun _=>true) true 29 v d ps) :
 ∃(p:Prg) (N S M B:Int) (u:Value) (es:List Eg),v=ruV p N u S M B∧Arg edgeE (fmOf W) u es∧(∀e∈es,InE e)∧p.start<4294967296:=by
 have hval':=hval
 obtain ⟨cs,rfl,hsz⟩:=okWide_struct Tryz.underlying29 hval
 obtain ⟨fuel,h⟩:=h
 obtain ⟨xs,n,_,_,_,hlen,hf⟩:=DataW.trod_struct Tryz.underlying29 h
 rw [cellsRu] at hsz
 obtain ⟨lst⟩:=cs
 match lst,hsz,xs,hlen with
 | [c0,c1,c2,c3,c4,c5,c6],_,[y0,y1,y2,y3,y4],_ =>
  have g0:=hf 0 _ rfl
  have g1:=hf 1 _ rfl
  have g2:=hf 2 _ rfl
  have g3:=hf 3 _ rfl
  have g4:=hf 4 _ rfl
  simp [Value.cells,cellsPr,cellsGr,cellsIn1] at g0 g1 g2 g3 g4
  obtain ⟨a0,a1,m0,_,_,h0,h1⟩:=trod_struct2 Tryz.underlying24 g0
  obtain ⟨b0,b1,m1,_,_,k0,k1⟩:=trod_struct2 Tryz.underlying27 g1
  obtain ⟨K,e0,_,_⟩:=DataW.trod_int Tryz.underlying3 h0
  obtain ⟨st,e1,_,w1⟩:=DataW.trod_int Tryz.underlying22 h1
  obtain ⟨N,e2,_,_⟩:=DataW.trod_int Tryz.underlying3 k0
  obtain ⟨S,e4,_,_⟩:=DataW.trod_int Tryz.underlying3 g2
  obtain ⟨M,e5,_,_⟩:=DataW.trod_int Tryz.underlying3 g3
  obtain ⟨B,e6,_,_⟩:=DataW.trod_int Tryz.underlying3 g4
  simp [cellsIn1,cellsU4] at e0 e1 e2 e4 e5 e6
  subst e0 e1 e2 e4 e5 e6
  have hc3:Value.okWide Tryz.prog W .any base 25 c3:=by
   simp only [Value.okWide,Tryz.underlying29] at hval'
   obtain ⟨cs',e,_,ts,hts,_,hall⟩:=hval'
   cases e
   rw [ctRu] at hts
   cases hts
   obtain ⟨u,hu,hok⟩:=hall 3 c3 rfl
   cases hu
   simp only [Value.okWide,Tryz.underlying25]
   exact hok
  obtain ⟨a,len,cap,rfl⟩:=okWide_slice Tryz.underlying25 hc3
  obtain ⟨es,ha,hE⟩:=open_edgesT (enc:=enc) (d:=b1.1) (ps:=b1.2) hc3 ⟨m1,by simpa [Value.cells,cellsSl] using k1⟩
  obtain ⟨est,lst⟩:=num_u32 w1
  refine ⟨⟨K,st.toNat⟩,N,S,M,B,_,es,?_,ha,hE,lst⟩
  show Value.agg #[.int .i64 K,.int .u32 st,.int .i64 N,_,.int .i64 S,.int .i64 M,.int .i64 B]=Value.agg #[.int .i64 K,.int .u32 ((st.toNat:Nat):Int),.int .i64 N,_,.int .i64 S,.int .i64 M,.int .i64 B]
  rw [←est]
end
theorem door_met (os:Os) (args:Array Value):laidMetH Tryz.prog laidL ((World.doorLaid Tryz.prog 87 os).forCall (fun _ _=>0) ⟨#[],args,[]⟩).memory :=
 laidMetH_of_parts3 (fuel:=8) (laidMet_of_run' 8 (by kernel_rfl) (by kernel_rfl)) (by kernel_rfl) (by kernel_rfl)
end Go.Proofs.YtkpiakgmkpbikaaGreatDoor
