/- Steps of the proof. -/
import Derived.Test.YtkpiakgmkpbikaaGreatDoorTcf
import Derived.Lib.BufferWrite
import Derived.Lib.UnsafeStr
set_option linter.unusedVariables false
namespace Go.Proofs.YtkpiakgmkpbikaaGreatDoor
open ED (Eg egV egC edgeE InE grV)
theorem Ev.ldG {P:Program} {n:Nf} {F:Fm} {l:Env} {hl:Hl} {d:Option Tmp} {ty:TypeId} {pos:String} {af:Array Edge} {g:Option (Nat×Bool)} {t b off:Nat} {e:TypeId} {z:Nat×Nat} {vs:List Value} {v:Value} {x:Operand} [ht:TyOne P t] (hx:ev l x=some (.pointer (some ⟨b,off,none⟩))) (hF:F.at_ b (.cells vs.toArray e z)) (hv:nth vs off=some v):Ev P n F l hl ⟨d,.load t x,ty,pos,af,g⟩ v:=fun a w hf hs=>by
 obtain ⟨hn,hh⟩:=hs
 have h1:=run_loadVar1 (P:=P) (t:=t) (hh.frame b _ hF) hv
 simp [execOp,hf.ev hx,Instr.loadAt,Instr.sureAddr,h1]
abbrev plT (db:Nat) (ep:Value) (B:Int):List Value:=[.int .u32 0,.int .u32 0,.int .i32 0,.int .u32 0,.pointer (some ⟨db,0,none⟩),ep,.int .i64 B,.bool false]
abbrev plO (st:Int) (db:Nat) (ep:Value) (B:Int):Obj:=cellsO (.int .i32 st::plT db ep B) 70
abbrev kI (k:Int):Value:=.int .i64 k
instance : KeyTy Tryz.prog 3 kI:=KeyTy.of ⟨.int .i64,Tryz.underlying3,fun _=>rfl⟩ (fun a b h=>by simpa [kI] using h)
def Table (F:Fm) (k:Int) (f:Nat):Prop:=∃T z mb ms clock,F.at_ 0 (.cells [Value.map (some mb)].toArray T z)∧F.at_ mb (mapO kI ms clock)∧(ms.map (·.k)).Nodup∧(findM ms k).map (·.v)=some (.func (.func f) #[] #[])
theorem Table.mono {F F':Fm} {k:Int} {f:Nat} (h:Table F k f) (hF:∀b o,F.at_ b o→F'.at_ b o):Table F' k f:=by
 obtain ⟨T,z,mb,ms,c,h1,h2,h3⟩:=h
 exact ⟨T,z,mb,ms,c,hF _ _ h1,hF _ _ h2,h3⟩
instance : TyUnder Tryz.prog 74 (.func #[68,43] #[38] false):=⟨Tryz.underlying74⟩
section
variable {F : Fm} {hl : Hl} {pb db : Nat} {ep : Value} {B : Int} {k n m : Int} {p : Prg} {pd pk : Option Addr} {nd cd nk ck : Nat} {post : Value → Hl → Prop}
theorem new_player (room B:Int):Spec Tryz.prog 10 #[.int .i64 room,.int .i64 B] F [] fun v s=>∃pb db s2,v=.pointer (some ⟨pb,0,none⟩)∧s=(pb,plO 0 db (.pointer none) B)::s2∧DiskAt db ⟨[],max room 0,0,0,0,[],false⟩ s2:=by
 refine Spec.of (n:=10) (vs:=[.int .i64 room,.int .i64 B]) Tryz.func10 rfl Tryz.ntmps10 rfl ?_
 refine sj [.p] Z<|aj Z<|nl<|sj [.p,.e,.p,.p,.e,.p] Z<|mj Z<|Rg.callA Z Z Z (mz Z) (new_spec _ room) ?_
 rintro _ s6 ⟨db,rfl,hD⟩
 refine mj Z<|uj Z (Pv.build (c:=#[.int .i32 0,.int .u32 0,.int .u32 0,.int .i32 0,.int .u32 0,.pointer (some ⟨db,0,none⟩),.pointer none,.int .i64 B,.bool false]) rfl (by kernel_rfl))<|Rg.box Z Z Z Z Z (fun b9=>?_)
 refine aj Z<|nl ?_
 exact vr (hl':=(b9,plO 0 db (.pointer none) B)::s6) rfl (tz Z) ⟨b9,db,s6,rfl,rfl,hD⟩ pulled
theorem doRet {N:Nat} {l:Env} {b4:Nat} {vs:List Value} {T TA:TypeId} {e a val:Int} {is:Bool} {q:Prg} {s' rest:Hl} {fn:Func} (hr:fn.results=[ResultVar.cell 4 38].toArray) (h4:lk l 4=some (.pointer (some ⟨b4,0,none⟩)))
 (hpost:post (anV e a val is q) ((pb,cellsO (.int .i32 0::vs) T)::s')) (hp:hl.Perm (((pb,cellsO (.int .i32 1::vs) T)::(b4,cellsO (anC e a val is q) TA)::s')++rest)) :
 QRet (SpecQ Tryz.prog fn F post) ⟨N,none,[],[{ target:=.fn (.func 18) #[],args:=#[.pointer (some ⟨pb,0,none⟩)] }]⟩ F l hl :=
 Vc.retsX (pre:=[(pb,cellsO (.int .i32 1::vs) T)]) (rest:=(b4,cellsO (anC e a val is q) TA)::(s'++rest)) rfl hp unlockD_spec (fun w=>by simp [invoke,(inferInstance:TyCall Tryz.prog 18).call]) hr fun v s hs=>by
  subst hs
  refine ⟨[anV e a val is q],(pb,cellsO (.int .i32 0::vs) T)::s',(b4,cellsO (anC e a val is q) TA)::rest,.cons (.cellA h4 rfl) .nil,hpost,?_⟩
  show ((pb,cellsO (.int .i32 0::vs) T)::(b4,cellsO (anC e a val is q) TA)::(s'++rest)).Perm ((pb,cellsO (.int .i32 0::vs) T)::(s'++((b4,cellsO (anC e a val is q) TA)::rest)))
  exact List.Perm.cons _ List.perm_middle.symm
set_option maxHeartbeats 2000000 in
theorem do_call {eb:Nat} {f:Nat} [TyCall Tryz.prog f] (h1:k≠1) (h6:k≠6) (h7:k≠7) (hT:Table F k f) (h:∀F',(∀b o,F.at_ b o→F'.at_ b o)→Spec Tryz.prog f #[.pointer (some ⟨eb,0,none⟩),spV k n m p (.slice pd nd cd) (.slice pk nk ck)] F' hl post) (hq:∀v s,post v s→∃e a val is q,v=anV e a val is q) :
 Spec Tryz.prog 9 #[.pointer (some ⟨pb,0,none⟩),spV k n m p (.slice pd nd cd) (.slice pk nk ck)] F ((pb,plO 0 db (.pointer (some ⟨eb,0,none⟩)) B)::hl) fun v s=>∃s',s=(pb,plO 0 db (.pointer (some ⟨eb,0,none⟩)) B)::s'∧post v s':=by
 obtain ⟨TG,zG,mb,ms,clock,hF0,hFm,hnd,hfm⟩:=hT
 have i1:Fat F mb (mapO kI ms clock):=⟨hFm⟩
 refine Spec.of (n:=68) (vs:=[.pointer (some ⟨pb,0,none⟩),spV k n m p (.slice pd nd cd) (.slice pk nk ck)]) Tryz.func9 rfl Tryz.ntmps9 rfl ?_
 refine sj [.e,.e] Z<|Rg.box Z Z Z Z Z (fun b3=>?_)
 refine Rg.alloc Z Z Z Z (fun b4=>?_)
 refine nl<|sj [.p,.p,.p,.e] Z<|mj Z<|nj Z<|fj Z ?_
 refine Rg.callH Z Z Z (mz Z) (fun F' hF'=>lock_spec (F:=F') (pb:=pb) (vs:=plT db (.pointer (some ⟨eb,0,none⟩)) B) (T:=70)) Z ?_
 rintro _ _ ⟨rfl,rfl⟩
 refine nl<|wj ?_
 refine Vc.putOff (d:={ target:=.fn (.func 18) #[],args:=#[.pointer (some ⟨pb,0,none⟩)] }) rfl rfl rfl rfl (by intro c hc;cases hc) rfl (Pv.move rfl) rfl rfl (by intro c hc;cases hc) rfl (Pv.nilp rfl) rfl rfl (by intro c hc;cases hc) rfl (Pv.fa rfl) rfl rfl (fun a w hf=>by have h12:=hf.has 12 (.pointer (some ⟨pb,0,none⟩)) rfl;simp [execOp,go_sem,h12])<|wj<|sj [.p,.p,.p,.r] Z<|mj Z<|nj Z<|fj Z<|lj Z Z<|nl<|cj Z (fun h16=>absurd h16 (by decide)) (fun h16=>?_)
 refine kj<|wj<|sj [.p,.r] Z<|fj Z<|lj Z Z<|nl<|bj<|sj [.p,.p] Z<|uj Z (Pv.eql Z Z)<|aj Z<|nl<|cj Z (fun h20=>absurd h20 (by (simp only [beq_iff_eq];exact h1))) (fun h20=>?_)
 refine sj [.p,.p] Z<|uj Z (Pv.eql Z Z)<|aj Z<|nl<|cj Z (fun h24=>absurd h24 (by (simp only [beq_iff_eq];exact h6))) (fun h24=>?_)
 refine sj [.p,.p] Z<|uj Z (Pv.eql Z Z)<|aj Z<|nl<|cj Z (fun h34=>absurd h34 (by (simp only [beq_iff_eq];exact h7))) (fun h34=>?_)
 refine kj<|dj<|sj [.r,.p,.r,.r,.p] Z<|rj Z (Ev.ldG Z hF0 Z)<|fj Z<|lj Z Z<|rj Z (Ev.as (.func (.func f) #[] #[]) (Ev.lookup (ms:=ms) (kv:=kI) (k:=k) rfl rfl hnd) (by rw [hfm];rfl))<|aj Z<|nl<|wj<|bj<|sj [.p,.p,.p] Z<|mj Z<|uj Z (Pv.eqFnF Z)<|aj Z ?_
 refine nl<|cj Z (fun h50=>absurd h50 (by decide)) (fun h50=>?_)
 refine sj [.p,.p,.p,.r,.p,.p] Z<|mj Z<|nj Z<|fj Z<|lj Z Z<|uj Z (Pv.eqlNil Z Z)<|aj Z<|nl<|cj Z (fun h54=>absurd h54 (by simp)) (fun h54=>?_)
 refine kj<|dj<|wj ?_
 refine Vc.draw [6,7] (sd [(0,.pure),(1,.pure),(2,.pure),(3,.pure),(4,.read),(5,.read),(6,.eff),(7,.eff)]) mixed (by kernel_rfl)<|mj Z<|mj Z<|nj Z<|fj Z<|lj Z Z<|rj Z (Ev.as (spV k n m p (.slice pd nd cd) (.slice pk nk ck)) (Ev.ldA Z Z) Z) ?_
 refine Rg.callH Z Z Z (run_callV Z Z) (fun F' hF'=>h F' (fun b o hb=>hF' b o (.inr hb))) Z ?_
 rintro v67 s67 h67
 obtain ⟨e,a,val,is,q,rfl⟩:=hq _ _ h67
 refine Rg.storeA (us:=anC e a val is q) Z Z Z Z Z Z Z Z<|nl ?_
 exact Vc.ret (doRet (s':=s67) (TA:=38) rfl rfl ⟨s67,rfl,h67⟩ pulled)
end
abbrev upD (D:Dk):Dk:={ D with down:=false }
def Opened (C:Cx) (db:Nat) (B:Int) (mo:Option Ma) (D:Dk) (e:Int) (ep:Value) (s1:Hl) (D':Dk):Prop:=Wz C D' ∧
 ((e=0∧(∃eb,ep=.pointer (some ⟨eb,0,none⟩)∧s1=[(eb,enO db B (mo.getD ma0) mo.isSome false)])∧Gd (fun k=>¬Stays k (mo.getD ma0) mo.isSome) (upD D) D'∧∀k,¬Stays k (mo.getD ma0) mo.isSome→findF D'.files k=none) ∨
  (e=7∧ep=.pointer none∧s1=[]∧Dn (fun k=>¬Stays k (mo.getD ma0) mo.isSome) (upD D) D'))
theorem Opened.one {C:Cx} {db:Nat} {B:Int} {mo:Option Ma} {D:Dk} {e:Int} {ep:Value} {s1:Hl} {D':Dk} (h:Opened C db B mo D e ep s1 D'):ep.oneCell'=true:=by
 rcases h.2 with ⟨_,⟨eb,rfl,_⟩,_⟩ | ⟨_,rfl,_⟩<;>rfl
section
variable {F : Fm} {s : Hl} {pb db : Nat} {ep : Value} {B : Int} {k n m : Int} {p : Prg} {pd pk : Option Addr} {nd cd nk ck : Nat} {C : Cx} {D : Dk} {mo : Option Ma}
theorem opens_z (hA:AtoiN F) (hN:NmsOk C) (hS:SlotsO D mo) (hsh:(mo.getD ma0).sh<100) (hB:1≤B) (hC:C.Ok) (hD:DiskAt db D s) (hw:Wz C D) :
 Spec Tryz.prog 19 #[.pointer (some ⟨pb,0,none⟩)] F ((pb,plO 1 db ep B)::s) fun v s'=>∃e ep' s1 g D',v=anV e 0 0 false ⟨0,0⟩∧s'=(pb,plO 1 db ep' B)::(s1++g)∧DiskAt db D' g∧Opened C db B mo D e ep' s1 D':=by
 refine Spec.of (n:=25) (vs:=[.pointer (some ⟨pb,0,none⟩)]) Tryz.func19 rfl Tryz.ntmps19 rfl ?_
 refine sj [.e] Z<|Rg.alloc Z Z Z Z (fun b2=>?_)
 refine nl<|sj [.p,.p,.p,.r,.e] Z<|mj Z<|nj Z<|fj Z<|lj Z Z ?_
 refine Rg.callH Z Z Z (mz Z) (fun F' hF'=>restartD_spec (F:=F') hD) Z ?_
 rintro _ g0 hD0
 refine nl<|wj ?_
 refine Vc.draw [9,15,17] (sd [(0,.pure),(1,.pure),(2,.pure),(3,.pure),(4,.read),(5,.pure),(6,.pure),(7,.pure),(8,.read),(9,.eff),(10,.pure),(11,.pure),(12,.pure),(13,.pure),(14,.pure),(15,.eff),(16,.pure),(17,.eff)]) mixed (by kernel_rfl)<|mj Z<|mj Z<|nj Z<|fj Z<|lj Z Z<|mj Z<|nj Z<|fj Z<|lj Z Z ?_
 refine Rg.callH Z Z Z (mz Z) (fun F' hF'=>open_z (F:=F') (D:=upD D) (mo:=mo) (fun F2 hF2=>hA F2 fun b o h=>hF2 b o (hF' b o (.inr h))) hN (hS.same fun _ _=>Z) hsh hB hC hD0 (hw.up false) Z) Z ?_
 rintro _ _ ⟨u,e,D1,s1,g1,rfl,rfl,hD1,hw1,hO1⟩
 have hop:Opened C db B mo D e u s1 D1:=⟨hw1,hO1⟩
 have hu:=hop.one
 rw [lx]
 refine mj Z<|xj Z Z<|xj Z Z<|nj Z<|fj Z ?_
 refine Rg.store (v:=u) Z Z Z Z Z hu Z Z<|fj Z ?_
 refine Rg.store Z Z Z Z Z Z Z Z<|nl<|sj [.r,.e] Z<|rj Z (Ev.as (anV e 0 0 false ⟨0,0⟩) (Ev.ldA Z Z) Z)<|Rg.storeA (us:=anC e 0 0 false ⟨0,0⟩) Z Z Z Z Z Z Z Z<|nl ?_
 exact vr (hl':=(pb,plO 1 db u B)::(s1++g1)) rfl (.cons (.cellA rfl rfl) .nil) ⟨e,u,s1,g1,D1,rfl,rfl,hD1,hop⟩ pulled
set_option maxHeartbeats 2000000 in
theorem do_open (hA:AtoiN F) (hN:NmsOk C) (hS:SlotsO D mo) (hsh:(mo.getD ma0).sh<100) (hB:1≤B) (hC:C.Ok) (hD:DiskAt db D s) (hw:Wz C D) :
 Spec Tryz.prog 9 #[.pointer (some ⟨pb,0,none⟩),spV 1 n m p (.slice pd nd cd) (.slice pk nk ck)] F ((pb,plO 0 db ep B)::s) fun v s'=>∃e ep' s1 g D',v=anV e 0 0 false ⟨0,0⟩∧s'=(pb,plO 0 db ep' B)::(s1++g)∧DiskAt db D' g∧Opened C db B mo D e ep' s1 D':=by
 refine Spec.of (n:=68) (vs:=[.pointer (some ⟨pb,0,none⟩),spV 1 n m p (.slice pd nd cd) (.slice pk nk ck)]) Tryz.func9 rfl Tryz.ntmps9 rfl ?_
 refine sj [.e,.e] Z<|Rg.box Z Z Z Z Z (fun b3=>?_)
 refine Rg.alloc Z Z Z Z (fun b4=>?_)
 refine nl<|sj [.p,.p,.p,.e] Z<|mj Z<|nj Z<|fj Z ?_
 refine Rg.callH Z Z Z (mz Z) (fun F' hF'=>lock_spec (F:=F') (pb:=pb) (vs:=plT db ep B) (T:=70)) Z ?_
 rintro _ _ ⟨rfl,rfl⟩
 refine nl<|wj ?_
 refine Vc.putOff (d:={ target:=.fn (.func 18) #[],args:=#[.pointer (some ⟨pb,0,none⟩)] }) rfl rfl rfl rfl (by intro c hc;cases hc) rfl (Pv.move rfl) rfl rfl (by intro c hc;cases hc) rfl (Pv.nilp rfl) rfl rfl (by intro c hc;cases hc) rfl (Pv.fa rfl) rfl rfl (fun a w hf=>by have h12:=hf.has 12 (.pointer (some ⟨pb,0,none⟩)) rfl;simp [execOp,go_sem,h12])<|wj<|sj [.p,.p,.p,.r] Z<|mj Z<|nj Z<|fj Z<|lj Z Z<|nl<|cj Z (fun h16=>absurd h16 (by decide)) (fun h16=>?_)
 refine kj<|wj<|sj [.p,.r] Z<|fj Z<|lj Z Z<|nl<|bj<|sj [.p,.p] Z<|uj Z (Pv.eql Z Z)<|aj Z<|nl<|cj Z (fun h20=>?_) (fun h20=>absurd h20 (by decide))
 refine sj [.p,.e,.e] Z<|mj Z<|Rg.callH Z Z Z (mz Z) (fun F' hF'=>opens_z (F:=F') (ep:=ep) (B:=B) (fun F2 hF2=>hA F2 fun b o h=>hF2 b o (hF' b o (.inr h))) hN hS hsh hB hC hD hw) Z ?_
 rintro _ _ ⟨e,ep',s1,g,D',rfl,rfl,hD',hO⟩
 refine Rg.storeA (us:=anC e 0 0 false ⟨0,0⟩) Z Z Z Z Z Z Z Z<|nl ?_
 exact Vc.ret (doRet (vs:=plT db ep' B) (T:=70) (s':=s1++g) (TA:=38) rfl rfl ⟨e,ep',s1,g,D',rfl,rfl,hD',hO⟩ pulled)
set_option maxHeartbeats 2000000 in
theorem do_crash (hC:C.Ok) (hD:DiskAt db D s) (hw:Wz C D) {ks:List Bool} (hk:Arg boolE F (.slice pk ks.length ck) ks) :
 Spec Tryz.prog 9 #[.pointer (some ⟨pb,0,none⟩),spV 6 n m p (.slice pd nd cd) (.slice pk ks.length ck)] F ((pb,plO 0 db ep B)::s) fun v s'=>∃g,v=anV 0 0 0 false ⟨0,0⟩∧s'=(pb,plO 0 db ep B)::g∧DiskAt db (crashD ks D) g:=by
 have hz:=hw.dz hC
 refine Spec.of (n:=68) (vs:=[.pointer (some ⟨pb,0,none⟩),spV 6 n m p (.slice pd nd cd) (.slice pk ks.length ck)]) Tryz.func9 rfl Tryz.ntmps9 rfl ?_
 refine sj [.e,.e] Z<|Rg.box Z Z Z Z Z (fun b3=>?_)
 refine Rg.alloc Z Z Z Z (fun b4=>?_)
 refine nl<|sj [.p,.p,.p,.e] Z<|mj Z<|nj Z<|fj Z ?_
 refine Rg.callH Z Z Z (mz Z) (fun F' hF'=>lock_spec (F:=F') (pb:=pb) (vs:=plT db ep B) (T:=70)) Z ?_
 rintro _ _ ⟨rfl,rfl⟩
 refine nl<|wj ?_
 refine Vc.putOff (d:={ target:=.fn (.func 18) #[],args:=#[.pointer (some ⟨pb,0,none⟩)] }) rfl rfl rfl rfl (by intro c hc;cases hc) rfl (Pv.move rfl) rfl rfl (by intro c hc;cases hc) rfl (Pv.nilp rfl) rfl rfl (by intro c hc;cases hc) rfl (Pv.fa rfl) rfl rfl (fun a w hf=>by have h12:=hf.has 12 (.pointer (some ⟨pb,0,none⟩)) rfl;simp [execOp,go_sem,h12])<|wj<|sj [.p,.p,.p,.r] Z<|mj Z<|nj Z<|fj Z<|lj Z Z<|nl<|cj Z (fun h16=>absurd h16 (by decide)) (fun h16=>?_)
 refine kj<|wj<|sj [.p,.r] Z<|fj Z<|lj Z Z<|nl<|bj<|sj [.p,.p] Z<|uj Z (Pv.eql Z Z)<|aj Z<|nl<|cj Z (fun h20=>absurd h20 (by decide)) (fun h20=>?_)
 refine sj [.p,.p] Z<|uj Z (Pv.eql Z Z)<|aj Z<|nl<|cj Z (fun h24=>?_) (fun h24=>absurd h24 (by decide))
 refine wj ?_
 refine Vc.draw [6] (sd [(0,.pure),(1,.pure),(2,.pure),(3,.read),(4,.pure),(5,.read),(6,.eff)]) mixed (by kernel_rfl)<|mj Z<|nj Z<|fj Z<|lj Z Z<|fj Z<|lj Z Z ?_
 refine Rg.callH Z Z Z (mz Z) (fun F' hF'=>crashD_spec (F:=F') hD hz (hk.mono fun b o h=>hF' b o (.inr h))) Z ?_
 rintro v32 g hD1
 refine nl<|sj [.p,.e] Z<|uj Z (Pv.build Z Z)<|Rg.storeA (us:=anC 0 0 0 false ⟨0,0⟩) Z Z Z Z Z Z Z Z<|nl ?_
 exact Vc.ret (doRet (vs:=plT db ep B) (T:=70) (s':=g) (TA:=38) (e:=0) (a:=0) (val:=0) (is:=false) (q:=⟨0,0⟩) rfl rfl ⟨g,rfl,rfl,hD1⟩ pulled)
set_option maxHeartbeats 2000000 in
theorem do_arm (hD:DiskAt db D s) {ks:List Bool} (hk:Arg boolE F (.slice pk ks.length ck) ks) (hkl:ks.length<4294967296) :
 Spec Tryz.prog 9 #[.pointer (some ⟨pb,0,none⟩),spV 7 n m p (.slice pd nd cd) (.slice pk ks.length ck)] F ((pb,plO 0 db ep B)::s) fun v s'=>∃g,v=anV 0 0 0 false ⟨0,0⟩∧s'=(pb,plO 0 db ep B)::g∧DiskAt db { D with armed:=max n 0,keep:=ks } g:=by
 refine Spec.of (n:=68) (vs:=[.pointer (some ⟨pb,0,none⟩),spV 7 n m p (.slice pd nd cd) (.slice pk ks.length ck)]) Tryz.func9 rfl Tryz.ntmps9 rfl ?_
 refine sj [.e,.e] Z<|Rg.box Z Z Z Z Z (fun b3=>?_)
 refine Rg.alloc Z Z Z Z (fun b4=>?_)
 refine nl<|sj [.p,.p,.p,.e] Z<|mj Z<|nj Z<|fj Z ?_
 refine Rg.callH Z Z Z (mz Z) (fun F' hF'=>lock_spec (F:=F') (pb:=pb) (vs:=plT db ep B) (T:=70)) Z ?_
 rintro _ _ ⟨rfl,rfl⟩
 refine nl<|wj ?_
 refine Vc.putOff (d:={ target:=.fn (.func 18) #[],args:=#[.pointer (some ⟨pb,0,none⟩)] }) rfl rfl rfl rfl (by intro c hc;cases hc) rfl (Pv.move rfl) rfl rfl (by intro c hc;cases hc) rfl (Pv.nilp rfl) rfl rfl (by intro c hc;cases hc) rfl (Pv.fa rfl) rfl rfl (fun a w hf=>by have h12:=hf.has 12 (.pointer (some ⟨pb,0,none⟩)) rfl;simp [execOp,go_sem,h12])<|wj<|sj [.p,.p,.p,.r] Z<|mj Z<|nj Z<|fj Z<|lj Z Z<|nl<|cj Z (fun h16=>absurd h16 (by decide)) (fun h16=>?_)
 refine kj<|wj<|sj [.p,.r] Z<|fj Z<|lj Z Z<|nl<|bj<|sj [.p,.p] Z<|uj Z (Pv.eql Z Z)<|aj Z<|nl<|cj Z (fun h20=>absurd h20 (by decide)) (fun h20=>?_)
 refine sj [.p,.p] Z<|uj Z (Pv.eql Z Z)<|aj Z<|nl<|cj Z (fun h24=>absurd h24 (by decide)) (fun h24=>?_)
 refine sj [.p,.p] Z<|uj Z (Pv.eql Z Z)<|aj Z<|nl<|cj Z (fun h34=>?_) (fun h34=>absurd h34 (by decide))
 refine wj ?_
 refine Vc.draw [8] (sd [(0,.pure),(1,.pure),(2,.pure),(3,.read),(4,.pure),(5,.read),(6,.pure),(7,.read),(8,.eff)]) mixed (by kernel_rfl)<|mj Z<|nj Z<|fj Z<|lj Z Z<|fj Z<|lj Z Z<|fj Z<|lj Z Z ?_
 refine Rg.callH Z Z Z (mz Z) (fun F' hF'=>arm_spec (F:=F') hD n (hk.mono fun b o h=>hF' b o (.inr h)) hkl) Z ?_
 rintro v44 g hD1
 refine nl<|sj [.p,.e] Z<|uj Z (Pv.build Z Z)<|Rg.storeA (us:=anC 0 0 0 false ⟨0,0⟩) Z Z Z Z Z Z Z Z<|nl ?_
 exact Vc.ret (doRet (vs:=plT db ep B) (T:=70) (s':=g) (TA:=38) (e:=0) (a:=0) (val:=0) (is:=false) (q:=⟨0,0⟩) rfl rfl ⟨g,rfl,rfl,hD1⟩ pulled)
end
structure Laid (F:Fm):Prop where
 t2:Table F 2 175
 t3:Table F 3 177
 t4:Table F 4 179
 t5:Table F 5 181
 atoi:AtoiN F
theorem Laid.mono {F F':Fm} (h:Laid F) (hF:∀b o,F.at_ b o→F'.at_ b o):Laid F' :=
 ⟨h.t2.mono hF,h.t3.mono hF,h.t4.mono hF,h.t5.mono hF,fun F2 hF2=>h.atoi F2 fun b o hb=>hF2 b o (hF b o hb)⟩
theorem Spec.keep {P:Program} {f:Nat} {args:Array Value} {F:Fm} {hl h2:Hl} {Q:Value→Prop} (h:Spec P f args F hl fun v s=>∃s1,Q v∧s=s1++h2):Spec P f args F hl fun v s=>Q v∧s=h2:=fun w hw =>
 (h w hw).mono fun e w' ⟨v,hl',he,⟨s1,hq,hs⟩,hh⟩=>⟨v,h2,he,⟨hq,rfl⟩,by subst hs;exact (hh.perm List.perm_append_comm).forget⟩
section
variable {F : Fm} {s : Hl} {pb db eb B K : Nat} {k N M : Int} {p : Prg} {pd pk : Option Addr} {nd cd nk ck : Nat} {C : Cx} {D : Dk} {m : Ma} {n sh d most : Nat} {es : List Eg} {bs : List UInt8}
theorem do_ingest_no (hL:Laid F) {is dd:Bool} {Bi:Int} (h:is=true∨dd=true):Spec Tryz.prog 9 #[.pointer (some ⟨pb,0,none⟩),spV 2 N M p (.slice pd nd cd) (.slice pk nk ck)] F ((pb,plO 0 db (.pointer (some ⟨eb,0,none⟩)) Bi)::[(eb,enO db Bi m is dd)]) fun v s'=>v=anV 9 0 0 false ⟨0,0⟩∧s'=(pb,plO 0 db (.pointer (some ⟨eb,0,none⟩)) Bi)::[(eb,enO db Bi m is dd)]:=by
 refine (do_call (f:=175) (by decide) (by decide) (by decide) hL.t2 (fun F' hF'=>calls1_of (fun F'' hF''=>ingest_no h) fun v s h=>⟨0,9,h.1⟩) fun v s h=>?_).mono ?_
 · obtain ⟨a,e,hv,_⟩:=h
   exact ⟨e,a,0,false,⟨0,0⟩,hv⟩
 · rintro v s ⟨s',rfl,a,e,rfl,h1,rfl⟩
   simp only [Value.tuple.injEq,Array.mk.injEq,List.cons.injEq,Value.int.injEq,and_true,true_and] at h1
   obtain ⟨rfl,rfl⟩:=h1
   exact ⟨rfl,rfl⟩
theorem do_ingest_z (hL:Laid F) (hP:IngP C n sh B K es) (ha:Arg byteE F (.slice pd bs.length cd) bs) (hN:bs.length<1073741824) (hd:ED.decG bs=(n,es,0,0)) (hC:C.Ok) (hS:SlotsN D) (hcl:∀k,k≠slN 0→k≠slN 1→findF D.files k=none) (hup:D.down=false) (hD:DiskAt db D s) (hw:Wz C D) :
 Spec Tryz.prog 9 #[.pointer (some ⟨pb,0,none⟩),spV 2 (sh:Int) M p (.slice pd bs.length cd) (.slice pk nk ck)] F ((pb,plO 0 db (.pointer (some ⟨eb,0,none⟩)) (B:Int))::((eb,enO db (B:Int) m false false)::s)) fun v s'=>∃e D' m2 is2 dd2 g,v=anV e 0 0 false ⟨0,0⟩∧s'=(pb,plO 0 db (.pointer (some ⟨eb,0,none⟩)) (B:Int))::(eb,enO db (B:Int) m2 is2 dd2)::g∧DiskAt db D' g∧Wz C D' ∧
  ((e=0∧is2=true∧dd2=false∧m2=ma1 n sh∧Gd (IngT sh) D D'∧SlotsM D' m2∧Lasts n sh es D' m2∧BxF D' [])∨(e=7∧is2=false∧dd2=true∧m2=m∧Dn (IngT sh) D D'∧SlotsN D')):=by
 refine (do_call (f:=175) (by decide) (by decide) (by decide) hL.t2 (fun F' hF'=>calls1_of (fun F'' hF''=>ingest_z hP (ha.mono fun b o h=>hF'' b o (hF' b o h)) hN hd hC hS hcl hup hD hw) fun v s ⟨e,_,_,_,_,_,h,_⟩=>⟨0,e,h⟩) fun v s h=>?_).mono ?_
 · obtain ⟨a,e,hv,_⟩:=h
   exact ⟨e,a,0,false,⟨0,0⟩,hv⟩
 · rintro v s ⟨s',rfl,a,e,rfl,e',D',m2,is2,dd2,g,h1,rfl,h2⟩
   simp only [Value.tuple.injEq,Array.mk.injEq,List.cons.injEq,Value.int.injEq,and_true,true_and] at h1
   obtain ⟨rfl,rfl⟩:=h1
   exact ⟨e,D',m2,is2,dd2,g,rfl,rfl,h2⟩
theorem do_run_no (hL:Laid F) {is dd:Bool} {Bi:Int} (h:is=false∨dd=true):Spec Tryz.prog 9 #[.pointer (some ⟨pb,0,none⟩),spV 3 N M p (.slice pd nd cd) (.slice pk nk ck)] F ((pb,plO 0 db (.pointer (some ⟨eb,0,none⟩)) Bi)::[(eb,enO db Bi m is dd)]) fun v s'=>v=anV 9 0 0 false ⟨0,0⟩∧s'=(pb,plO 0 db (.pointer (some ⟨eb,0,none⟩)) Bi)::[(eb,enO db Bi m is dd)]:=by
 refine (do_call (f:=177) (by decide) (by decide) (by decide) hL.t3 (fun F' hF'=>calls2_of (fun F'' hF''=>run_no h) fun v s h=>⟨0,9,h.1⟩) fun v s h=>?_).mono ?_
 · obtain ⟨a,e,hv,_⟩:=h
   exact ⟨e,a,0,false,⟨0,0⟩,hv⟩
 · rintro v s ⟨s',rfl,a,e,rfl,h1,rfl⟩
   simp only [Value.tuple.injEq,Array.mk.injEq,List.cons.injEq,Value.int.injEq,and_true,true_and] at h1
   obtain ⟨rfl,rfl⟩:=h1
   exact ⟨rfl,rfl⟩
theorem do_run_z (hL:Laid F) (hP:GoP C p n sh es most d) (hB:1≤B) (hC:C.Ok) (hE:EI p n sh es d D m) (hbx:BxF D []) (hD:DiskAt db D s) (hw:Wz C D) :
 Spec Tryz.prog 9 #[.pointer (some ⟨pb,0,none⟩),spV 3 (most:Int) M p (.slice pd nd cd) (.slice pk nk ck)] F ((pb,plO 0 db (.pointer (some ⟨eb,0,none⟩)) (B:Int))::((eb,enO db (B:Int) m true false)::s)) fun v s'=>∃z e D' m2 dd g,v=anV e z 0 false ⟨0,0⟩∧s'=(pb,plO 0 db (.pointer (some ⟨eb,0,none⟩)) (B:Int))::(eb,enO db (B:Int) m2 true dd)::g∧DiskAt db D' g∧Wz C D'∧EI p n sh es d D' m2 ∧
  ((e=0∧z=(d:Int)∧dd=false∧Gd (GoT d) D D'∧m2.step=(d:Int)∧m2.p=p∧BxF D' [])∨(e=7∧dd=true∧Dn (GoT d) D D')):=by
 refine (do_call (f:=177) (by decide) (by decide) (by decide) hL.t3 (fun F' hF'=>calls2_of (fun F'' hF''=>engRun_z hP hB hC hE hbx hD hw) fun v s ⟨z,e,_,_,_,_,h,_⟩=>⟨z,e,h⟩) fun v s h=>?_).mono ?_
 · obtain ⟨a,e,hv,_⟩:=h
   exact ⟨e,a,0,false,⟨0,0⟩,hv⟩
 · rintro v s ⟨s',rfl,a,e,rfl,z',e',D',m2,dd2,g,h1,rfl,h2⟩
   simp only [Value.tuple.injEq,Array.mk.injEq,List.cons.injEq,Value.int.injEq,and_true,true_and] at h1
   obtain ⟨rfl,rfl⟩:=h1
   exact ⟨a,e,D',m2,dd2,g,rfl,rfl,h2⟩
theorem do_status (hL:Laid F) {is dd:Bool} {Bi:Int}:Spec Tryz.prog 9 #[.pointer (some ⟨pb,0,none⟩),spV 5 N M p (.slice pd nd cd) (.slice pk nk ck)] F ((pb,plO 0 db (.pointer (some ⟨eb,0,none⟩)) Bi)::[(eb,enO db Bi m is dd)]) fun v s'=>v=anV 0 (if is=true then m.step else -1) 0 is (if is=true then m.p else ⟨0,0⟩)∧s'=(pb,plO 0 db (.pointer (some ⟨eb,0,none⟩)) Bi)::[(eb,enO db Bi m is dd)]:=by
 refine (do_call (f:=181) (by decide) (by decide) (by decide) hL.t5 (fun F' hF'=>calls4_of (is:=is) (a:=if is=true then m.step else -1) (q:=if is=true then m.p else ⟨0,0⟩) fun F'' hF''=>?_) fun v s h=>⟨_,_,_,_,_,h.1⟩).mono ?_
 · have h0:Spec Tryz.prog 169 #[.pointer (some ⟨eb,0,none⟩)] (frz F'' [(eb,enO db Bi m is dd)]) [] fun v _=>v=.tuple #[.bool is,.int .i64 (if is=true then m.step else -1),prV (if is=true then m.p else ⟨0,0⟩)]:=status_spec (db:=db) (B:=Bi) (dd:=dd) ⟨.inl (by simp)⟩
   exact Spec.keep ((Spec.frame h0).mono fun v s ⟨s1,hv,hs⟩=>⟨s1,hv,hs⟩)
 · rintro v s ⟨s',rfl,rfl,rfl⟩
   exact ⟨rfl,rfl⟩
theorem do_query {c:Cf} (hL:Laid F) (hi:InC c n) (hn:n≤100) (hmn:m.n=n) (j at_ v:Nat) (hst:m.step=(j:Int)) (hat:at_≤j) (hj:j<100) (hv:v<n) {f:Fl} (hf:findF D.files (stN at_)=some f) (hfn:f.now=stB at_ c) (hC:C.Ok) (hD:DiskAt db D s) (hw:Wz C D) {Bi:Int} :
 Spec Tryz.prog 9 #[.pointer (some ⟨pb,0,none⟩),spV 4 (at_:Int) (v:Int) p (.slice pd nd cd) (.slice pk nk ck)] F ((pb,plO 0 db (.pointer (some ⟨eb,0,none⟩)) Bi)::((eb,enO db Bi m true false)::s)) fun w s'=>∃(val:Int) (b:Bool) (e:Int) (D':Dk) (dd:Bool) (g:Hl),w=anV e 0 val b ⟨0,0⟩∧s'=(pb,plO 0 db (.pointer (some ⟨eb,0,none⟩)) Bi)::(eb,enO db Bi m true dd)::g∧DiskAt db D' g∧(e=0→dd=false)∧Out C none1 (fun _=>val=c.vals[v]! ∧ b=c.live[v]!) D 0 e D':=by
 refine (do_call (f:=179) (by decide) (by decide) (by decide) hL.t4 (fun F' hF'=>calls3_of (fun F'' hF''=>query_z hi hn hmn j at_ v hst hat hj hv hf hfn hC hD hw) fun v s ⟨val,b,e,_,_,_,h,_⟩=>⟨val,b,e,h⟩) fun v s h=>?_).mono ?_
 · obtain ⟨val,b,e,hv,_⟩:=h
   exact ⟨e,0,val,b,⟨0,0⟩,hv⟩
 · rintro v s ⟨s',rfl,val,b,e,rfl,val',b',e',D',dd,g,h1,rfl,h2⟩
   simp only [Value.tuple.injEq,Array.mk.injEq,List.cons.injEq,Value.int.injEq,Value.bool.injEq,and_true,true_and] at h1
   obtain ⟨rfl,rfl,rfl⟩:=h1
   exact ⟨val,b,e,D',dd,g,rfl,rfl,h2⟩
end
theorem stepT_in {p:Prg} {n:Nat} {es:List Eg} {c:Cf} (hi:InC c n) (hg:InG n es):InC (stepT p es c) n:=by
 unfold stepT
 split
 · exact hi
 · refine ⟨by simp [hi.vl],by simp [hi.vl],hi.few,fun v hv=>?_⟩
   rw [hi.vl]
   rw [getElem!_pos _ v (by simpa using hv)]
   simp only [List.getElem_map,List.getElem_range]
   exact nextP_in (hi.in_ v hv) (tot_in (msgs_in hi hg))
theorem conf_in {p:Prg} {n:Nat} {es:List Eg} (hn:n≤1048576) (hg:InG n es):∀j,InC (conf p n es j) n
 | 0=>startC_in hn
 | j+1=>stepT_in (conf_in hn hg j) hg
theorem ends_ex (p:Prg) (n:Nat) (es:List Eg):∀most,∃d,Ends p n es most d
 | 0=>⟨0,Nat.le_refl _,fun i hi=>by omega,fun h=>by omega⟩
 | most+1=>by
  obtain ⟨d,h⟩:=ends_ex p n es most
  by_cases hd:d<most
  · exact ⟨d,by omega,h.loud,fun _=>h.quiet hd⟩
  · have e:d=most:=by have:=h.le;omega
    subst e
    cases hq:quietC (conf p n es d) with
    | true=>exact ⟨d,by omega,h.loud,fun _=>hq⟩
    | false=>exact ⟨d+1,Nat.le_refl _,fun i hi=>by
     by_cases e:i=d
     · rw [e];exact hq
     · exact h.loud i (by omega),fun h=>by omega⟩
def namesC (st bx sh K:Nat):List Nm:=[slN 0,slN 1,slT,stT]++((List.range st).map stN++((List.range bx).map (fun k=>boxN (k+1))++((List.range sh).map shN++((List.range sh).map ptN++(List.range K).map fun k=>runN (k+1)))))
def ctxC (st bx sh K:Nat) (room:Int):Cx:=⟨namesC st bx sh K,1000,room⟩
theorem namesC_len (st bx sh K:Nat):(namesC st bx sh K).length=4+(st+(bx+(sh+(sh+K)))):=by simp [namesC];omega
section
variable {st bx sh K : Nat} {k : Nm}
theorem namesC_cases (h:k∈namesC st bx sh K):k=slN 0∨k=slN 1∨k=slT∨k=stT∨(∃j,j<st∧k=stN j)∨(∃j,j<bx∧k=boxN (j+1))∨(∃j,j<sh∧k=shN j)∨(∃j,j<sh∧k=ptN j)∨∃j,j<K∧k=runN (j+1):=by
 simp only [namesC,List.mem_append,List.mem_cons,List.mem_map,List.mem_range,List.not_mem_nil,or_false] at h
 rcases h with (h | h | h | h) | ⟨j,hj,h⟩ | ⟨j,hj,h⟩ | ⟨j,hj,h⟩ | ⟨j,hj,h⟩ | ⟨j,hj,h⟩
 · exact .inl h
 · exact .inr (.inl h)
 · exact .inr (.inr (.inl h))
 · exact .inr (.inr (.inr (.inl h)))
 · exact .inr (.inr (.inr (.inr (.inl ⟨j,hj,h.symm⟩))))
 · exact .inr (.inr (.inr (.inr (.inr (.inl ⟨j,hj,h.symm⟩)))))
 · exact .inr (.inr (.inr (.inr (.inr (.inr (.inl ⟨j,hj,h.symm⟩))))))
 · exact .inr (.inr (.inr (.inr (.inr (.inr (.inr (.inl ⟨j,hj,h.symm⟩)))))))
 · exact .inr (.inr (.inr (.inr (.inr (.inr (.inr (.inr ⟨j,hj,h.symm⟩)))))))
theorem dig_pos (i:Nat):1≤(dig i).length:=by unfold dig;split<;>simp
theorem namesC_size (h:k∈namesC st bx sh K):1≤k.length∧k.length≤24:=by
 have key:∀i,1≤(dig i).length∧(dig i).length≤2:=fun i=>⟨dig_pos i,dig_len i⟩
 rcases namesC_cases h with rfl | rfl | rfl | rfl | ⟨j,_,rfl⟩ | ⟨j,_,rfl⟩ | ⟨j,_,rfl⟩ | ⟨j,_,rfl⟩ | ⟨j,_,rfl⟩
 · decide
 · decide
 · decide
 · decide
 · have:=key j;simp only [stN,ly,List.length_cons,List.length_nil];omega
 · have:=key (j+1);simp only [boxN,boxB,ly,List.length_cons,List.length_nil];omega
 · have:=key j;simp only [shN,ly,List.length_cons,List.length_nil];omega
 · have:=key j;simp only [ptN,ly,List.length_cons,List.length_nil];omega
 · have:=key (j+1);simp only [runN,runB,ly,List.length_cons,List.length_nil];omega
theorem ctxC_ok {room:Int} (hc:4+(st+(bx+(sh+(sh+K))))≤1000) (hr:(((4+(st+(bx+(sh+(sh+K)))))*63:Nat):Int)≤room):(ctxC st bx sh K room).Ok:=by
 have hs:secs (ctxC st bx sh K room).cap=63:=by show secs 1000=63;decide
 refine ⟨by show (namesC st bx sh K).length≤_;rw [namesC_len];exact hc,(show 1000≤1000000 by decide),?_,?_,fun k hk=>?_⟩
 · rw [hs];show (((namesC st bx sh K).length*63:Nat):Int)≤room;rw [namesC_len];exact hr
 · rw [hs];show (namesC st bx sh K).length*63≤_;rw [namesC_len];omega
 · obtain ⟨h1,h2⟩:=namesC_size hk
   unfold mayN
   have e:(⟨k.toArray⟩:ByteArray).size=k.length:=by show k.toArray.size=_;simp
   rw [e,decide_eq_true h1,decide_eq_true h2]
   rfl
theorem ctxC_nms {room:Int} (hst:st≤10):NmsOk (ctxC st bx sh K room):=fun k hk=>by
 refine ⟨by have:=(namesC_size hk).2;omega,fun hp=>?_⟩
 have no:∀(a b:List UInt8),(∃x y z u w v,a=x::y::z::u::w::v∧¬(x=115∧y=116∧z=97))→a++b=k→False:=fun a b ⟨x,y,z,u,w,v,ha,hn⟩ e=>by
  obtain ⟨t,ht⟩:=hp
  rw [←ht,ha] at e
  simp only [List.cons_append,List.cons.injEq,stP] at e
  exact hn ⟨e.1,e.2.1,e.2.2.1⟩
 rcases namesC_cases hk with rfl | rfl | rfl | rfl | ⟨j,hj,rfl⟩ | ⟨j,_,rfl⟩ | ⟨j,_,rfl⟩ | ⟨j,_,rfl⟩ | ⟨j,_,rfl⟩
 · exact (by revert hp;decide)
 · exact (by revert hp;decide)
 · exact (by revert hp;decide)
 · exact .inl rfl
 · exact .inr ⟨j,by omega,rfl⟩
 · obtain ⟨t,ht⟩:=hp;simp [stP,boxN,boxB] at ht
 · obtain ⟨t,ht⟩:=hp;simp [stP,shN] at ht
 · obtain ⟨t,ht⟩:=hp;simp [stP,ptN] at ht
 · obtain ⟨t,ht⟩:=hp;simp [stP,runN,runB] at ht
theorem in_slN {i:Nat} (h:i<2):slN i∈namesC st bx sh K:=by
 have:i=0∨i=1:=by omega
 rcases this with rfl | rfl<;>simp [namesC]
theorem in_slT:slT∈namesC st bx sh K:=by simp [namesC]
theorem in_stT:stT∈namesC st bx sh K:=by simp [namesC]
theorem in_stN {j:Nat} (h:j<st):stN j∈namesC st bx sh K:=by
 simp only [namesC,List.mem_append,List.mem_map,List.mem_range];exact .inr (.inl ⟨j,h,rfl⟩)
theorem in_boxN {j:Nat} (h1:1≤j) (h:j≤bx):boxN j∈namesC st bx sh K:=by
 simp only [namesC,List.mem_append,List.mem_map,List.mem_range];exact .inr (.inr (.inl ⟨j-1,by omega,by rw [Nat.sub_add_cancel h1]⟩))
theorem in_shN {j:Nat} (h:j<sh):shN j∈namesC st bx sh K:=by
 simp only [namesC,List.mem_append,List.mem_map,List.mem_range];exact .inr (.inr (.inr (.inl ⟨j,h,rfl⟩)))
theorem in_ptN {j:Nat} (h:j<sh):ptN j∈namesC st bx sh K:=by
 simp only [namesC,List.mem_append,List.mem_map,List.mem_range];exact .inr (.inr (.inr (.inr (.inl ⟨j,h,rfl⟩))))
theorem in_runN {j:Nat} (h1:1≤j) (h:j≤K):runN j∈namesC st bx sh K:=by
 simp only [namesC,List.mem_append,List.mem_map,List.mem_range];exact .inr (.inr (.inr (.inr (.inr ⟨j-1,by omega,by rw [Nat.sub_add_cancel h1]⟩))))
end
def Rn (p:Prg) (n sh:Nat) (es:List Eg) (d:Nat) (D:Dk):Option Ma→Prop
 | none=>SlotsN D
 | some m=>EI p n sh es d D m
section
variable {C : Cx} {p : Prg} {n sh d : Nat} {es : List Eg} {D D' : Dk} {mo : Option Ma} {m : Ma} {is dd : Bool}
theorem Rn.slots (h:Rn p n sh es d D mo):SlotsO D mo:=by
 cases mo with
 | none=>exact h
 | some m=>exact EI.slots h
theorem Rn.few (h:Rn p n sh es d D mo) (hs:sh<100):(mo.getD ma0).sh<100:=by
 cases mo with
 | none=>exact (by decide:(0:Nat)<100)
 | some m=>show m.sh<100;rw [(EI.lasts h).hsh];exact hs
theorem Rn.kept (hd:d≤8) (h:Rn p n sh es d D mo) (hk:∀k,Stays k (mo.getD ma0) mo.isSome→Kept (findF D.files k) (findF D'.files k)):Rn p n sh es d D' mo:=by
 cases mo with
 | none=>exact ⟨kept_none (hk _ (.inl rfl)) h.1,kept_none (hk _ (.inr (.inl rfl))) h.2⟩
 | some m =>
  have h:EI p n sh es d D m:=h
  refine ⟨SlotsO.kept (mo:=some m) h.slots fun i hi=>?_,h.lasts.kept (fun i hi=>hk _ (.inr (.inr ⟨rfl,.inr ⟨i,by show i<m.sh;rw [h.lasts.hsh];exact hi,rfl⟩⟩))) (fun j hj=>hk _ (.inr (.inr ⟨rfl,.inl ⟨j,?_,hj,rfl⟩⟩))),h.seq,h.how⟩
  · have:i=0∨i=1:=by omega
    rcases this with rfl | rfl
    · exact hk _ (.inl rfl)
    · exact hk _ (.inr (.inl rfl))
  · rcases h.how with h | ⟨_,j',h1,h2⟩<;>omega
structure Eng (C:Cx) (p:Prg) (n sh:Nat) (es:List Eg) (d:Nat) (D:Dk) (m:Ma) (is dd:Bool):Prop where
 wz:Wz C D
 on:is=true→EI p n sh es d D m
 off:is=false→SlotsN D
 up:dd=false→D.down=false
 bx:is=true→dd=false→BxF D []
 cl:is=false→dd=false→∀k,k≠slN 0→k≠slN 1→findF D.files k=none
theorem Eng.rn (h:Eng C p n sh es d D m is dd):Rn p n sh es d D (if is=true then some m else none):=by
 cases is with
 | true=>exact h.on rfl
 | false=>exact h.off rfl
theorem boxN_stays {k:Nat} {m:Ma} {is:Bool} : ¬Stays (boxN k) m is:=by
 rintro (h | h | ⟨_,⟨j,_,_,h⟩ | ⟨i,_,h⟩⟩)
 · simp [boxN,boxB,slN] at h
 · simp [boxN,boxB,slN] at h
 · simp [boxN,boxB,stN] at h
 · simp [boxN,boxB,shN] at h
theorem opened_any {db:Nat} {B:Int} {e:Int} {ep:Value} {s1:Hl} (hd:d≤8) (hR:Rn p n sh es d D mo) (h:Opened C db B mo D e ep s1 D') :
 (e=0∧(∃eb,ep=.pointer (some ⟨eb,0,none⟩)∧s1=[(eb,enO db B (mo.getD ma0) mo.isSome false)])∧Eng C p n sh es d D' (mo.getD ma0) mo.isSome false∧(D.armed=0→D'.armed=0))∨(e=7∧s1=[]∧D.armed≠0∧Wz C D'∧Rn p n sh es d D' mo):=by
 rcases h.2 with ⟨h0,hep,hG,hno⟩ | ⟨h7,_,hs,hB⟩
 · have hR':Rn p n sh es d D' mo:=hR.kept hd fun k hk=>by
    have:=hG.same k (fun hx=>hx hk)
    rw [show findF D'.files k=findF D.files k from this];exact Kept.refl _
   refine .inl ⟨h0,hep,⟨h.1,fun hi=>?_,fun hi=>?_,fun _=>hG.up,fun hi _=>⟨fun i hi=>(by cases hi),fun k _ _=>hno _ boxN_stays⟩,fun hi _ k h1 h2=>hno k ?_⟩,hG.calm⟩
   · cases mo with
     | none=>cases hi
     | some m=>exact hR'
   · cases mo with
     | none=>exact hR'
     | some m=>cases hi
   · rintro (hx | hx | ⟨hx,_⟩)
     · exact h1 hx
     · exact h2 hx
     · rw [hi] at hx;cases hx
 · exact .inr ⟨h7,hs,fun ha=>hB.why ⟨ha,rfl⟩,h.1,hR.kept hd fun k hk=>hB.kept k fun hx=>hx hk⟩
end
section
variable {F : Fm} {s : Hl} {pb db eb B K : Nat} {ep : Value} {N M : Int} {p q : Prg} {pd pk : Option Addr} {nd cd nk ck : Nat} {C : Cx} {D : Dk} {mo : Option Ma} {m : Ma} {is dd : Bool} {n sh d most : Nat} {es : List Eg} {bs : List UInt8}
theorem open_any (hL:Laid F) (hN:NmsOk C) (hd:d≤8) (hsh:sh<100) (hB:1≤B) (hC:C.Ok) (hR:Rn p n sh es d D mo) (hD:DiskAt db D s) (hw:Wz C D) :
 Spec Tryz.prog 9 #[.pointer (some ⟨pb,0,none⟩),spV 1 N M q (.slice pd nd cd) (.slice pk nk ck)] F ((pb,plO 0 db ep (B:Int))::s) fun v s'=>∃e ep' s1 g D',v=anV e 0 0 false ⟨0,0⟩∧s'=(pb,plO 0 db ep' (B:Int))::(s1++g)∧DiskAt db D' g ∧
  ((e=0∧(∃eb,ep'=.pointer (some ⟨eb,0,none⟩)∧s1=[(eb,enO db (B:Int) (mo.getD ma0) mo.isSome false)])∧Eng C p n sh es d D' (mo.getD ma0) mo.isSome false∧(D.armed=0→D'.armed=0))∨(e=7∧s1=[]∧D.armed≠0∧Wz C D'∧Rn p n sh es d D' mo)) :=
 (do_open hL.atoi hN hR.slots (hR.few hsh) (by omega) hC hD hw).mono fun v s' ⟨e,ep',s1,g,D',h1,h2,h3,h4⟩=>⟨e,ep',s1,g,D',h1,h2,h3,opened_any hd hR h4⟩
theorem ingest_any (hL:Laid F) (hP:IngP C n sh B K es) (ha:Arg byteE F (.slice pd bs.length cd) bs) (hN:bs.length<1073741824) (hdc:ED.decG bs=(n,es,0,0)) (hC:C.Ok) (hE:Eng C p n sh es d D m is dd) (hD:DiskAt db D s) :
 Spec Tryz.prog 9 #[.pointer (some ⟨pb,0,none⟩),spV 2 (sh:Int) M q (.slice pd bs.length cd) (.slice pk nk ck)] F ((pb,plO 0 db (.pointer (some ⟨eb,0,none⟩)) (B:Int))::(eb,enO db (B:Int) m is dd)::s) fun v s'=>∃e D' m2 is2 dd2 g,v=anV e 0 0 false ⟨0,0⟩∧s'=(pb,plO 0 db (.pointer (some ⟨eb,0,none⟩)) (B:Int))::(eb,enO db (B:Int) m2 is2 dd2)::g∧DiskAt db D' g∧Eng C p n sh es d D' m2 is2 dd2 ∧
  (is=true→e=9∧m2=m∧is2=true)∧(is=false→dd=false→(e=0∧is2=true∧m2=ma1 n sh)∨(e=7∧is2=false))∧(D.armed=0→dd=false→D'.armed=0∧dd2=false∧is2=true∧(is=false→e=0)):=by
 by_cases hno:is=true∨dd=true
 · refine (Spec.frame (h1:=(pb,plO 0 db (.pointer (some ⟨eb,0,none⟩)) (B:Int))::[(eb,enO db (B:Int) m is dd)]) (rest:=s) (do_ingest_no (hL.mono fun b o h=>Or.inr h) hno)).mono ?_
   rintro v s' ⟨s1,⟨hv,rfl⟩,rfl⟩
   refine ⟨9,D,m,is,dd,s,hv,rfl,hD,hE,fun hi=>⟨rfl,rfl,hi⟩,fun h1 h2=>?_,fun h1 h2=>⟨h1,h2,?_,fun h3=>?_⟩⟩
   · rcases hno with h | h
     · rw [h1] at h;cases h
     · rw [h2] at h;cases h
   · rcases hno with h | h
     · exact h
     · rw [h2] at h;cases h
   · rcases hno with h | h
     · rw [h3] at h;cases h
     · rw [h2] at h;cases h
 · have h1:is=false:=by cases is<;>simp_all
   have h2:dd=false:=by cases dd<;>simp_all
   subst h1;subst h2
   refine (do_ingest_z hL hP ha hN hdc hC (hE.off rfl) (hE.cl rfl rfl) (hE.up rfl) hD hE.wz).mono ?_
   rintro v s' ⟨e,D',m2,is2,dd2,g,hv,hs,hD',hw',hO⟩
   refine ⟨e,D',m2,is2,dd2,g,hv,hs,hD',?_,(fun h=>by cases h),fun _ _=>?_,fun ha _=>?_⟩
   · rcases hO with ⟨h0,rfl,rfl,rfl,hG,hS,hLs,hbx⟩ | ⟨h7,rfl,rfl,rfl,hB,hS⟩
     · exact ⟨hw',fun _=>⟨hS,hLs,rfl,.inl rfl⟩,(fun h=>by cases h),fun _=>hG.up,fun _ _=>hbx,fun h=>by cases h⟩
     · exact ⟨hw',(fun h=>by cases h),fun _=>hS,(fun h=>by cases h),(fun h=>by cases h),fun _ h=>by cases h⟩
   · rcases hO with ⟨h0,h1,_,h2,_⟩ | ⟨h7,h1,_⟩
     · exact .inl ⟨h0,h1,h2⟩
     · exact .inr ⟨h7,h1⟩
   · rcases hO with ⟨h0,h1,h2,_,hG,_⟩ | ⟨_,_,_,_,hB,_⟩
     · exact ⟨hG.calm ha,h2,h1,fun _=>h0⟩
     · exact absurd ⟨ha,hE.up rfl⟩ hB.why
theorem run_any (hL:Laid F) (hP:GoP C p n sh es most d) (hB:1≤B) (hC:C.Ok) (hE:Eng C p n sh es d D m is dd) (hD:DiskAt db D s) :
 Spec Tryz.prog 9 #[.pointer (some ⟨pb,0,none⟩),spV 3 (most:Int) M p (.slice pd nd cd) (.slice pk nk ck)] F ((pb,plO 0 db (.pointer (some ⟨eb,0,none⟩)) (B:Int))::(eb,enO db (B:Int) m is dd)::s) fun v s'=>∃e z D' m2 dd2 g,v=anV e z 0 false ⟨0,0⟩∧s'=(pb,plO 0 db (.pointer (some ⟨eb,0,none⟩)) (B:Int))::(eb,enO db (B:Int) m2 is dd2)::g∧DiskAt db D' g∧Eng C p n sh es d D' m2 is dd2 ∧
  (D.armed=0→dd=false→is=true→D'.armed=0∧dd2=false∧e=0∧z=(d:Int)∧m2.step=(d:Int)∧m2.p=p):=by
 by_cases hno:is=false∨dd=true
 · refine (Spec.frame (h1:=(pb,plO 0 db (.pointer (some ⟨eb,0,none⟩)) (B:Int))::[(eb,enO db (B:Int) m is dd)]) (rest:=s) (do_run_no (hL.mono fun b o h=>Or.inr h) hno)).mono ?_
   rintro v s' ⟨s1,⟨hv,rfl⟩,rfl⟩
   refine ⟨9,0,D,m,dd,s,hv,rfl,hD,hE,fun h1 h2 h3=>?_⟩
   rcases hno with h | h
   · rw [h3] at h;cases h
   · rw [h2] at h;cases h
 · have h1:is=true:=by cases is<;>simp_all
   have h2:dd=false:=by cases dd<;>simp_all
   subst h1;subst h2
   refine (do_run_z hL hP hB hC (hE.on rfl) (hE.bx rfl rfl) hD hE.wz).mono ?_
   rintro v s' ⟨z,e,D',m2,dd2,g,hv,hs,hD',hw',hE',hO⟩
   refine ⟨e,z,D',m2,dd2,g,hv,hs,hD',⟨hw',fun _=>hE',(fun h=>by cases h),fun h=>?_,fun _ h=>?_,fun h=>by cases h⟩,fun ha _ _=>?_⟩
   · rcases hO with ⟨_,_,_,hG,_⟩ | ⟨_,h7,_⟩
     · exact hG.up
     · rw [h] at h7;cases h7
   · rcases hO with ⟨_,_,_,_,_,_,hbx⟩ | ⟨_,h7,_⟩
     · exact hbx
     · rw [h] at h7;cases h7
   · rcases hO with ⟨h0,hz,h1,hG,h2,h3,_⟩ | ⟨_,_,hB⟩
     · exact ⟨hG.calm ha,h1,h0,hz,h2,h3⟩
     · exact absurd ⟨ha,hE.up rfl⟩ hB.why
theorem status_any (hL:Laid F) {Bi:Int}:Spec Tryz.prog 9 #[.pointer (some ⟨pb,0,none⟩),spV 5 N M q (.slice pd nd cd) (.slice pk nk ck)] F ((pb,plO 0 db (.pointer (some ⟨eb,0,none⟩)) Bi)::(eb,enO db Bi m is dd)::s) fun v s'=>v=anV 0 (if is=true then m.step else -1) 0 is (if is=true then m.p else ⟨0,0⟩)∧s'=(pb,plO 0 db (.pointer (some ⟨eb,0,none⟩)) Bi)::(eb,enO db Bi m is dd)::s:=by
 refine (Spec.frame (h1:=(pb,plO 0 db (.pointer (some ⟨eb,0,none⟩)) Bi)::[(eb,enO db Bi m is dd)]) (rest:=s) (do_status (hL.mono fun b o h=>Or.inr h))).mono ?_
 rintro v s' ⟨s1,⟨hv,rfl⟩,rfl⟩
 exact ⟨hv,rfl⟩
theorem crash_any (hC:C.Ok) (hd:d≤8) {ks:List Bool} (hk:Arg boolE F (.slice pk ks.length ck) ks) (hw:Wz C D) (hR:Rn p n sh es d D mo) (hD:DiskAt db D s) :
 Spec Tryz.prog 9 #[.pointer (some ⟨pb,0,none⟩),spV 6 N M q (.slice pd nd cd) (.slice pk ks.length ck)] F ((pb,plO 0 db ep (B:Int))::s) fun v s'=>∃g D',v=anV 0 0 0 false ⟨0,0⟩∧s'=(pb,plO 0 db ep (B:Int))::g∧DiskAt db D' g∧Wz C D'∧Rn p n sh es d D' mo∧(D.armed=0→D'.armed=0):=by
 refine (do_crash hC hD hw hk).mono ?_
 rintro v s' ⟨g,hv,hs,hD'⟩
 refine ⟨g,crashD ks D,hv,hs,hD',hw.crash ks,hR.kept hd fun k _=>crash_kept hw.nodup ks k,fun ha=>?_⟩
 unfold crashD
 split
 · exact ha
 · rfl
theorem arm_any (hd:d≤8) {ks:List Bool} (hk:Arg boolE F (.slice pk ks.length ck) ks) (hkl:ks.length<4294967296) (hN:N≤9223372036854775807) (hw:Wz C D) (hR:Rn p n sh es d D mo) (hD:DiskAt db D s) :
 Spec Tryz.prog 9 #[.pointer (some ⟨pb,0,none⟩),spV 7 N M q (.slice pd nd cd) (.slice pk ks.length ck)] F ((pb,plO 0 db ep (B:Int))::s) fun v s'=>∃g D',v=anV 0 0 0 false ⟨0,0⟩∧s'=(pb,plO 0 db ep (B:Int))::g∧DiskAt db D' g∧Wz C D'∧Rn p n sh es d D' mo∧(N=0→D'.armed=0):=by
 refine (do_arm hD hk hkl).mono ?_
 rintro v s' ⟨g,hv,hs,hD'⟩
 refine ⟨g,_,hv,hs,hD',hw.arm N hN ks,hR.kept hd fun k _=>Kept.refl _,fun h=>by show max N 0=0;omega⟩
theorem query_any (hL:Laid F) (hn:n≤100) (hin:∀j,InC (conf p n es j) n) (hd:d≤8) (hC:C.Ok) (hE:Eng C p n sh es d D m true false) (ha:D.armed=0) {j v:Nat} (hj:(j:Int)≤m.step) (hv:v<n) (hD:DiskAt db D s) {Bi:Int} :
 Spec Tryz.prog 9 #[.pointer (some ⟨pb,0,none⟩),spV 4 (j:Int) (v:Int) q (.slice pd nd cd) (.slice pk nk ck)] F ((pb,plO 0 db (.pointer (some ⟨eb,0,none⟩)) Bi)::(eb,enO db Bi m true false)::s) fun w s'=>∃D' g,w=anV 0 0 (conf p n es j).vals[v]! (conf p n es j).live[v]! ⟨0,0⟩∧s'=(pb,plO 0 db (.pointer (some ⟨eb,0,none⟩)) Bi)::(eb,enO db Bi m true false)::g∧DiskAt db D' g∧Eng C p n sh es d D' m true false∧D'.armed=0:=by
 have hI:=hE.on rfl
 obtain ⟨hmp,j',hj',hst⟩:m.p=p∧∃j':Nat,j'≤d∧m.step=(j':Int):=by
  rcases hI.how with h | h
  · omega
  · exact h
 have hf:=hI.lasts.steps j hj
 rw [hmp] at hf
 refine (do_query hL (hin j) hn hI.lasts.hn j' j v hst (by omega) (by omega) hv hf rfl hC hD hE.wz).mono ?_
 rintro w s' ⟨val,b,e,D',dd,g,hw,hs,hD',hdd,hO⟩
 obtain ⟨h0,hG,hvl,hb⟩:e=0∧Gd none1 D D'∧val=(conf p n es j).vals[v]! ∧ b=(conf p n es j).live[v]! := by
  rcases hO.2 with h | h
  · exact h
  · exact absurd ⟨ha,hE.up rfl⟩ h.2.why
 have hdd0:=hdd h0
 subst h0;subst hvl;subst hb;subst hdd0
 refine ⟨D',g,hw,hs,hD',⟨hO.1,fun _=>hI.kept fun k=>by rw [hG.same k id];exact Kept.refl _,(fun h=>by cases h),fun _=>hG.up,fun _ _=>(hE.bx rfl rfl).same0 fun k _ _=>hG.same _ id,fun h=>by cases h⟩,hG.calm ha⟩
end
end Go.Proofs.YtkpiakgmkpbikaaGreatDoor
namespace Go.Proofs.YtkpiakgmkpbikaaGreatDoor
section
variable {P : Program} {Qf : Exit → Act → World → Prop} {n : Nf} {F : Fm} {ks : List KItem} {ops : List Oper} {clr : List Nat} {hs hl : Hl} {r : Sd} {i t0 : Nat} {l : Env} {d : Option Tmp} {ty : TypeId} {pos : String} {af : Array Edge} {g : Option (Nat × Bool)}
theorem Pv.neNilT {t t' T:TypeId} {x:Operand} {p:Value} [hi:TyIfc P t] (hx:ev l x=some (.iface T p)):Pv P n l ⟨d,.binOp .neq t x (.const .nilIface) t',ty,pos,af,g⟩ (.bool true):=fun a w hf=>by
 have h:=run_equal_held_nil (P:=P) w t T p hi.under
 simp [execOp,hf.ev hx,hf.ev (show ev l (.const .nilIface)=some .nilIface from rfl),eqGuard,binOp,h]
theorem Pv.eqII {t t' tn:TypeId} {x y:Operand} {k:IntKind} {p q:Int} [hi:TyIfc P t] (hn:P.underlying tn=some (.int k)) (hinf:(P.info? tn).map (·.comparable)=some true) (hx:ev l x=some (.iface tn (.int k p))) (hy:ev l y=some (.iface tn (.int k q))) :
 Pv P n l ⟨d,.binOp .eql t x y t',ty,pos,af,g⟩ (.bool (p==q)):=fun a w hf=>by
 obtain ⟨inf,hinf,hc⟩:=Option.map_eq_some_iff.1 hinf
 have h:(Op.equal t (.iface tn (.int k p)) (.iface tn (.int k q))).run P w=.ok (p==q) w:=by
  have key:∀m,(Op.equalIn (m+2) t (.iface tn (.int k p)) (.iface tn (.int k q))).run P w=.ok (p==q) w:=fun m=>by
   simp [Op.equalIn,run_underlying hi.under,run_underlying hn,typeInfo,hinf,hc]
  exact key 9998
 simp [execOp,hf.ev hx,hf.ev hy,eqGuard,binOp,h]
theorem setRow_putB {w:World} {b:Nat} {c0 c:Array Value} {e:TypeId} (hb:w.heap[b]? = some (.cells c0 e (0,0))):w.setRow b c=putB w b (.cells c e (0,0)):=by
 unfold World.setRow Go.Proofs.YtkpiakgmkpbikaaGreatDoor.putB
 congr 1
 apply Array.ext_getElem?
 intro k
 rw [Array.getElem?_modify,Array.getElem?_setIfInBounds]
 by_cases hk:b=k
 · subst hk
   have:=(Array.getElem?_eq_some_iff.1 hb).1
   rw [hb]
   simp [this]
 · simp [hk]
theorem byteCells_flat (xs:List UInt8):Lib.byteCells xs=flat byteE xs:=by
 induction xs with
 | nil=>rfl
 | cons x xs ih=>show .int .u8 (x.toNat:Int)::Lib.byteCells xs=_;rw [ih];rfl
theorem Rg.copyS {dT sT B:Nat} {x y:Operand} {b c:Nat} {xs ys:List UInt8} {rest:Hl} [ht:TySl P dT byteE B] (ho:nth ops i=some ⟨some t0,.call { callee:=.builtin .copy,args:=#[x,y],argTypes:=#[dT,sT] },ty,pos,af,g⟩) (hg:wantB ops l g=some true) (h0:Nat.blt t0 n.n=true)
 (hx:ev l x=some (.slice (some ⟨b,0,none⟩) xs.length c)) (hy:ev l y=some (kS xs)) (hl':ys.length=xs.length) (hclr:clr.contains i=true) [hb:Pull1 hl b (rowS byteE ys []) rest]
 (h:Rg P Qf n F ks ops clr ((b,rowS byteE xs [])::rest) r ((t0,.int .i64 (xs.length:Int))::l) ((b,rowS byteE xs [])::rest)):Rg P Qf n F ks ops clr hs (.st i .eff r) l hl :=
 Rg.run ho hg fun a w hf hh=>by
  have hh':=hh.perm hb.perm
  obtain ⟨inf,z,hi,hz,hsz,hby,hzs⟩:=ht.info
  have hblk:w.heap[b]? = some (.cells (flat byteE ys++[]).toArray byteE.tid (0,0)):=hh'.own b _ List.mem_cons_self
  have hfl:∀zs:List UInt8,(flat byteE zs).length=zs.length:=fun zs=>by rw [←byteCells_flat];simp [Lib.byteCells]
  have hxs:(⟨xs.toArray⟩:ByteArray).size=xs.length:=by simp [ByteArray.size]
  have hr:=Lib.run_copy_row_string (P:=P) w dT sT ty byteE.tid b 0 xs.length c ⟨xs.toArray⟩ _ byteE.tid ht.under (by rw [hi];simp [hsz];rfl) hblk (by rw [hxs];exact Nat.le_refl _) (by rw [hxs];simp [hfl,hl'])
  rw [setRow_putB hblk] at hr
  have he:(((flat byteE ys++[]).toArray.toList.take 0++Lib.byteCells (⟨xs.toArray⟩:ByteArray).data.toList++(flat byteE ys++[]).toArray.toList.drop (0+(⟨xs.toArray⟩:ByteArray).size)).toArray)=(flat byteE xs++[]).toArray:=by
   rw [hxs]
   simp only [List.take_zero,List.nil_append,List.append_nil,Nat.zero_add]
   rw [List.drop_of_length_le (by rw [hfl,hl'];exact Nat.le_refl _),List.append_nil,byteCells_flat]
  rw [he,hxs] at hr
  have hh2:=Lens.putB (put:=fun o'=>(b,o')::rest) ⟨[],rest,rfl,fun _=>rfl⟩ hh' (rowS byteE xs [])
  exact ⟨_,_,_,_,.inl ⟨_,by simp [execOp,resolve,invoke,builtin,hf.ev hx,hf.ev hy,hr,goInt,rowS],hf.put h0 _⟩,hh2,hh2.st,.inl hclr,h⟩
theorem Rg.textOf {pT iT e:Nat} {x y:Operand} {b:Nat} {xs:List UInt8} {rest:Hl} (hp:P.underlying pT=some (.pointer e)) (hc:P.cellsOf e=1) (he:byteE.tid=e) (ho:nth ops i=some ⟨some t0,.call { callee:=.builtin .unsafeString,args:=#[x,y],argTypes:=#[pT,iT] },ty,pos,af,g⟩) (hg:wantB ops l g=some true) (h0:Nat.blt t0 n.n=true)
 (hx:ev l x=some (.pointer (some ⟨b,0,none⟩))) (hy:ev l y=some (.int .i64 (xs.length:Int))) (hxs:xs≠[]) (hsm:xs.length≤1000) (hclr:clr.contains i=true) [hb:Pull1 hl b (rowS byteE xs []) rest]
 (h:Rg P Qf n F ks ops clr rest r ((t0,kS xs)::l) rest):Rg P Qf n F ks ops clr hs (.st i .eff r) l hl :=
 Rg.run ho hg fun a w hf hh=>by
  have hh':=hh.perm hb.perm
  have hblk:w.heap[b]? = some (.cells (flat byteE xs++[]).toArray e (0,0)):=by rw [←he];exact hh'.own b _ List.mem_cons_self
  have hfl:(flat byteE xs).length=xs.length:=by rw [←byteCells_flat];simp [Lib.byteCells]
  have hr:=Lib.run_unsafeString_row (P:=P) w pT iT ty e hp hc b xs.length (by unfold World.shape?; rw [hblk];simp [hfl]) xs hxs (Nat.le_refl _) (by omega) (fun j z hz=>by
   have hlt:=(List.getElem?_eq_some_iff.1 hz).1
   have ha:((⟨b,0,none⟩:Addr).add j)=⟨b,j,none⟩:=by cases j<;>simp [Addr.add]
   rw [ha]
   simp only [World.cell?,hblk,List.append_nil]
   rw [←byteCells_flat]
   simp [Lib.byteCells,hz])
  have hfz:w.freeze ⟨b,0,none⟩ xs.length=putB w b (.cells (flat byteE xs++[]).toArray e (0,xs.length)):=by
   have hlt:=(Array.getElem?_eq_some_iff.1 hblk).1
   have hne:xs.length≠0:=by simpa using hxs
   unfold World.freeze
   rw [if_neg hne]
   unfold Go.Proofs.YtkpiakgmkpbikaaGreatDoor.putB
   congr 1
   apply Array.ext_getElem?
   intro k
   rw [Array.getElem?_modify,Array.getElem?_setIfInBounds]
   by_cases e1:b=k
   · subst e1
     rw [if_pos rfl,if_pos rfl,if_pos hlt,hblk]
     simp
   · rw [if_neg e1,if_neg e1]
  rw [hfz] at hr
  have hh2:=(Lens.putB (put:=fun o'=>(b,o')::rest) ⟨[],rest,rfl,fun _=>rfl⟩ hh' (.cells (flat byteE xs++[]).toArray e (0,xs.length))).tail
  exact ⟨_,_,_,_,.inl ⟨_,by simp [execOp,resolve,invoke,builtin,hf.ev hx,hf.ev hy,hr],hf.put h0 _⟩,hh2,hh2.st,.inl hclr,h⟩
end
abbrev newB:List UInt8:=[110,101,119]
section
variable {F : Fm}
theorem cloneN_spec:Spec Tryz.prog 135 #[kS newB] F [] fun v _=>v=kS newB:=by
 refine Spec.of (n:=18) (vs:=[kS newB]) Tryz.func135 rfl Tryz.ntmps135 rfl ?_
 refine sj [.p] Z<|aj Z<|nl<|wj<|sj [.p,.p,.p] Z<|mj Z<|uj Z (Pv.lenStr Z)<|uj Z (Pv.eql Z Z)<|nl<|cj Z (fun h6=>absurd h6 (by decide)) (fun h6=>?_)
 refine kj<|sj [.p,.p,.e,.p] Z<|mj Z<|uj Z (Pv.lenStr Z)<|Rg.makeN byteE 0 (m:=3) rfl rfl rfl rfl rfl (by decide) (fun b9 own9=>?_)
 refine aj Z<|nl<|sj [.p,.p,.e] Z<|mj Z<|mj Z<|Rg.copyS (xs:=newB) (ys:=List.replicate 3 0) Z Z Z Z Z Z Z<|nl<|sj [.p,.p,.p,.p,.e,.p] Z<|mj Z<|uj Z (Pv.ixA (i:=0) (m:=3) 0 rfl rfl rfl (by decide))<|mj Z<|uj Z (Pv.lenS Z)<|Rg.textOf (xs:=newB) Tryz.underlying232 (by kernel_rfl) rfl rfl rfl rfl rfl rfl (by decide) (by decide) rfl<|aj Z<|nl ?_
 refine vz Z (tz Z) ?_
 rfl
theorem synN_spec {T TG:TypeId} {zG:Nat×Nat} {p:Value} (hF:F.at_ 1 (.cells [Value.iface T p].toArray TG zG)):Spec Tryz.prog 119 #[kS [65,116,111,105],kS newB] F [] fun v _=>∃b,v=.pointer (some ⟨b,0,none⟩):=by
 refine Spec.of (n:=11) (vs:=[kS [65,116,111,105],kS newB]) Tryz.func119 rfl Tryz.ntmps119 rfl ?_
 refine sj [.p] Z<|aj Z<|nl<|wj ?_
 refine Vc.draw [] (sd [(0,.pure),(1,.pure),(3,.read),(2,.eff),(4,.pure),(5,.eff),(6,.pure)]) mixed (by kernel_rfl)<|mj Z<|mj Z<|rj Z (Ev.ldG Z hF Z)<|Rg.callA Z Z Z (mz Z) cloneN_spec ?_
 rintro _ s7 rfl
 refine uj Z (Pv.build (c:=#[kS [65,116,111,105],kS newB,.iface T p]) Z Z)<|Rg.box Z Z Z Z Z (fun b10=>?_)
 refine aj Z<|nl ?_
 exact vr (hl':=[]) rfl (tz Z) ⟨b10,rfl⟩ pulled
theorem toErrN_spec {T TG:TypeId} {zG:Nat×Nat} {p:Value} (hF:F.at_ 1 (.cells [Value.iface T p].toArray TG zG)):Spec Tryz.prog 104 #[kS [65,116,111,105],kS newB,.int .i64 0,.int .i64 0,.iface 198 (.int .i64 2)] F [] fun v _=>∃T p,v=.iface T p:=by
 refine Spec.of (n:=43) (vs:=[kS [65,116,111,105],kS newB,.int .i64 0,.int .i64 0,.iface 198 (.int .i64 2)]) Tryz.func104 rfl Tryz.ntmps104 rfl ?_
 refine sj [.p] Z<|aj Z<|nl<|wj<|sj [.p] Z<|mj Z<|nl<|bj<|sj [.p,.p,.p] Z<|uj Z (Pv.mkI Z)<|uj Z (Pv.eqII Tryz.underlying198 (by kernel_rfl) rfl rfl)<|aj Z<|nl<|cj Z (fun h12=>?_) (fun h12=>absurd h12 (by decide))
 refine sj [.p,.p,.e,.p,.p] Z<|mj Z<|mj Z<|Rg.callA Z Z Z (mz Z) (synN_spec (Or.inr hF)) ?_
 rintro _ s17 ⟨b17,rfl⟩
 refine uj Z (Pv.mkI Z)<|aj Z<|nl ?_
 exact vr (hl':=[]) rfl (tz Z) ⟨_,_,rfl⟩ pulled
set_option maxHeartbeats 1000000 in
theorem iatoiN_spec:Spec Tryz.prog 103 #[kS newB] F [] fun v _=>v=.tuple #[.int .i64 0,.iface 198 (.int .i64 2)]:=by
 refine Spec.of (n:=77) (vs:=[kS newB]) Tryz.func103 rfl Tryz.ntmps103 rfl ?_
 refine sj [.p,.p] Z<|aj Z<|aj Z<|nl<|sj [.p,.p,.p] Z<|mj Z<|uj Z (Pv.lenStr Z)<|aj Z<|nl<|wj<|sj [.p,.p,.p,.p,.p,.p,.p,.p,.p,.p,.p,.p,.p,.p,.p,.p,.p,.p] Z<|mj Z<|Rg.split (t:=13) rfl (fun h13=>absurd h13 (by decide)) (fun h13=>?_)
 iterate 6 (first | refine Rg.skipP rfl rfl rfl ?_ | refine Rg.skipR rfl rfl rfl ?_ | refine Rg.skipE rfl rfl rfl ?_)
 refine pj Z Z<|mj Z<|mj Z<|Rg.split (t:=22) rfl (fun h22=>?_) (fun h22=>absurd h22 (by decide))
 refine mj Z<|uj Z (Pv.lss Z Z)<|mj Z<|Rg.split (t:=25) rfl (fun h25=>?_) (fun h25=>absurd h25 (by show ¬decide ((0:Int)<((3:Nat):Int))=false;decide))
 refine mj Z<|uj Z (Pv.lss Z Z)<|qj Z Z<|qj Z Z<|pj Z Z<|nl<|cj Z (fun h30=>?_) (fun h30=>absurd h30 (by show ¬decide (((3:Nat):Int)<19)=false;decide))
 refine sj [.p,.p] Z<|mj Z<|aj Z<|nl<|wj<|sj [.p,.p,.p,.p,.p,.p,.p,.p] Z<|mj Z<|uj Z (Pv.as (.int .u8 110) (Pv.indexS 0 (b:=110) Z Z Z) Z)<|uj Z (Pv.eql Z Z)<|mj Z<|Rg.split (t:=35) rfl (fun h35=>absurd h35 (by decide)) (fun h35=>?_)
 refine mj Z<|uj Z (Pv.as (.int .u8 110) (Pv.indexS 0 (b:=110) Z Z Z) Z)<|uj Z (Pv.eql Z Z)<|pj Z Z<|nl<|cj Z (fun h39=>absurd h39 (by decide)) (fun h39=>?_)
 refine kj<|sj [.p] Z<|aj Z<|nl<|wj<|sj [.p,.e,.p,.p] Z<|mj Z<|Rg.strB Z Z Z Z (by show 3≤maxLen;decide) (fun b47 o47 c47 hc47 harg=>?_)
 refine uj Z (Pv.lenS Z)<|mj Z<|nl<|bj ?_
 refine Vc.loop1 (fun (i:Nat)=>i=0) (fun i=>[(47,.slice (some ⟨b47,0,none⟩) 3 c47),(48,.int .i64 3),(49,.int .i64 (i:Int))]) (fun i=>[(b47,o47)]) (fun i=>0) 0 Z (.cons Z (.cons Z (.cons Z .nil))) pulled ?_
 rintro i rfl
 refine sj [.p] Z<|uj Z (Pv.lss Z Z)<|nl<|wj<|cj Z (fun h50=>?_) (fun h50=>absurd h50 (by decide))
 refine kj<|wj<|bj<|sj [.p,.r,.p] Z<|uj Z (Pv.ixA (0) rfl rfl (by omega) (by omega))<|rj Z (Ev.as (.int .u8 110) (Ev.ldS (E:=byteE) 0 (harg _ _ inferInstance) rfl rfl rfl (by show 0<3;decide)) rfl)<|aj Z<|nl<|sj [.p,.p,.p] Z<|mj Z<|uj Z (Pv.asI 62 (Pv.subW rfl rfl) (by decide))<|aj Z<|nl<|wj<|sj [.p,.p] Z ?_
 refine mj Z<|uj Z (Pv.gtr Z Z)<|nl<|cj Z (fun h56=>?_) (fun h56=>absurd h56 (by decide))
 refine sj [.p,.p,.p] Z<|uj Z (Pv.mkI Z)<|aj Z<|aj Z<|nl ?_
 exact vr (hl':=[]) rfl (.cons (.tmp rfl) (tz Z)) rfl pulled
theorem atoiN_of {T TG:TypeId} {zG:Nat×Nat} {p:Value} (hF:F.at_ 1 (.cells [Value.iface T p].toArray TG zG)):AtoiN F:=fun F' hF'=>by
 refine Spec.of (n:=18) (vs:=[kS newB]) Tryz.func81 rfl Tryz.ntmps81 rfl ?_
 refine sj [.p,.p] Z<|aj Z<|aj Z<|nl<|sj [.p,.e,.p,.p,.p,.p,.p] Z<|mj Z<|Rg.callP Z Z Z (mz Z) (iatoiN_spec) ?_
 rintro _ rfl
 refine mj Z<|xj Z Z<|xj Z Z<|aj Z<|aj Z<|nl<|wj<|sj [.p,.p] Z<|mj Z<|uj Z (Pv.neNilT Z)<|nl<|cj Z (fun h12=>?_) (fun h12=>absurd h12 (by decide))
 refine sj [.p,.p,.p,.e,.p,.p] Z<|mj Z<|mj Z<|mj Z<|Rg.callA Z Z Z (mz Z) (toErrN_spec (Or.inr (hF' _ _ hF))) ?_
 rintro _ s16 ⟨T2,p2,rfl⟩
 refine aj Z<|aj Z<|nl ?_
 exact vr (hl':=[]) rfl (.cons (.tmp rfl) (tz Z)) ⟨_,_,rfl⟩ pulled
end
open ED (Eg egV egC edgeE InE grV)
abbrev ruC (p:Prg) (N:Int) (ve:Value) (S M B:Int):List Value:=[.int .i64 p.kind,.int .u32 (p.start:Int),.int .i64 N,ve,.int .i64 S,.int .i64 M,.int .i64 B]
abbrev ruV (p:Prg) (N:Int) (ve:Value) (S M B:Int):Value:=.agg #[.int .i64 p.kind,.int .u32 (p.start:Int),.int .i64 N,ve,.int .i64 S,.int .i64 M,.int .i64 B]
def tcS (S:Int):Nat:=1+andN S 65535 % 6
def tcM (M:Int):Nat:=andN M 65535 % 7
def tcB (B:Int):Nat:=1+andN B 65535 % 20
section
variable {F : Fm} {p : Prg} {ve : Value} {es0 : List Eg}
set_option maxHeartbeats 2000000 in
theorem cut_spec (ha:Arg edgeE F ve es0) (hE:∀e∈es0,InE e) (hp:p.start<4294967296) (N S M B:Int) :
 Spec Tryz.prog 7 #[ruV p N ve S M B] F [] fun v s=>∃u S' M' B' ok,v=.tuple #[ruV p N u S' M' B',.bool ok]∧Own edgeE u (es0.take 15) s ∧
  (ok=true→ED.rightG N (es0.take 15)=true∧N≤12∧rightP p N=true∧S'=(tcS S:Int)∧M'=(tcM M:Int)∧B'=(tcB B:Int))∧(ED.rightG N (es0.take 15)=true→N≤12→rightP p N=true→ok=true):=by
 obtain ⟨pv,c,rfl⟩:=ha.shape
 have hcap:=ha.cap.2
 have ht:=ha.take (k:=min es0.length 15) (Nat.min_le_left _ _)
 rw [show es0.take (min es0.length 15)=es0.take 15 by rw [List.take_eq_take_iff];omega] at ht
 have hl:(es0.take 15).length≤15:=by simp;omega
 have hE':∀e∈es0.take 15,InE e:=fun e he=>hE e (List.mem_of_mem_take he)
 refine Spec.of (n:=57) (vs:=[ruV p N (.slice pv es0.length c) S M B]) Tryz.func7 rfl Tryz.ntmps7 rfl ?_
 refine sj [.e,.e,.p] Z<|Rg.box Z Z Z Z Z (fun b1=>?_)
 refine Rg.alloc Z Z Z Z (fun b2=>?_)
 refine aj Z<|nl<|wj ?_
 refine Vc.drawS [16] (sd [(0,.pure),(1,.pure),(2,.read),(4,.pure),(5,.pure),(6,.read),(7,.pure),(8,.pure),(9,.read),(10,.pure),(11,.pure),(12,.pure),(3,.eff),(13,.eff),(14,.pure),(15,.pure),(16,.eff)]) [(b1,cellsO (ruC p N (.slice pv es0.length c) S M B) 29)] pulled mixed (by kernel_rfl)<|fj Z<|fj Z<|lj Z Z<|fj Z<|fj Z<|lj Z Z<|fj Z<|fj Z<|lj Z Z<|uj Z (Pv.lenS Z)<|uj Z (Pv.asI (min es0.length 15) (Pv.min rfl rfl) (by omega))<|uj Z (Pv.slTo (min es0.length 15) rfl rfl (by omega)) ?_
 refine Rg.bslice0N (E:=edgeE) Z Z Z (fun b8 own8=>?_)
 refine Rg.appendN Z Z Z Z Z own8 ht.src (by simp<;>omega) (by simp [maxLen]<;>omega) (fun v18 s18 own18=>?_)
 obtain ⟨q,c2,rfl⟩:=own18.shape
 rw [List.nil_append] at own18 ⊢
 refine uj Z (Pv.build (c:=#[.int .i64 N,.slice q (es0.take 15).length c2]) Z Z)<|fj Z ?_
 refine Rg.storeA (us:=[.int .i64 N,.slice q (es0.take 15).length c2]) Z Z Z Z Z Z Z Z<|nl<|sj [.p,.r,.e,.p] Z<|fj Z<|rj Z (Ev.as (grV N (.slice q (es0.take 15).length c2)) (Ev.ldA Z Z) Z) ?_
 refine Rg.callP Z Z Z (mz Z) (ED.rright_spec (Arg.own own18 frz_sb) (by omega) hE' N) ?_
 rintro _ rfl
 refine aj Z<|nl<|wj<|sj [.p,.p,.p,.p,.p,.r,.p,.p] Z<|mj Z<|uj Z (Pv.not Z)<|mj Z<|Rg.split (t:=26) Z (fun h26=>?_) (fun h26=>?_)
 · have hr:ED.rightG N (es0.take 15)=false:=(by simpa using h26)
   iterate 4 (first | refine Rg.skipP rfl rfl rfl ?_ | refine Rg.skipR rfl rfl rfl ?_ | refine Rg.skipE rfl rfl rfl ?_)
   refine qj Z Z<|nl<|Vc.condT Z<|sj [.r,.e,.p] Z<|rj Z (Ev.as (ruV p N (.slice q (es0.take 15).length c2) S M B) (Ev.ldA Z Z) Z)<|Rg.storeA (us:=ruC p N (.slice q (es0.take 15).length c2) S M B) Z Z Z Z Z Z Z Z<|aj Z<|nl ?_
   exact vr (hl':=s18) rfl (.cons (.cellA rfl rfl) (tz Z)) ⟨_,S,M,B,false,rfl,own18,(fun h=>by cases h),fun h=>by rw [hr] at h;cases h⟩ pulled
 · have hr:ED.rightG N (es0.take 15)=true:=(by simpa using h26)
   refine fj Z<|fj Z<|lj Z Z<|uj Z (Pv.gtr Z Z)<|pj Z Z<|nl<|cj Z (fun h31=>?_) (fun h31=>?_)
   · simp only [dt] at h31
     refine sj [.r,.e,.p] Z<|rj Z (Ev.as (ruV p N (.slice q (es0.take 15).length c2) S M B) (Ev.ldA Z Z) Z)<|Rg.storeA (us:=ruC p N (.slice q (es0.take 15).length c2) S M B) Z Z Z Z Z Z Z Z<|aj Z<|nl ?_
     exact vr (hl':=s18) rfl (.cons (.cellA rfl rfl) (tz Z)) ⟨_,S,M,B,false,rfl,own18,(fun h=>by cases h),fun _ h=>by omega⟩ pulled
   · simp only [df] at h31
     refine kj<|sj [.p,.r,.p,.p,.p,.p,.e] Z<|fj Z<|lj Z Z<|uj Z (Pv.and rfl rfl ⟨by decide,by decide⟩)<|uj Z (Pv.remN (andN S 65535) 6 rfl rfl (by decide))<|uj Z (Pv.asI (1+andN S 65535 % 6) (Pv.add rfl rfl (by omega)) (by omega))<|fj Z ?_
     refine Rg.store Z Z Z Z Z Z Z Z<|nl<|sj [.p,.r,.p,.p,.p,.e] Z<|fj Z<|lj Z Z<|uj Z (Pv.and rfl rfl ⟨by decide,by decide⟩)<|uj Z (Pv.remN (andN M 65535) 7 rfl rfl (by decide))<|fj Z ?_
     refine Rg.store Z Z Z Z Z Z Z Z<|nl<|sj [.p,.r,.p,.p,.p,.p,.e] Z<|fj Z<|lj Z Z<|uj Z (Pv.and rfl rfl ⟨by decide,by decide⟩)<|uj Z (Pv.remN (andN B 65535) 20 rfl rfl (by decide))<|uj Z (Pv.asI (1+andN B 65535 % 20) (Pv.add rfl rfl (by omega)) (by omega))<|fj Z ?_
     refine Rg.store Z Z Z Z Z Z Z Z<|nl<|wj ?_
     refine Vc.draw [7] (sd [(0,.read),(1,.pure),(2,.read),(3,.pure),(4,.pure),(5,.read),(6,.eff),(7,.eff),(8,.pure)]) mixed (by kernel_rfl)<|rj Z (Ev.as (ruV p N (.slice q (es0.take 15).length c2) (tcS S:Int) (tcM M:Int) (tcB B:Int)) (Ev.ldA Z Z) Z)<|fj Z<|rj Z (Ev.as (prV p) (Ev.ldA Z Z) Z)<|fj Z<|fj Z<|lj Z Z ?_
     refine Rg.callP Z Z Z (mz Z) (rright13_spec hp N) ?_
     rintro _ rfl
     refine Rg.storeA (us:=ruC p N (.slice q (es0.take 15).length c2) (tcS S:Int) (tcM M:Int) (tcB B:Int)) Z Z Z Z Z Z Z Z<|aj Z<|nl ?_
     exact vr (hl':=s18) rfl (.cons (.cellA rfl rfl) (tz Z)) ⟨_,_,_,_,rightP p N,rfl,own18,fun h=>⟨hr,by omega,h,rfl,rfl,rfl⟩,fun _ _ h=>h⟩ pulled
structure QuS where
 j:Nat
 x:Value
 y:Value
 sc:Hl
set_option maxHeartbeats 2000000 in
theorem quiet_spec {n most d:Nat} {es:List Eg} (hp:p.start<4294967296) (hr:rightP p (n:Int)=true) (hn:n≤1048576) (hin:∀j,InC (conf p n es j) n) (hG:InG n es) (hel:es.length≤1000000) (ha:Arg edgeE F ve es) (hEn:Ends p n es most d) (hm:most<1000) :
 Spec Tryz.prog 13 #[prV p,grV (n:Int) ve,.int .i64 (most:Int)] F [] fun v _=>v=.int .i64 (d:Int):=by
 obtain ⟨pe,ce,rfl⟩:=ha.shape
 refine Spec.of (n:=27) (vs:=[prV p,grV (n:Int) (.slice pe es.length ce),.int .i64 (most:Int)]) Tryz.func13 rfl Tryz.ntmps13 rfl ?_
 refine sj [.e,.e,.p] Z<|Rg.box Z Z Z Z Z (fun b3=>?_)
 refine Rg.box Z Z Z Z Z (fun b4=>?_)
 refine aj Z<|nl<|sj [.r,.r,.e,.e,.e] Z<|rj Z (Ev.as (prV p) (Ev.ldA Z Z) Z)<|rj Z (Ev.as (grV (n:Int) (.slice pe es.length ce)) (Ev.ldA Z Z) Z)<|Rg.callA Z Z Z (mz Z) (rstart_spec hp n hn hr) ?_
 rintro _ s12 ⟨x0,y0,q1,q2,rfl,o1,o2,rfl⟩
 have hx0:=o1.one
 have hy0:=o2.one
 rw [lx]
 refine Rg.alloc Z Z Z Z (fun b7=>?_)
 refine Rg.storeA (us:=[x0,y0]) rfl rfl rfl rfl rfl (by simp [hx0,hy0]) rfl rfl<|nl<|wj<|sj [.p] Z<|aj Z<|nl<|bj ?_
 refine Vc.loop1 (fun (S:QuS)=>S.j≤d∧S.x.oneCell'=true∧S.y.oneCell'=true∧CfO (cfV S.x S.y) (conf p n es S.j) S.sc) (fun S=>[(2,.int .i64 (most:Int)),(3,.pointer (some ⟨b3,0,none⟩)),(4,.pointer (some ⟨b4,0,none⟩)),(7,.pointer (some ⟨b7,0,none⟩)),(8,.int .i64 (S.j:Int))]) (fun S=>(b3,cellsO (prC p) 24)::(b4,cellsO [.int .i64 (n:Int),.slice pe es.length ce] 27)::(b7,cellsO [S.x,S.y] 84)::S.sc) (fun S=>d-S.j) (⟨0,x0,y0,q1++q2⟩:QuS) ⟨Nat.zero_le _,hx0,hy0,x0,y0,q1,q2,Z,o1,o2,Z⟩ (.cons Z (.cons Z (.cons Z (.cons Z (.cons Z .nil))))) pulled ?_
 rintro ⟨j,x,y,sc⟩ ⟨hj,hx,hy,hcf⟩
 simp only at hj hx hy hcf ⊢
 refine wj<|sj [.p,.p,.p] Z<|mj Z<|mj Z<|uj Z (Pv.lss Z Z)<|nl<|cj Z (fun h15=>?_) (fun h15=>?_)
 · have hjm:j<most:=by simpa using h15
   refine kj<|wj<|bj<|sj [.r,.e,.p] Z<|rj Z (Ev.as (cfV x y) (Ev.ldA Z Z) Z)<|Rg.callP Z Z Z (mz Z) (rquiet_spec (hcf.arg2 (hin j) fun b o h=>Or.inl (by simp [h]))) ?_
   rintro _ rfl
   refine aj Z<|nl<|wj<|sj [.p] Z<|mj Z<|nl<|cj Z (fun h20=>?_) (fun h20=>?_)
   · have hjd:=hEn.stop hj (.inr h20)
     refine sj [.p,.p] Z<|mj Z<|aj Z<|nl<|vz Z (tz Z) ?_
     show Value.int .i64 (j:Int)=.int .i64 (d:Int);rw [hjd]
   · have hj1:=hEn.go hj hjm h20
     refine kj<|tj [.r,.r,.r,.e,.e] Z<|rj Z (Ev.as (prV p) (Ev.ldA Z Z) Z)<|rj Z (Ev.as (grV (n:Int) (.slice pe es.length ce)) (Ev.ldA Z Z) Z)<|rj Z (Ev.as (cfV x y) (Ev.ldA Z Z) Z)<|Rg.callA Z Z Z (mz Z) (rstep_spec hp (hin j) hG hel (ha.mono fun b o h=>Or.inr h) (hcf.arg2 (hin j) fun b o h=>Or.inl (by simp [h]))) ?_
     rintro _ s25 ⟨x2,y2,r1,r2,rfl,o3,o4,rfl⟩
     have hx2:=o3.one
     have hy2:=o4.one
     rw [lx]
     refine Rg.storeA (us:=[x2,y2]) rfl rfl rfl rfl rfl (by simp [hx2,hy2]) rfl rfl<|nl<|dj<|tj [.p,.p,.p] Z<|mj Z<|uj Z (Pv.asI (j+1) (Pv.add rfl rfl (by omega)) (by omega))<|aj Z<|nl ?_
     exact Vc.inv1 (⟨j+1,x2,y2,r1++r2⟩:QuS) ⟨⟨hj1,hx2,hy2,x2,y2,r1,r2,rfl,o3,o4,rfl⟩,by show d-(j+1)<d-j;omega⟩ (.cons rfl (.cons rfl (.cons rfl (.cons rfl (.cons rfl .nil))))) pulled
 · have hjd:=hEn.stop hj (.inl (by simpa using h15))
   have hdm:=hEn.le
   have hjm:j=most:=by have : ¬j<most:=(by simpa using h15);omega
   refine Vc.exit Z<|sj [.p,.p] Z<|mj Z<|aj Z<|nl<|vz Z (tz Z) ?_
   show Value.int .i64 (most:Int)=.int .i64 (d:Int);rw [←hjd,hjm]
end
end Go.Proofs.YtkpiakgmkpbikaaGreatDoor
namespace Go.Proofs.YtkpiakgmkpbikaaGreatDoor
namespace ED
theorem getB_mid (A B:List UInt8) (n:Nat) (hn:n<4294967296):getB (A++(leBytes 4 n++B)) A.length 4=n:=by
 unfold getB
 rw [List.drop_left' rfl,List.take_left' (leBytes_length 4 n),leNum_leBytes]
 exact Nat.mod_eq_of_lt (by simpa using hn)
theorem encE_split (e:Eg):encE e=leBytes 4 e.f++(leBytes 4 e.t++leBytes 4 e.w):=by simp [encE,nums]
theorem encG_length (M:Nat) (es:List Eg):(encG M es).length=4+12*es.length:=by
 rw [encG,ly,leBytes_length,encs_length]
theorem encG_head (M:Nat) (hM:M≤1048576) (es:List Eg):getB (encG M es) 0 4=M:=by
 have:=getB_mid [] (es.flatMap encE) M (by omega)
 simpa [encG] using this
theorem encG_at (M:Nat) (es:List Eg) (hE:∀e∈es,InE e) {i:Nat} (hi:i<es.length):egAt (encG M es) i=es[i]! := by
 have hx:es[i]! = es[i]:=getElem!_pos es i hi
 have hin:InE es[i]! := by rw [hx];exact hE _ (List.getElem_mem _)
 have e1:es=es.take i++(es[i]! :: es.drop (i+1)):=by
  rw [hx,←List.drop_eq_getElem_cons hi,List.take_append_drop]
 have hl:(es.take i).length=i:=by simp;omega
 generalize hA:es.take i=A at e1 hl
 generalize hB:es.drop (i+1)=B at e1
 generalize es[i]! = x at e1 hin ⊢
 subst e1
 have hb:encG M (A++x::B)=(leBytes 4 M++A.flatMap encE)++(encE x++B.flatMap encE):=by simp [encG]
 have hlA:(leBytes 4 M++A.flatMap encE).length=4+12*i:=by rw [ly,leBytes_length,encs_length,hl]
 rw [hb,encE_split]
 generalize leBytes 4 M++A.flatMap encE=C at hlA
 generalize B.flatMap encE=D
 have g1:getB (C++(leBytes 4 x.f++(leBytes 4 x.t++leBytes 4 x.w)++D)) (4+12*i) 4=x.f:=by
  have:=getB_mid C ((leBytes 4 x.t++leBytes 4 x.w)++D) x.f hin.1
  rw [hlA] at this
  simpa using this
 have g2:getB (C++(leBytes 4 x.f++(leBytes 4 x.t++leBytes 4 x.w)++D)) (4+12*i+4) 4=x.t:=by
  have:=getB_mid (C++leBytes 4 x.f) (leBytes 4 x.w++D) x.t hin.2.1
  rw [ly,hlA,leBytes_length] at this
  simpa using this
 have g3:getB (C++(leBytes 4 x.f++(leBytes 4 x.t++leBytes 4 x.w)++D)) (4+12*i+8) 4=x.w:=by
  have:=getB_mid (C++leBytes 4 x.f++leBytes 4 x.t) D x.w hin.2.2
  rw [ly,ly,hlA,leBytes_length,leBytes_length] at this
  simpa [Nat.add_assoc] using this
 unfold egAt
 rw [g1,g2,g3]
theorem scan_none {n:Nat} {bs:List UInt8}:∀(k i:Nat),(∀j,i≤j→j<i+k→(egAt bs j).f<n∧(egAt bs j).t<n)→scanE n bs i k=none
 | 0,_,_=>rfl
 | k+1,i,h=>by
  have h0:=h i (Nat.le_refl _) (by omega)
  rw [scanE,if_neg (by omega),if_neg (by omega)]
  exact scan_none k (i+1) fun j h1 h2=>h j (by omega) (by omega)
theorem rightG_all {M:Nat} {es:List Eg} (h:rightG (M:Int) es=true):M≤1048576∧es.length≤1048576∧∀e∈es,e.f<M∧e.t<M:=by
 simp only [rightG,Bool.and_eq_true,dt,Bool.not_eq_true',List.any_eq_false,Bool.or_eq_true,not_or] at h
 refine ⟨by omega,by omega,fun e he=>?_⟩
 have:=h.2 e he
 omega
theorem getE_mem {es:List Eg} {j:Nat} (h:j<es.length):es[j]! ∈ es:=by rw [getElem!_pos es j h];exact List.getElem_mem _
theorem dec_enc {M:Nat} {es:List Eg} (hE:∀e∈es,InE e) (h:rightG (M:Int) es=true):decG (encG M es)=(M,es,0,0):=by
 obtain ⟨h1,h2,h3⟩:=rightG_all h
 have hl:=encG_length M es
 have hm:(encG M es).length % 12=4:=by omega
 have hk:(encG M es).length / 12=es.length:=by omega
 have hs:scanE M (encG M es) 0 es.length=none:=scan_none _ _ fun j _ hj=>by
  rw [encG_at M es hE (by omega)];exact h3 _ (getE_mem (by omega))
 have hr:(List.range es.length).map (egAt (encG M es))=es:=by
  apply List.ext_getElem (by simp)
  intro j hj1 hj2
  rw [List.getElem_map,List.getElem_range,encG_at M es hE hj2,getElem!_pos es j hj2]
 simp [decG,hm,encG_head M h1,hk,show ¬1048576<M by omega,show ¬1048576<es.length by omega,hs,hr]
end ED
open ED (Eg)
theorem ok_of {n:Nat} {es:List Eg} (h:ED.rightG (n:Int) es=true) (hE:∀e∈es,ED.InE e):OkG n es∧InG n es:=by
 obtain ⟨_,_,h3⟩:=ED.rightG_all h
 exact ⟨fun e he=>⟨(h3 e he).2,hE e he⟩,fun e he=>⟨(h3 e he).1,(h3 e he).2,hE e he⟩⟩
end Go.Proofs.YtkpiakgmkpbikaaGreatDoor
