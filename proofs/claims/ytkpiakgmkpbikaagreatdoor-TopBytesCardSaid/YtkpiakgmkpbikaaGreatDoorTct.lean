/- Steps of the proof. -/
import Derived.Test.YtkpiakgmkpbikaaGreatDoorTcf
import Derived.Lib.BufferWrite
import Derived.Lib.UnsafeStr
set_option linter.unusedVariables false
namespace Go.Proofs.YtkpiakgmkpbikaaGreatDoor
open ED (Eg egV egC edgeE InE grV)
theorem Ev.ldG {P:Program} {n:Nf} {F:Fm} {l:Env} {hl:Hl} {d:Option Tmp} {ty:TypeId} {pos:String} {af:Array Edge} {g:Option (Nat×Bool)} {t b off:Nat} {e:TypeId} {z:Nat×Nat} {vs:List Value} {v:Value} {x:Operand} [ht:TyOne P t] (hx:ev l x=some (.pointer (some ⟨b,off,none⟩))) (hF:F.at_ b (.cells vs.toArray e z)) (hv:nth vs off=some v):Ev P n F l hl ⟨d,.load t x,ty,pos,af,g⟩ v:=fun a w hf hs=>by
 obtain ⟨hn,hh⟩:=hs
 have h1:=run_loadVar1 (P:=P) (t:=t) (hh.frame b _ hF) hv
 simp [execOp,hf.ev hx,Instr.loadAt,Instr.sureAddr,h1]
abbrev plT (db:Nat) (ep:Value) (B:Int):List Value:=[.int .u32 0,.int .u32 0,.int .i32 0,.int .u32 0,.pointer (some ⟨db,0,none⟩),ep,.int .i64 B,.bool false]
abbrev plO (st:Int) (db:Nat) (ep:Value) (B:Int):Obj:=cellsO (.int .i32 st::plT db ep B) 70
abbrev kI (k:Int):Value:=.int .i64 k
instance : KeyTy Tryz.prog 3 kI:=KeyTy.of ⟨.int .i64,Tryz.underlying3,fun _=>rfl⟩ (fun a b h=>by simpa [kI] using h)
def Table (F:Fm) (k:Int) (f:Nat):Prop:=∃T z mb ms clock,F.at_ 0 (.cells [Value.map (some mb)].toArray T z)∧F.at_ mb (mapO kI ms clock)∧(ms.map (·.k)).Nodup∧(findM ms k).map (·.v)=some (.func (.func f) #[] #[])
theorem Table.mono {F F':Fm} {k:Int} {f:Nat} (h:Table F k f) (hF:∀b o,F.at_ b o→F'.at_ b o):Table F' k f:=by
 obtain ⟨T,z,mb,ms,c,h1,h2,h3⟩:=h
 exact ⟨T,z,mb,ms,c,hF _ _ h1,hF _ _ h2,h3⟩
instance : TyUnder Tryz.prog 74 (.func #[68,43] #[38] false):=⟨Tryz.underlying74⟩
section
variable {F : Fm} {hl : Hl} {pb db : Nat} {ep : Value} {B : Int} {k n m : Int} {p : Prg} {pd pk : Option Addr} {nd cd nk ck : Nat} {post : Value → Hl → Prop}
theorem new_player (room B:Int):Spec Tryz.prog 10 #[.int .i64 room,.int .i64 B] F [] fun v s=>∃pb db s2,v=.pointer (some ⟨pb,0,none⟩)∧s=(pb,plO 0 db (.pointer none) B)::s2∧DiskAt db ⟨[],max room 0,0,0,0,[],false⟩ s2:=by
 refine Spec.of (n:=10) (vs:=[.int .i64 room,.int .i64 B]) Tryz.func10 rfl Tryz.ntmps10 rfl ?_
 refine sj [.p] Z<|aj Z<|nl<|sj [.p,.e,.p,.p,.e,.p] Z<|mj Z<|Rg.callA Z Z Z (mz Z) (new_spec _ room) ?_
 rintro _ s6 ⟨db,rfl,hD⟩
 refine mj Z<|uj Z (Pv.build (c:=#[.int .i32 0,.int .u32 0,.int .u32 0,.int .i32 0,.int .u32 0,.pointer (some ⟨db,0,none⟩),.pointer none,.int .i64 B,.bool false]) rfl (by kernel_rfl))<|Rg.box Z Z Z Z Z (fun b9=>?_)
 refine aj Z<|nl ?_
 exact vr (hl':=(b9,plO 0 db (.pointer none) B)::s6) rfl (tz Z) ⟨b9,db,s6,rfl,rfl,hD⟩ pulled
theorem doRet {N:Nat} {l:Env} {b4:Nat} {vs:List Value} {T TA:TypeId} {e a val:Int} {is:Bool} {q:Prg} {s' rest:Hl} {fn:Func} (hr:fn.results=[ResultVar.cell 4 38].toArray) (h4:lk l 4=some (.pointer (some ⟨b4,0,none⟩)))
 (hpost:post (anV e a val is q) ((pb,cellsO (.int .i32 0::vs) T)::s')) (hp:hl.Perm (((pb,cellsO (.int .i32 1::vs) T)::(b4,cellsO (anC e a val is q) TA)::s')++rest)) :
 QRet (SpecQ Tryz.prog fn F post) ⟨N,none,[],[{ target:=.fn (.func 18) #[],args:=#[.pointer (some ⟨pb,0,none⟩)] }]⟩ F l hl :=
 Vc.retsX (pre:=[(pb,cellsO (.int .i32 1::vs) T)]) (rest:=(b4,cellsO (anC e a val is q) TA)::(s'++rest)) rfl hp unlockD_spec (fun w=>by simp [invoke,(inferInstance:TyCall Tryz.prog 18).call]) hr fun v s hs=>by
  subst hs
  refine ⟨[anV e a val is q],(pb,cellsO (.int .i32 0::vs) T)::s',(b4,cellsO (anC e a val is q) TA)::rest,.cons (.cellA h4 rfl) .nil,hpost,?_⟩
  show ((pb,cellsO (.int .i32 0::vs) T)::(b4,cellsO (anC e a val is q) TA)::(s'++rest)).Perm ((pb,cellsO (.int .i32 0::vs) T)::(s'++((b4,cellsO (anC e a val is q) TA)::rest)))
  exact List.Perm.cons _ List.perm_middle.symm
set_option maxHeartbeats 2000000 in
theorem do_call {eb:Nat} {f:Nat} [TyCall Tryz.prog f] (h1:k≠1) (h6:k≠6) (h7:k≠7) (hT:Table F k f) (h:∀F',(∀b o,F.at_ b o→F'.at_ b o)→Spec Tryz.prog f #[.pointer (some ⟨eb,0,none⟩),spV k n m p (.slice pd nd cd) (.slice pk nk ck)] F' hl post) (hq:∀v s,post v s→∃e a val is q,v=anV e a val is q) :
 Spec Tryz.prog 9 #[.pointer (some ⟨pb,0,none⟩),spV k n m p (.slice pd nd cd) (.slice pk nk ck)] F ((pb,plO 0 db (.pointer (some ⟨eb,0,none⟩)) B)::hl) fun v s=>∃s',s=(pb,plO 0 db (.pointer (some ⟨eb,0,none⟩)) B)::s'∧post v s':=by
 obtain ⟨TG,zG,mb,ms,clock,hF0,hFm,hnd,hfm⟩:=hT
 have i1:Fat F mb (mapO kI ms clock):=⟨hFm⟩
 refine Spec.of (n:=68) (vs:=[.pointer (some ⟨pb,0,none⟩),spV k n m p (.slice pd nd cd) (.slice pk nk ck)]) Tryz.func9 rfl Tryz.ntmps9 rfl ?_
 refine sj [.e,.e] Z<|Rg.box Z Z Z Z Z (fun b3=>?_)
 refine Rg.alloc Z Z Z Z (fun b4=>?_)
 refine nl<|sj [.p,.p,.p,.e] Z<|mj Z<|nj Z<|fj Z ?_
 refine Rg.callH Z Z Z (mz Z) (fun F' hF'=>lock_spec (F:=F') (pb:=pb) (vs:=plT db (.pointer (some ⟨eb,0,none⟩)) B) (T:=70)) Z ?_
 rintro _ _ ⟨rfl,rfl⟩
 refine nl<|wj ?_
 refine Vc.putOff (d:={ target:=.fn (.func 18) #[],args:=#[.pointer (some ⟨pb,0,none⟩)] }) rfl rfl rfl rfl (by intro c hc;cases hc) rfl (Pv.move rfl) rfl rfl (by intro c hc;cases hc) rfl (Pv.nilp rfl) rfl rfl (by intro c hc;cases hc) rfl (Pv.fa rfl) rfl rfl (fun a w hf=>by have h12:=hf.has 12 (.pointer (some ⟨pb,0,none⟩)) rfl;simp [execOp,go_sem,h12])<|wj<|sj [.p,.p,.p,.r] Z<|mj Z<|nj Z<|fj Z<|lj Z Z<|nl<|cj Z (fun h16=>absurd h16 (by decide)) (fun h16=>?_)
 refine kj<|wj<|sj [.p,.r] Z<|fj Z<|lj Z Z<|nl<|bj<|sj [.p,.p] Z<|uj Z (Pv.eql Z Z)<|aj Z<|nl<|cj Z (fun h20=>absurd h20 (by (simp only [beq_iff_eq];exact h1))) (fun h20=>?_)
 refine sj [.p,.p] Z<|uj Z (Pv.eql Z Z)<|aj Z<|nl<|cj Z (fun h24=>absurd h24 (by (simp only [beq_iff_eq];exact h6))) (fun h24=>?_)
 refine sj [.p,.p] Z<|uj Z (Pv.eql Z Z)<|aj Z<|nl<|cj Z (fun h34=>absurd h34 (by (simp only [beq_iff_eq];exact h7))) (fun h34=>?_)
 refine kj<|dj<|sj [.r,.p,.r,.r,.p] Z<|rj Z (Ev.ldG Z hF0 Z)<|fj Z<|lj Z Z<|rj Z (Ev.as (.func (.func f) #[] #[]) (Ev.lookup (ms:=ms) (kv:=kI) (k:=k) rfl rfl hnd) (by rw [hfm];rfl))<|aj Z<|nl<|wj<|bj<|sj [.p,.p,.p] Z<|mj Z<|uj Z (Pv.eqFnF Z)<|aj Z ?_
 refine nl<|cj Z (fun h50=>absurd h50 (by decide)) (fun h50=>?_)
 refine sj [.p,.p,.p,.r,.p,.p] Z<|mj Z<|nj Z<|fj Z<|lj Z Z<|uj Z (Pv.eqlNil Z Z)<|aj Z<|nl<|cj Z (fun h54=>absurd h54 (by simp)) (fun h54=>?_)
 refine kj<|dj<|wj ?_
 refine Vc.draw [6,7] (sd [(0,.pure),(1,.pure),(2,.pure),(3,.pure),(4,.read),(5,.read),(6,.eff),(7,.eff)]) mixed (by kernel_rfl)<|mj Z<|mj Z<|nj Z<|fj Z<|lj Z Z<|rj Z (Ev.as (spV k n m p (.slice pd nd cd) (.slice pk nk ck)) (Ev.ldA Z Z) Z) ?_
 refine Rg.callH Z Z Z (run_callV Z Z) (fun F' hF'=>h F' (fun b o hb=>hF' b o (.inr hb))) Z ?_
 rintro v67 s67 h67
 obtain ⟨e,a,val,is,q,rfl⟩:=hq _ _ h67
 refine Rg.storeA (us:=anC e a val is q) Z Z Z Z Z Z Z Z<|nl ?_
 exact Vc.ret (doRet (s':=s67) (TA:=38) rfl rfl ⟨s67,rfl,h67⟩ pulled)
end
abbrev upD (D:Dk):Dk:={ D with down:=false }
def Opened (C:Cx) (db:Nat) (B:Int) (mo:Option Ma) (D:Dk) (e:Int) (ep:Value) (s1:Hl) (D':Dk):Prop:=Wz C D' ∧
 ((e=0∧(∃eb,ep=.pointer (some ⟨eb,0,none⟩)∧s1=[(eb,enO db B (mo.getD ma0) mo.isSome false)])∧Gd (fun k=>¬Stays k (mo.getD ma0) mo.isSome) (upD D) D'∧∀k,¬Stays k (mo.getD ma0) mo.isSome→findF D'.files k=none) ∨
  (e=7∧ep=.pointer none∧s1=[]∧Dn (fun k=>¬Stays k (mo.getD ma0) mo.isSome) (upD D) D'))
theorem Opened.one {C:Cx} {db:Nat} {B:Int} {mo:Option Ma} {D:Dk} {e:Int} {ep:Value} {s1:Hl} {D':Dk} (h:Opened C db B mo D e ep s1 D'):ep.oneCell'=true:=by
 rcases h.2 with ⟨_,⟨eb,rfl,_⟩,_⟩ | ⟨_,rfl,_⟩<;>rfl
section
variable {F : Fm} {s : Hl} {pb db : Nat} {ep : Value} {B : Int} {k n m : Int} {p : Prg} {pd pk : Option Addr} {nd cd nk ck : Nat} {C : Cx} {D : Dk} {mo : Option Ma}
theorem opens_z (hA:AtoiN F) (hN:NmsOk C) (hS:SlotsO D mo) (hsh:(mo.getD ma0).sh<100) (hB:1≤B) (hC:C.Ok) (hD:DiskAt db D s) (hw:Wz C D) :
 Spec Tryz.prog 19 #[.pointer (some ⟨pb,0,none⟩)] F ((pb,plO 1 db ep B)::s) fun v s'=>∃e ep' s1 g D',v=anV e 0 0 false ⟨0,0⟩∧s'=(pb,plO 1 db ep' B)::(s1++g)∧DiskAt db D' g∧Opened C db B mo D e ep' s1 D':=by
 refine Spec.of (n:=25) (vs:=[.pointer (some ⟨pb,0,none⟩)]) Tryz.func19 rfl Tryz.ntmps19 rfl ?_
 refine sj [.e] Z<|Rg.alloc Z Z Z Z (fun b2=>?_)
 refine nl<|sj [.p,.p,.p,.r,.e] Z<|mj Z<|nj Z<|fj Z<|lj Z Z ?_
 refine Rg.callH Z Z Z (mz Z) (fun F' hF'=>restartD_spec (F:=F') hD) Z ?_
 rintro _ g0 hD0
 refine nl<|wj ?_
 refine Vc.draw [9,15,17] (sd [(0,.pure),(1,.pure),(2,.pure),(3,.pure),(4,.read),(5,.pure),(6,.pure),(7,.pure),(8,.read),(9,.eff),(10,.pure),(11,.pure),(12,.pure),(13,.pure),(14,.pure),(15,.eff),(16,.pure),(17,.eff)]) mixed (by kernel_rfl)<|mj Z<|mj Z<|nj Z<|fj Z<|lj Z Z<|mj Z<|nj Z<|fj Z<|lj Z Z ?_
 refine Rg.callH Z Z Z (mz Z) (fun F' hF'=>open_z (F:=F') (D:=upD D) (mo:=mo) (fun F2 hF2=>hA F2 fun b o h=>hF2 b o (hF' b o (.inr h))) hN (hS.same fun _ _=>Z) hsh hB hC hD0 (hw.up false) Z) Z ?_
 rintro _ _ ⟨u,e,D1,s1,g1,rfl,rfl,hD1,hw1,hO1⟩
 have hop:Opened C db B mo D e u s1 D1:=⟨hw1,hO1⟩
 have hu:=hop.one
 rw [lx]
 refine mj Z<|xj Z Z<|xj Z Z<|nj Z<|fj Z ?_
 refine Rg.store (v:=u) Z Z Z Z Z hu Z Z<|fj Z ?_
 refine Rg.store Z Z Z Z Z Z Z Z<|nl<|sj [.r,.e] Z<|rj Z (Ev.as (anV e 0 0 false ⟨0,0⟩) (Ev.ldA Z Z) Z)<|Rg.storeA (us:=anC e 0 0 false ⟨0,0⟩) Z Z Z Z Z Z Z Z<|nl ?_
 exact vr (hl':=(pb,plO 1 db u B)::(s1++g1)) rfl (.cons (.cellA rfl rfl) .nil) ⟨e,u,s1,g1,D1,rfl,rfl,hD1,hop⟩ pulled
set_option maxHeartbeats 2000000 in
theorem do_open (hA:AtoiN F) (hN:NmsOk C) (hS:SlotsO D mo) (hsh:(mo.getD ma0).sh<100) (hB:1≤B) (hC:C.Ok) (hD:DiskAt db D s) (hw:Wz C D) :
 Spec Tryz.prog 9 #[.pointer (some ⟨pb,0,none⟩),spV 1 n m p (.slice pd nd cd) (.slice pk nk ck)] F ((pb,plO 0 db ep B)::s) fun v s'=>∃e ep' s1 g D',v=anV e 0 0 false ⟨0,0⟩∧s'=(pb,plO 0 db ep' B)::(s1++g)∧DiskAt db D' g∧Opened C db B mo D e ep' s1 D':=by
 refine Spec.of (n:=68) (vs:=[.pointer (some ⟨pb,0,none⟩),spV 1 n m p (.slice pd nd cd) (.slice pk nk ck)]) Tryz.func9 rfl Tryz.ntmps9 rfl ?_
 refine sj [.e,.e] Z<|Rg.box Z Z Z Z Z (fun b3=>?_)
 refine Rg.alloc Z Z Z Z (fun b4=>?_)
 refine nl<|sj [.p,.p,.p,.e] Z<|mj Z<|nj Z<|fj Z ?_
 refine Rg.callH Z Z Z (mz Z) (fun F' hF'=>lock_spec (F:=F') (pb:=pb) (vs:=plT db ep B) (T:=70)) Z ?_
 rintro _ _ ⟨rfl,rfl⟩
 refine nl<|wj ?_
 refine Vc.putOff (d:={ target:=.fn (.func 18) #[],args:=#[.pointer (some ⟨pb,0,none⟩)] }) rfl rfl rfl rfl (by intro c hc;cases hc) rfl (Pv.move rfl) rfl rfl (by intro c hc;cases hc) rfl (Pv.nilp rfl) rfl rfl (by intro c hc;cases hc) rfl (Pv.fa rfl) rfl rfl (fun a w hf=>by have h12:=hf.has 12 (.pointer (some ⟨pb,0,none⟩)) rfl;simp [execOp,go_sem,h12])<|wj<|sj [.p,.p,.p,.r] Z<|mj Z<|nj Z<|fj Z<|lj Z Z<|nl<|cj Z (fun h16=>absurd h16 (by decide)) (fun h16=>?_)
 refine kj<|wj<|sj [.p,.r] Z<|fj Z<|lj Z Z<|nl<|bj<|sj [.p,.p] Z<|uj Z (Pv.eql Z Z)<|aj Z<|nl<|cj Z (fun h20=>?_) (fun h20=>absurd h20 (by decide))
 refine sj [.p,.e,.e] Z<|mj Z<|Rg.callH Z Z Z (mz Z) (fun F' hF'=>opens_z (F:=F') (ep:=ep) (B:=B) (fun F2 hF2=>hA F2 fun b o h=>hF2 b o (hF' b o (.inr h))) hN hS hsh hB hC hD hw) Z ?_
 rintro _ _ ⟨e,ep',s1,g,D',rfl,rfl,hD',hO⟩
 refine Rg.storeA (us:=anC e 0 0 false ⟨0,0⟩) Z Z Z Z Z Z Z Z<|nl ?_
 exact Vc.ret (doRet (vs:=plT db ep' B) (T:=70) (s':=s1++g) (TA:=38) rfl rfl ⟨e,ep',s1,g,D',rfl,rfl,hD',hO⟩ pulled)
set_option maxHeartbeats 2000000 in
theorem do_crash (hC:C.Ok) (hD:DiskAt db D s) (hw:Wz C D) {ks:List Bool} (hk:Arg boolE F (.slice pk ks.length ck) ks) :
 Spec Tryz.prog 9 #[.pointer (some ⟨pb,0,none⟩),spV 6 n m p (.slice pd nd cd) (.slice pk ks.length ck)] F ((pb,plO 0 db ep B)::s) fun v s'=>∃g,v=anV 0 0 0 false ⟨0,0⟩∧s'=(pb,plO 0 db ep B)::g∧DiskAt db (crashD ks D) g:=by
 have hz:=hw.dz hC
 refine Spec.of (n:=68) (vs:=[.pointer (some ⟨pb,0,none⟩),spV 6 n m p (.slice pd nd cd) (.slice pk ks.length ck)]) Tryz.func9 rfl Tryz.ntmps9 rfl ?_
 refine sj [.e,.e] Z<|Rg.box Z Z Z Z Z (fun b3=>?_)
 refine Rg.alloc Z Z Z Z (fun b4=>?_)
 refine nl<|sj [.p,.p,.p,.e] Z<|mj Z<|nj Z<|fj Z ?_
 refine Rg.callH Z Z Z (mz Z) (fun F' hF'=>lock_spec (F:=F') (pb:=pb) (vs:=plT db ep B) (T:=70)) Z ?_
 rintro _ _ ⟨rfl,rfl⟩
 refine nl<|wj ?_
 refine Vc.putOff (d:={ target:=.fn (.func 18) #[],args:=#[.pointer (some ⟨pb,0,none⟩)] }) rfl rfl rfl rfl (by intro c hc;cases hc) rfl (Pv.move rfl) rfl rfl (by intro c hc;cases hc) rfl (Pv.nilp rfl) rfl rfl (by intro c hc;cases hc) rfl (Pv.fa rfl) rfl rfl (fun a w hf=>by have h12:=hf.has 12 (.pointer (some ⟨pb,0,none⟩)) rfl;simp [execOp,go_sem,h12])<|wj<|sj [.p,.p,.p,.r] Z<|mj Z<|nj Z<|fj Z<|lj Z Z<|nl<|cj Z (fun h16=>absurd h16 (by decide)) (fun h16=>?_)
 refine kj<|wj<|sj [.p,.r] Z<|fj Z<|lj Z Z<|nl<|bj<|sj [.p,.p] Z<|uj Z (Pv.eql Z Z)<|aj Z<|nl<|cj Z (fun h20=>absurd h20 (by decide)) (fun h20=>?_)
 refine sj [.p,.p] Z<|uj Z (Pv.eql Z Z)<|aj Z<|nl<|cj Z (fun h24=>?_) (fun h24=>absurd h24 (by decide))
 refine wj ?_
 refine Vc.draw [6] (sd [(0,.pure),(1,.pure),(2,.pure),(3,.read),(4,.pure),(5,.read),(6,.eff)]) mixed (by kernel_rfl)<|mj Z<|nj Z<|fj Z<|lj Z Z<|fj Z<|lj Z Z ?_
 refine Rg.callH Z Z Z (mz Z) (fun F' hF'=>crashD_spec (F:=F') hD hz (hk.mono fun b o h=>hF' b o (.inr h))) Z ?_
 rintro v32 g hD1
 refine nl<|sj [.p,.e] Z<|uj Z (Pv.build Z Z)<|Rg.storeA (us:=anC 0 0 0 false ⟨0,0⟩) Z Z Z Z Z Z Z Z<|nl ?_
 exact Vc.ret (doRet (vs:=plT db ep B) (T:=70) (s':=g) (TA:=38) (e:=0) (a:=0) (val:=0) (is:=false) (q:=⟨0,0⟩) rfl rfl ⟨g,rfl,rfl,hD1⟩ pulled)
end
structure Laid (F:Fm):Prop where
 t2:Table F 2 175
 t3:Table F 3 177
 t4:Table F 4 179
 t5:Table F 5 181
 atoi:AtoiN F
theorem Laid.mono {F F':Fm} (h:Laid F) (hF:∀b o,F.at_ b o→F'.at_ b o):Laid F' :=
 ⟨h.t2.mono hF,h.t3.mono hF,h.t4.mono hF,h.t5.mono hF,fun F2 hF2=>h.atoi F2 fun b o hb=>hF2 b o (hF b o hb)⟩
theorem Spec.keep {P:Program} {f:Nat} {args:Array Value} {F:Fm} {hl h2:Hl} {Q:Value→Prop} (h:Spec P f args F hl fun v s=>∃s1,Q v∧s=s1++h2):Spec P f args F hl fun v s=>Q v∧s=h2:=fun w hw =>
 (h w hw).mono fun e w' ⟨v,hl',he,⟨s1,hq,hs⟩,hh⟩=>⟨v,h2,he,⟨hq,rfl⟩,by subst hs;exact (hh.perm List.perm_append_comm).forget⟩
section
variable {F : Fm} {s : Hl} {pb db eb B K : Nat} {k N M : Int} {p : Prg} {pd pk : Option Addr} {nd cd nk ck : Nat} {C : Cx} {D : Dk} {m : Ma} {n sh d most : Nat} {es : List Eg} {bs : List UInt8}
theorem do_ingest_no (hL:Laid F) {is dd:Bool} {Bi:Int} (h:is=true∨dd=true):Spec Tryz.prog 9 #[.pointer (some ⟨pb,0,none⟩),spV 2 N M p (.slice pd nd cd) (.slice pk nk ck)] F ((pb,plO 0 db (.pointer (some ⟨eb,0,none⟩)) Bi)::[(eb,enO db Bi m is dd)]) fun v s'=>v=anV 9 0 0 false ⟨0,0⟩∧s'=(pb,plO 0 db (.pointer (some ⟨eb,0,none⟩)) Bi)::[(eb,enO db Bi m is dd)]:=by
 refine (do_call (f:=175) (by decide) (by decide) (by decide) hL.t2 (fun F' hF'=>calls1_of (fun F'' hF''=>ingest_no h) fun v s h=>⟨0,9,h.1⟩) fun v s h=>?_).mono ?_
 · obtain ⟨a,e,hv,_⟩:=h
   exact ⟨e,a,0,false,⟨0,0⟩,hv⟩
 · rintro v s ⟨s',rfl,a,e,rfl,h1,rfl⟩
   simp only [Value.tuple.injEq,Array.mk.injEq,List.cons.injEq,Value.int.injEq,and_true,true_and] at h1
   obtain ⟨rfl,rfl⟩:=h1
   exact ⟨rfl,rfl⟩
theorem do_ingest_bad (hL:Laid F) {Bi:Int} (ha:Arg byteE F (.slice pd bs.length cd) bs) (hN:bs.length<1073741824) {n0 a e:Nat} {es0:List Eg} (hd:ED.decG bs=(n0,es0,a,e)) (he:e≠0) :
 Spec Tryz.prog 9 #[.pointer (some ⟨pb,0,none⟩),spV 2 N M p (.slice pd bs.length cd) (.slice pk nk ck)] F ((pb,plO 0 db (.pointer (some ⟨eb,0,none⟩)) Bi)::[(eb,enO db Bi m false false)]) fun v s'=>v=anV (e:Int) (a:Int) 0 false ⟨0,0⟩∧s'=(pb,plO 0 db (.pointer (some ⟨eb,0,none⟩)) Bi)::[(eb,enO db Bi m false false)]:=by
 refine (do_call (f:=175) (by decide) (by decide) (by decide) hL.t2 (fun F' hF'=>calls1_of (fun F'' hF''=>ingest_bad (ha.mono fun b o h=>hF'' b o (hF' b o h)) hN hd he) fun v s h=>⟨_,_,h.1⟩) fun v s h=>?_).mono ?_
 · obtain ⟨a,e,hv,_⟩:=h
   exact ⟨e,a,0,false,⟨0,0⟩,hv⟩
 · rintro v s ⟨s',rfl,a,e,rfl,h1,rfl⟩
   simp only [Value.tuple.injEq,Array.mk.injEq,List.cons.injEq,Value.int.injEq,and_true,true_and] at h1
   obtain ⟨rfl,rfl⟩:=h1
   exact ⟨rfl,rfl⟩
theorem do_ingest_z (hL:Laid F) (hP:IngP C n sh B K es) (ha:Arg byteE F (.slice pd bs.length cd) bs) (hN:bs.length<1073741824) (hd:ED.decG bs=(n,es,0,0)) (hC:C.Ok) (hS:SlotsN D) (hcl:∀k,k≠slN 0→k≠slN 1→findF D.files k=none) (hup:D.down=false) (hD:DiskAt db D s) (hw:Wz C D) :
 Spec Tryz.prog 9 #[.pointer (some ⟨pb,0,none⟩),spV 2 (sh:Int) M p (.slice pd bs.length cd) (.slice pk nk ck)] F ((pb,plO 0 db (.pointer (some ⟨eb,0,none⟩)) (B:Int))::((eb,enO db (B:Int) m false false)::s)) fun v s'=>∃e D' m2 is2 dd2 g,v=anV e 0 0 false ⟨0,0⟩∧s'=(pb,plO 0 db (.pointer (some ⟨eb,0,none⟩)) (B:Int))::(eb,enO db (B:Int) m2 is2 dd2)::g∧DiskAt db D' g∧Wz C D' ∧
  ((e=0∧is2=true∧dd2=false∧m2=ma1 n sh∧Gd (IngT sh) D D'∧SlotsM D' m2∧Lasts n sh es D' m2∧BxF D' [])∨(e=7∧is2=false∧dd2=true∧m2=m∧Dn (IngT sh) D D'∧SlotsN D')):=by
 refine (do_call (f:=175) (by decide) (by decide) (by decide) hL.t2 (fun F' hF'=>calls1_of (fun F'' hF''=>ingest_z hP (ha.mono fun b o h=>hF'' b o (hF' b o h)) hN hd hC hS hcl hup hD hw) fun v s ⟨e,_,_,_,_,_,h,_⟩=>⟨0,e,h⟩) fun v s h=>?_).mono ?_
 · obtain ⟨a,e,hv,_⟩:=h
   exact ⟨e,a,0,false,⟨0,0⟩,hv⟩
 · rintro v s ⟨s',rfl,a,e,rfl,e',D',m2,is2,dd2,g,h1,rfl,h2⟩
   simp only [Value.tuple.injEq,Array.mk.injEq,List.cons.injEq,Value.int.injEq,and_true,true_and] at h1
   obtain ⟨rfl,rfl⟩:=h1
   exact ⟨e,D',m2,is2,dd2,g,rfl,rfl,h2⟩
theorem do_run_no (hL:Laid F) {is dd:Bool} {Bi:Int} (h:is=false∨dd=true):Spec Tryz.prog 9 #[.pointer (some ⟨pb,0,none⟩),spV 3 N M p (.slice pd nd cd) (.slice pk nk ck)] F ((pb,plO 0 db (.pointer (some ⟨eb,0,none⟩)) Bi)::[(eb,enO db Bi m is dd)]) fun v s'=>v=anV 9 0 0 false ⟨0,0⟩∧s'=(pb,plO 0 db (.pointer (some ⟨eb,0,none⟩)) Bi)::[(eb,enO db Bi m is dd)]:=by
 refine (do_call (f:=177) (by decide) (by decide) (by decide) hL.t3 (fun F' hF'=>calls2_of (fun F'' hF''=>run_no h) fun v s h=>⟨0,9,h.1⟩) fun v s h=>?_).mono ?_
 · obtain ⟨a,e,hv,_⟩:=h
   exact ⟨e,a,0,false,⟨0,0⟩,hv⟩
 · rintro v s ⟨s',rfl,a,e,rfl,h1,rfl⟩
   simp only [Value.tuple.injEq,Array.mk.injEq,List.cons.injEq,Value.int.injEq,and_true,true_and] at h1
   obtain ⟨rfl,rfl⟩:=h1
   exact ⟨rfl,rfl⟩
theorem do_run_z (hL:Laid F) (hP:GoP C p n sh es most d) (hB:1≤B) (hC:C.Ok) (hE:EI p n sh es d D m) (hbx:BxF D []) (hD:DiskAt db D s) (hw:Wz C D) :
 Spec Tryz.prog 9 #[.pointer (some ⟨pb,0,none⟩),spV 3 (most:Int) M p (.slice pd nd cd) (.slice pk nk ck)] F ((pb,plO 0 db (.pointer (some ⟨eb,0,none⟩)) (B:Int))::((eb,enO db (B:Int) m true false)::s)) fun v s'=>∃z e D' m2 dd g,v=anV e z 0 false ⟨0,0⟩∧s'=(pb,plO 0 db (.pointer (some ⟨eb,0,none⟩)) (B:Int))::(eb,enO db (B:Int) m2 true dd)::g∧DiskAt db D' g∧Wz C D'∧EI p n sh es d D' m2 ∧
  ((e=0∧z=(d:Int)∧dd=false∧Gd (GoT d) D D'∧m2.step=(d:Int)∧m2.p=p∧BxF D' [])∨(e=7∧dd=true∧Dn (GoT d) D D')):=by
 refine (do_call (f:=177) (by decide) (by decide) (by decide) hL.t3 (fun F' hF'=>calls2_of (fun F'' hF''=>engRun_z hP hB hC hE hbx hD hw) fun v s ⟨z,e,_,_,_,_,h,_⟩=>⟨z,e,h⟩) fun v s h=>?_).mono ?_
 · obtain ⟨a,e,hv,_⟩:=h
   exact ⟨e,a,0,false,⟨0,0⟩,hv⟩
 · rintro v s ⟨s',rfl,a,e,rfl,z',e',D',m2,dd2,g,h1,rfl,h2⟩
   simp only [Value.tuple.injEq,Array.mk.injEq,List.cons.injEq,Value.int.injEq,and_true,true_and] at h1
   obtain ⟨rfl,rfl⟩:=h1
   exact ⟨a,e,D',m2,dd2,g,rfl,rfl,h2⟩
theorem do_status (hL:Laid F) {is dd:Bool} {Bi:Int}:Spec Tryz.prog 9 #[.pointer (some ⟨pb,0,none⟩),spV 5 N M p (.slice pd nd cd) (.slice pk nk ck)] F ((pb,plO 0 db (.pointer (some ⟨eb,0,none⟩)) Bi)::[(eb,enO db Bi m is dd)]) fun v s'=>v=anV 0 (if is=true then m.step else -1) 0 is (if is=true then m.p else ⟨0,0⟩)∧s'=(pb,plO 0 db (.pointer (some ⟨eb,0,none⟩)) Bi)::[(eb,enO db Bi m is dd)]:=by
 refine (do_call (f:=181) (by decide) (by decide) (by decide) hL.t5 (fun F' hF'=>calls4_of (is:=is) (a:=if is=true then m.step else -1) (q:=if is=true then m.p else ⟨0,0⟩) fun F'' hF''=>?_) fun v s h=>⟨_,_,_,_,_,h.1⟩).mono ?_
 · have h0:Spec Tryz.prog 169 #[.pointer (some ⟨eb,0,none⟩)] (frz F'' [(eb,enO db Bi m is dd)]) [] fun v _=>v=.tuple #[.bool is,.int .i64 (if is=true then m.step else -1),prV (if is=true then m.p else ⟨0,0⟩)]:=status_spec (db:=db) (B:=Bi) (dd:=dd) ⟨.inl (by simp)⟩
   exact Spec.keep ((Spec.frame h0).mono fun v s ⟨s1,hv,hs⟩=>⟨s1,hv,hs⟩)
 · rintro v s ⟨s',rfl,rfl,rfl⟩
   exact ⟨rfl,rfl⟩
theorem do_query {c:Cf} (hL:Laid F) (hi:InC c n) (hn:n≤100) (hmn:m.n=n) (j at_ v:Nat) (hst:m.step=(j:Int)) (hat:at_≤j) (hj:j<100) (hv:v<n) {f:Fl} (hf:findF D.files (stN at_)=some f) (hfn:f.now=stB at_ c) (hC:C.Ok) (hD:DiskAt db D s) (hw:Wz C D) {Bi:Int} :
 Spec Tryz.prog 9 #[.pointer (some ⟨pb,0,none⟩),spV 4 (at_:Int) (v:Int) p (.slice pd nd cd) (.slice pk nk ck)] F ((pb,plO 0 db (.pointer (some ⟨eb,0,none⟩)) Bi)::((eb,enO db Bi m true false)::s)) fun w s'=>∃(val:Int) (b:Bool) (e:Int) (D':Dk) (dd:Bool) (g:Hl),w=anV e 0 val b ⟨0,0⟩∧s'=(pb,plO 0 db (.pointer (some ⟨eb,0,none⟩)) Bi)::(eb,enO db Bi m true dd)::g∧DiskAt db D' g∧(e=0→dd=false)∧Out C none1 (fun _=>val=c.vals[v]! ∧ b=c.live[v]!) D 0 e D':=by
 refine (do_call (f:=179) (by decide) (by decide) (by decide) hL.t4 (fun F' hF'=>calls3_of (fun F'' hF''=>query_z hi hn hmn j at_ v hst hat hj hv hf hfn hC hD hw) fun v s ⟨val,b,e,_,_,_,h,_⟩=>⟨val,b,e,h⟩) fun v s h=>?_).mono ?_
 · obtain ⟨val,b,e,hv,_⟩:=h
   exact ⟨e,0,val,b,⟨0,0⟩,hv⟩
 · rintro v s ⟨s',rfl,val,b,e,rfl,val',b',e',D',dd,g,h1,rfl,h2⟩
   simp only [Value.tuple.injEq,Array.mk.injEq,List.cons.injEq,Value.int.injEq,Value.bool.injEq,and_true,true_and] at h1
   obtain ⟨rfl,rfl,rfl⟩:=h1
   exact ⟨val,b,e,D',dd,g,rfl,rfl,h2⟩
end
theorem stepT_in {p:Prg} {n:Nat} {es:List Eg} {c:Cf} (hi:InC c n) (hg:InG n es):InC (stepT p es c) n:=by
 unfold stepT
 split
 · exact hi
 · refine ⟨by simp [hi.vl],by simp [hi.vl],hi.few,fun v hv=>?_⟩
   rw [hi.vl]
   rw [getElem!_pos _ v (by simpa using hv)]
   simp only [List.getElem_map,List.getElem_range]
   exact nextP_in (hi.in_ v hv) (tot_in (msgs_in hi hg))
theorem conf_in {p:Prg} {n:Nat} {es:List Eg} (hn:n≤1048576) (hg:InG n es):∀j,InC (conf p n es j) n
 | 0=>startC_in hn
 | j+1=>stepT_in (conf_in hn hg j) hg
def namesC (st bx sh K:Nat):List Nm:=[slN 0,slN 1,slT,stT]++((List.range st).map stN++((List.range bx).map (fun k=>boxN (k+1))++((List.range sh).map shN++((List.range sh).map ptN++(List.range K).map fun k=>runN (k+1)))))
def ctxC (st bx sh K:Nat) (room:Int):Cx:=⟨namesC st bx sh K,1000,room⟩
theorem namesC_len (st bx sh K:Nat):(namesC st bx sh K).length=4+(st+(bx+(sh+(sh+K)))):=by simp [namesC];omega
section
variable {st bx sh K : Nat} {k : Nm}
theorem namesC_cases (h:k∈namesC st bx sh K):k=slN 0∨k=slN 1∨k=slT∨k=stT∨(∃j,j<st∧k=stN j)∨(∃j,j<bx∧k=boxN (j+1))∨(∃j,j<sh∧k=shN j)∨(∃j,j<sh∧k=ptN j)∨∃j,j<K∧k=runN (j+1):=by
 simp only [namesC,List.mem_append,List.mem_cons,List.mem_map,List.mem_range,List.not_mem_nil,or_false] at h
 rcases h with (h | h | h | h) | ⟨j,hj,h⟩ | ⟨j,hj,h⟩ | ⟨j,hj,h⟩ | ⟨j,hj,h⟩ | ⟨j,hj,h⟩
 · exact .inl h
 · exact .inr (.inl h)
 · exact .inr (.inr (.inl h))
 · exact .inr (.inr (.inr (.inl h)))
 · exact .inr (.inr (.inr (.inr (.inl ⟨j,hj,h.symm⟩))))
 · exact .inr (.inr (.inr (.inr (.inr (.inl ⟨j,hj,h.symm⟩)))))
 · exact .inr (.inr (.inr (.inr (.inr (.inr (.inl ⟨j,hj,h.symm⟩))))))
 · exact .inr (.inr (.inr (.inr (.inr (.inr (.inr (.inl ⟨j,hj,h.symm⟩)))))))
 · exact .inr (.inr (.inr (.inr (.inr (.inr (.inr (.inr ⟨j,hj,h.symm⟩)))))))
theorem dig_pos (i:Nat):1≤(dig i).length:=by unfold dig;split<;>simp
theorem namesC_size (h:k∈namesC st bx sh K):1≤k.length∧k.length≤24:=by
 have key:∀i,1≤(dig i).length∧(dig i).length≤2:=fun i=>⟨dig_pos i,dig_len i⟩
 rcases namesC_cases h with rfl | rfl | rfl | rfl | ⟨j,_,rfl⟩ | ⟨j,_,rfl⟩ | ⟨j,_,rfl⟩ | ⟨j,_,rfl⟩ | ⟨j,_,rfl⟩
 · decide
 · decide
 · decide
 · decide
 · have:=key j;simp only [stN,ly,List.length_cons,List.length_nil];omega
 · have:=key (j+1);simp only [boxN,boxB,ly,List.length_cons,List.length_nil];omega
 · have:=key j;simp only [shN,ly,List.length_cons,List.length_nil];omega
 · have:=key j;simp only [ptN,ly,List.length_cons,List.length_nil];omega
 · have:=key (j+1);simp only [runN,runB,ly,List.length_cons,List.length_nil];omega
theorem ctxC_ok {room:Int} (hc:4+(st+(bx+(sh+(sh+K))))≤1000) (hr:(((4+(st+(bx+(sh+(sh+K)))))*63:Nat):Int)≤room):(ctxC st bx sh K room).Ok:=by
 have hs:secs (ctxC st bx sh K room).cap=63:=by show secs 1000=63;decide
 refine ⟨by show (namesC st bx sh K).length≤_;rw [namesC_len];exact hc,(show 1000≤1000000 by decide),?_,?_,fun k hk=>?_⟩
 · rw [hs];show (((namesC st bx sh K).length*63:Nat):Int)≤room;rw [namesC_len];exact hr
 · rw [hs];show (namesC st bx sh K).length*63≤_;rw [namesC_len];omega
 · obtain ⟨h1,h2⟩:=namesC_size hk
   unfold mayN
   have e:(⟨k.toArray⟩:ByteArray).size=k.length:=by show k.toArray.size=_;simp
   rw [e,decide_eq_true h1,decide_eq_true h2]
   rfl
theorem ctxC_nms {room:Int} (hst:st≤10):NmsOk (ctxC st bx sh K room):=fun k hk=>by
 refine ⟨by have:=(namesC_size hk).2;omega,fun hp=>?_⟩
 have no:∀(a b:List UInt8),(∃x y z u w v,a=x::y::z::u::w::v∧¬(x=115∧y=116∧z=97))→a++b=k→False:=fun a b ⟨x,y,z,u,w,v,ha,hn⟩ e=>by
  obtain ⟨t,ht⟩:=hp
  rw [←ht,ha] at e
  simp only [List.cons_append,List.cons.injEq,stP] at e
  exact hn ⟨e.1,e.2.1,e.2.2.1⟩
 rcases namesC_cases hk with rfl | rfl | rfl | rfl | ⟨j,hj,rfl⟩ | ⟨j,_,rfl⟩ | ⟨j,_,rfl⟩ | ⟨j,_,rfl⟩ | ⟨j,_,rfl⟩
 · exact (by revert hp;decide)
 · exact (by revert hp;decide)
 · exact (by revert hp;decide)
 · exact .inl rfl
 · exact .inr ⟨j,by omega,rfl⟩
 · obtain ⟨t,ht⟩:=hp;simp [stP,boxN,boxB] at ht
 · obtain ⟨t,ht⟩:=hp;simp [stP,shN] at ht
 · obtain ⟨t,ht⟩:=hp;simp [stP,ptN] at ht
 · obtain ⟨t,ht⟩:=hp;simp [stP,runN,runB] at ht
theorem in_slN {i:Nat} (h:i<2):slN i∈namesC st bx sh K:=by
 have:i=0∨i=1:=by omega
 rcases this with rfl | rfl<;>simp [namesC]
theorem in_slT:slT∈namesC st bx sh K:=by simp [namesC]
theorem in_stT:stT∈namesC st bx sh K:=by simp [namesC]
theorem in_stN {j:Nat} (h:j<st):stN j∈namesC st bx sh K:=by
 simp only [namesC,List.mem_append,List.mem_map,List.mem_range];exact .inr (.inl ⟨j,h,rfl⟩)
theorem in_boxN {j:Nat} (h1:1≤j) (h:j≤bx):boxN j∈namesC st bx sh K:=by
 simp only [namesC,List.mem_append,List.mem_map,List.mem_range];exact .inr (.inr (.inl ⟨j-1,by omega,by rw [Nat.sub_add_cancel h1]⟩))
theorem in_shN {j:Nat} (h:j<sh):shN j∈namesC st bx sh K:=by
 simp only [namesC,List.mem_append,List.mem_map,List.mem_range];exact .inr (.inr (.inr (.inl ⟨j,h,rfl⟩)))
theorem in_ptN {j:Nat} (h:j<sh):ptN j∈namesC st bx sh K:=by
 simp only [namesC,List.mem_append,List.mem_map,List.mem_range];exact .inr (.inr (.inr (.inr (.inl ⟨j,h,rfl⟩))))
theorem in_runN {j:Nat} (h1:1≤j) (h:j≤K):runN j∈namesC st bx sh K:=by
 simp only [namesC,List.mem_append,List.mem_map,List.mem_range];exact .inr (.inr (.inr (.inr (.inr ⟨j-1,by omega,by rw [Nat.sub_add_cancel h1]⟩))))
end
def Rn (p:Prg) (n sh:Nat) (es:List Eg) (d:Nat) (D:Dk):Option Ma→Prop
 | none=>SlotsN D
 | some m=>EI p n sh es d D m
section
variable {C : Cx} {p : Prg} {n sh d : Nat} {es : List Eg} {D D' : Dk} {mo : Option Ma} {m : Ma} {is dd : Bool}
theorem Rn.slots (h:Rn p n sh es d D mo):SlotsO D mo:=by
 cases mo with
 | none=>exact h
 | some m=>exact EI.slots h
theorem Rn.few (h:Rn p n sh es d D mo) (hs:sh<100):(mo.getD ma0).sh<100:=by
 cases mo with
 | none=>exact (by decide:(0:Nat)<100)
 | some m=>show m.sh<100;rw [(EI.lasts h).hsh];exact hs
theorem Rn.kept (hd:d≤8) (h:Rn p n sh es d D mo) (hk:∀k,Stays k (mo.getD ma0) mo.isSome→Kept (findF D.files k) (findF D'.files k)):Rn p n sh es d D' mo:=by
 cases mo with
 | none=>exact ⟨kept_none (hk _ (.inl rfl)) h.1,kept_none (hk _ (.inr (.inl rfl))) h.2⟩
 | some m =>
  have h:EI p n sh es d D m:=h
  refine ⟨SlotsO.kept (mo:=some m) h.slots fun i hi=>?_,h.lasts.kept (fun i hi=>hk _ (.inr (.inr ⟨rfl,.inr ⟨i,by show i<m.sh;rw [h.lasts.hsh];exact hi,rfl⟩⟩))) (fun j hj=>hk _ (.inr (.inr ⟨rfl,.inl ⟨j,?_,hj,rfl⟩⟩))),h.seq,h.how⟩
  · have:i=0∨i=1:=by omega
    rcases this with rfl | rfl
    · exact hk _ (.inl rfl)
    · exact hk _ (.inr (.inl rfl))
  · rcases h.how with h | ⟨_,j',h1,h2⟩<;>omega
structure Eng (C:Cx) (p:Prg) (n sh:Nat) (es:List Eg) (d:Nat) (D:Dk) (m:Ma) (is dd:Bool):Prop where
 wz:Wz C D
 on:is=true→EI p n sh es d D m
 off:is=false→SlotsN D
 up:dd=false→D.down=false
 bx:is=true→dd=false→BxF D []
 cl:is=false→dd=false→∀k,k≠slN 0→k≠slN 1→findF D.files k=none
theorem Eng.rn (h:Eng C p n sh es d D m is dd):Rn p n sh es d D (if is=true then some m else none):=by
 cases is with
 | true=>exact h.on rfl
 | false=>exact h.off rfl
theorem boxN_stays {k:Nat} {m:Ma} {is:Bool} : ¬Stays (boxN k) m is:=by
 rintro (h | h | ⟨_,⟨j,_,_,h⟩ | ⟨i,_,h⟩⟩)
 · simp [boxN,boxB,slN] at h
 · simp [boxN,boxB,slN] at h
 · simp [boxN,boxB,stN] at h
 · simp [boxN,boxB,shN] at h
theorem opened_any {db:Nat} {B:Int} {e:Int} {ep:Value} {s1:Hl} (hd:d≤8) (hR:Rn p n sh es d D mo) (h:Opened C db B mo D e ep s1 D') :
 (e=0∧(∃eb,ep=.pointer (some ⟨eb,0,none⟩)∧s1=[(eb,enO db B (mo.getD ma0) mo.isSome false)])∧Eng C p n sh es d D' (mo.getD ma0) mo.isSome false∧(D.armed=0→D'.armed=0))∨(e=7∧s1=[]∧D.armed≠0∧Wz C D'∧Rn p n sh es d D' mo):=by
 rcases h.2 with ⟨h0,hep,hG,hno⟩ | ⟨h7,_,hs,hB⟩
 · have hR':Rn p n sh es d D' mo:=hR.kept hd fun k hk=>by
    have:=hG.same k (fun hx=>hx hk)
    rw [show findF D'.files k=findF D.files k from this];exact Kept.refl _
   refine .inl ⟨h0,hep,⟨h.1,fun hi=>?_,fun hi=>?_,fun _=>hG.up,fun hi _=>⟨fun i hi=>(by cases hi),fun k _ _=>hno _ boxN_stays⟩,fun hi _ k h1 h2=>hno k ?_⟩,hG.calm⟩
   · cases mo with
     | none=>cases hi
     | some m=>exact hR'
   · cases mo with
     | none=>exact hR'
     | some m=>cases hi
   · rintro (hx | hx | ⟨hx,_⟩)
     · exact h1 hx
     · exact h2 hx
     · rw [hi] at hx;cases hx
 · exact .inr ⟨h7,hs,fun ha=>hB.why ⟨ha,rfl⟩,h.1,hR.kept hd fun k hk=>hB.kept k fun hx=>hx hk⟩
end
section
variable {F : Fm} {s : Hl} {pb db eb B K : Nat} {ep : Value} {N M : Int} {p q : Prg} {pd pk : Option Addr} {nd cd nk ck : Nat} {C : Cx} {D : Dk} {mo : Option Ma} {m : Ma} {is dd : Bool} {n sh d most : Nat} {es : List Eg} {bs : List UInt8}
theorem open_any (hL:Laid F) (hN:NmsOk C) (hd:d≤8) (hsh:sh<100) (hB:1≤B) (hC:C.Ok) (hR:Rn p n sh es d D mo) (hD:DiskAt db D s) (hw:Wz C D) :
 Spec Tryz.prog 9 #[.pointer (some ⟨pb,0,none⟩),spV 1 N M q (.slice pd nd cd) (.slice pk nk ck)] F ((pb,plO 0 db ep (B:Int))::s) fun v s'=>∃e ep' s1 g D',v=anV e 0 0 false ⟨0,0⟩∧s'=(pb,plO 0 db ep' (B:Int))::(s1++g)∧DiskAt db D' g ∧
  ((e=0∧(∃eb,ep'=.pointer (some ⟨eb,0,none⟩)∧s1=[(eb,enO db (B:Int) (mo.getD ma0) mo.isSome false)])∧Eng C p n sh es d D' (mo.getD ma0) mo.isSome false∧(D.armed=0→D'.armed=0))∨(e=7∧s1=[]∧D.armed≠0∧Wz C D'∧Rn p n sh es d D' mo)) :=
 (do_open hL.atoi hN hR.slots (hR.few hsh) (by omega) hC hD hw).mono fun v s' ⟨e,ep',s1,g,D',h1,h2,h3,h4⟩=>⟨e,ep',s1,g,D',h1,h2,h3,opened_any hd hR h4⟩
theorem ingest_any (hL:Laid F) (hP:IngP C n sh B K es) (ha:Arg byteE F (.slice pd bs.length cd) bs) (hN:bs.length<1073741824) (hdc:ED.decG bs=(n,es,0,0)) (hC:C.Ok) (hE:Eng C p n sh es d D m is dd) (hD:DiskAt db D s) :
 Spec Tryz.prog 9 #[.pointer (some ⟨pb,0,none⟩),spV 2 (sh:Int) M q (.slice pd bs.length cd) (.slice pk nk ck)] F ((pb,plO 0 db (.pointer (some ⟨eb,0,none⟩)) (B:Int))::(eb,enO db (B:Int) m is dd)::s) fun v s'=>∃e D' m2 is2 dd2 g,v=anV e 0 0 false ⟨0,0⟩∧s'=(pb,plO 0 db (.pointer (some ⟨eb,0,none⟩)) (B:Int))::(eb,enO db (B:Int) m2 is2 dd2)::g∧DiskAt db D' g∧Eng C p n sh es d D' m2 is2 dd2 ∧
  (is=true→e=9∧m2=m∧is2=true)∧(is=false→dd=false→(e=0∧is2=true∧m2=ma1 n sh)∨(e=7∧is2=false))∧(D.armed=0→dd=false→D'.armed=0∧dd2=false∧is2=true∧(is=false→e=0)):=by
 by_cases hno:is=true∨dd=true
 · refine (Spec.frame (h1:=(pb,plO 0 db (.pointer (some ⟨eb,0,none⟩)) (B:Int))::[(eb,enO db (B:Int) m is dd)]) (rest:=s) (do_ingest_no (hL.mono fun b o h=>Or.inr h) hno)).mono ?_
   rintro v s' ⟨s1,⟨hv,rfl⟩,rfl⟩
   refine ⟨9,D,m,is,dd,s,hv,rfl,hD,hE,fun hi=>⟨rfl,rfl,hi⟩,fun h1 h2=>?_,fun h1 h2=>⟨h1,h2,?_,fun h3=>?_⟩⟩
   · rcases hno with h | h
     · rw [h1] at h;cases h
     · rw [h2] at h;cases h
   · rcases hno with h | h
     · exact h
     · rw [h2] at h;cases h
   · rcases hno with h | h
     · rw [h3] at h;cases h
     · rw [h2] at h;cases h
 · have h1:is=false:=by cases is<;>simp_all
   have h2:dd=false:=by cases dd<;>simp_all
   subst h1;subst h2
   refine (do_ingest_z hL hP ha hN hdc hC (hE.off rfl) (hE.cl rfl rfl) (hE.up rfl) hD hE.wz).mono ?_
   rintro v s' ⟨e,D',m2,is2,dd2,g,hv,hs,hD',hw',hO⟩
   refine ⟨e,D',m2,is2,dd2,g,hv,hs,hD',?_,(fun h=>by cases h),fun _ _=>?_,fun ha _=>?_⟩
   · rcases hO with ⟨h0,rfl,rfl,rfl,hG,hS,hLs,hbx⟩ | ⟨h7,rfl,rfl,rfl,hB,hS⟩
     · exact ⟨hw',fun _=>⟨hS,hLs,rfl,.inl rfl⟩,(fun h=>by cases h),fun _=>hG.up,fun _ _=>hbx,fun h=>by cases h⟩
     · exact ⟨hw',(fun h=>by cases h),fun _=>hS,(fun h=>by cases h),(fun h=>by cases h),fun _ h=>by cases h⟩
   · rcases hO with ⟨h0,h1,_,h2,_⟩ | ⟨h7,h1,_⟩
     · exact .inl ⟨h0,h1,h2⟩
     · exact .inr ⟨h7,h1⟩
   · rcases hO with ⟨h0,h1,h2,_,hG,_⟩ | ⟨_,_,_,_,hB,_⟩
     · exact ⟨hG.calm ha,h2,h1,fun _=>h0⟩
     · exact absurd ⟨ha,hE.up rfl⟩ hB.why
theorem run_any (hL:Laid F) (hP:GoP C p n sh es most d) (hB:1≤B) (hC:C.Ok) (hE:Eng C p n sh es d D m is dd) (hD:DiskAt db D s) :
 Spec Tryz.prog 9 #[.pointer (some ⟨pb,0,none⟩),spV 3 (most:Int) M p (.slice pd nd cd) (.slice pk nk ck)] F ((pb,plO 0 db (.pointer (some ⟨eb,0,none⟩)) (B:Int))::(eb,enO db (B:Int) m is dd)::s) fun v s'=>∃e z D' m2 dd2 g,v=anV e z 0 false ⟨0,0⟩∧s'=(pb,plO 0 db (.pointer (some ⟨eb,0,none⟩)) (B:Int))::(eb,enO db (B:Int) m2 is dd2)::g∧DiskAt db D' g∧Eng C p n sh es d D' m2 is dd2 ∧
  (D.armed=0→dd=false→is=true→D'.armed=0∧dd2=false∧e=0∧z=(d:Int)∧m2.step=(d:Int)∧m2.p=p):=by
 by_cases hno:is=false∨dd=true
 · refine (Spec.frame (h1:=(pb,plO 0 db (.pointer (some ⟨eb,0,none⟩)) (B:Int))::[(eb,enO db (B:Int) m is dd)]) (rest:=s) (do_run_no (hL.mono fun b o h=>Or.inr h) hno)).mono ?_
   rintro v s' ⟨s1,⟨hv,rfl⟩,rfl⟩
   refine ⟨9,0,D,m,dd,s,hv,rfl,hD,hE,fun h1 h2 h3=>?_⟩
   rcases hno with h | h
   · rw [h3] at h;cases h
   · rw [h2] at h;cases h
 · have h1:is=true:=by cases is<;>simp_all
   have h2:dd=false:=by cases dd<;>simp_all
   subst h1;subst h2
   refine (do_run_z hL hP hB hC (hE.on rfl) (hE.bx rfl rfl) hD hE.wz).mono ?_
   rintro v s' ⟨z,e,D',m2,dd2,g,hv,hs,hD',hw',hE',hO⟩
   refine ⟨e,z,D',m2,dd2,g,hv,hs,hD',⟨hw',fun _=>hE',(fun h=>by cases h),fun h=>?_,fun _ h=>?_,fun h=>by cases h⟩,fun ha _ _=>?_⟩
   · rcases hO with ⟨_,_,_,hG,_⟩ | ⟨_,h7,_⟩
     · exact hG.up
     · rw [h] at h7;cases h7
   · rcases hO with ⟨_,_,_,_,_,_,hbx⟩ | ⟨_,h7,_⟩
     · exact hbx
     · rw [h] at h7;cases h7
   · rcases hO with ⟨h0,hz,h1,hG,h2,h3,_⟩ | ⟨_,_,hB⟩
     · exact ⟨hG.calm ha,h1,h0,hz,h2,h3⟩
     · exact absurd ⟨ha,hE.up rfl⟩ hB.why
theorem status_any (hL:Laid F) {Bi:Int}:Spec Tryz.prog 9 #[.pointer (some ⟨pb,0,none⟩),spV 5 N M q (.slice pd nd cd) (.slice pk nk ck)] F ((pb,plO 0 db (.pointer (some ⟨eb,0,none⟩)) Bi)::(eb,enO db Bi m is dd)::s) fun v s'=>v=anV 0 (if is=true then m.step else -1) 0 is (if is=true then m.p else ⟨0,0⟩)∧s'=(pb,plO 0 db (.pointer (some ⟨eb,0,none⟩)) Bi)::(eb,enO db Bi m is dd)::s:=by
 refine (Spec.frame (h1:=(pb,plO 0 db (.pointer (some ⟨eb,0,none⟩)) Bi)::[(eb,enO db Bi m is dd)]) (rest:=s) (do_status (hL.mono fun b o h=>Or.inr h))).mono ?_
 rintro v s' ⟨s1,⟨hv,rfl⟩,rfl⟩
 exact ⟨hv,rfl⟩
theorem crash_any (hC:C.Ok) (hd:d≤8) {ks:List Bool} (hk:Arg boolE F (.slice pk ks.length ck) ks) (hw:Wz C D) (hR:Rn p n sh es d D mo) (hD:DiskAt db D s) :
 Spec Tryz.prog 9 #[.pointer (some ⟨pb,0,none⟩),spV 6 N M q (.slice pd nd cd) (.slice pk ks.length ck)] F ((pb,plO 0 db ep (B:Int))::s) fun v s'=>∃g D',v=anV 0 0 0 false ⟨0,0⟩∧s'=(pb,plO 0 db ep (B:Int))::g∧DiskAt db D' g∧Wz C D'∧Rn p n sh es d D' mo∧(D.armed=0→D'.armed=0):=by
 refine (do_crash hC hD hw hk).mono ?_
 rintro v s' ⟨g,hv,hs,hD'⟩
 refine ⟨g,crashD ks D,hv,hs,hD',hw.crash ks,hR.kept hd fun k _=>crash_kept hw.nodup ks k,fun ha=>?_⟩
 unfold crashD
 split
 · exact ha
 · rfl
theorem query_any (hL:Laid F) (hn:n≤100) (hin:∀j,InC (conf p n es j) n) (hd:d≤8) (hC:C.Ok) (hE:Eng C p n sh es d D m true false) (ha:D.armed=0) {j v:Nat} (hj:(j:Int)≤m.step) (hv:v<n) (hD:DiskAt db D s) {Bi:Int} :
 Spec Tryz.prog 9 #[.pointer (some ⟨pb,0,none⟩),spV 4 (j:Int) (v:Int) q (.slice pd nd cd) (.slice pk nk ck)] F ((pb,plO 0 db (.pointer (some ⟨eb,0,none⟩)) Bi)::(eb,enO db Bi m true false)::s) fun w s'=>∃D' g,w=anV 0 0 (conf p n es j).vals[v]! (conf p n es j).live[v]! ⟨0,0⟩∧s'=(pb,plO 0 db (.pointer (some ⟨eb,0,none⟩)) Bi)::(eb,enO db Bi m true false)::g∧DiskAt db D' g∧Eng C p n sh es d D' m true false∧D'.armed=0:=by
 have hI:=hE.on rfl
 obtain ⟨hmp,j',hj',hst⟩:m.p=p∧∃j':Nat,j'≤d∧m.step=(j':Int):=by
  rcases hI.how with h | h
  · omega
  · exact h
 have hf:=hI.lasts.steps j hj
 rw [hmp] at hf
 refine (do_query hL (hin j) hn hI.lasts.hn j' j v hst (by omega) (by omega) hv hf rfl hC hD hE.wz).mono ?_
 rintro w s' ⟨val,b,e,D',dd,g,hw,hs,hD',hdd,hO⟩
 obtain ⟨h0,hG,hvl,hb⟩:e=0∧Gd none1 D D'∧val=(conf p n es j).vals[v]! ∧ b=(conf p n es j).live[v]! := by
  rcases hO.2 with h | h
  · exact h
  · exact absurd ⟨ha,hE.up rfl⟩ h.2.why
 have hdd0:=hdd h0
 subst h0;subst hvl;subst hb;subst hdd0
 refine ⟨D',g,hw,hs,hD',⟨hO.1,fun _=>hI.kept fun k=>by rw [hG.same k id];exact Kept.refl _,(fun h=>by cases h),fun _=>hG.up,fun _ _=>(hE.bx rfl rfl).same0 fun k _ _=>hG.same _ id,fun h=>by cases h⟩,hG.calm ha⟩
end
end Go.Proofs.YtkpiakgmkpbikaaGreatDoor
namespace Go.Proofs.YtkpiakgmkpbikaaGreatDoor
section
variable {P : Program} {Qf : Exit → Act → World → Prop} {n : Nf} {F : Fm} {ks : List KItem} {ops : List Oper} {clr : List Nat} {hs hl : Hl} {r : Sd} {i t0 : Nat} {l : Env} {d : Option Tmp} {ty : TypeId} {pos : String} {af : Array Edge} {g : Option (Nat × Bool)}
theorem Pv.neNilT {t t' T:TypeId} {x:Operand} {p:Value} [hi:TyIfc P t] (hx:ev l x=some (.iface T p)):Pv P n l ⟨d,.binOp .neq t x (.const .nilIface) t',ty,pos,af,g⟩ (.bool true):=fun a w hf=>by
 have h:=run_equal_held_nil (P:=P) w t T p hi.under
 simp [execOp,hf.ev hx,hf.ev (show ev l (.const .nilIface)=some .nilIface from rfl),eqGuard,binOp,h]
theorem Pv.eqII {t t' tn:TypeId} {x y:Operand} {k:IntKind} {p q:Int} [hi:TyIfc P t] (hn:P.underlying tn=some (.int k)) (hinf:(P.info? tn).map (·.comparable)=some true) (hx:ev l x=some (.iface tn (.int k p))) (hy:ev l y=some (.iface tn (.int k q))) :
 Pv P n l ⟨d,.binOp .eql t x y t',ty,pos,af,g⟩ (.bool (p==q)):=fun a w hf=>by
 obtain ⟨inf,hinf,hc⟩:=Option.map_eq_some_iff.1 hinf
 have h:(Op.equal t (.iface tn (.int k p)) (.iface tn (.int k q))).run P w=.ok (p==q) w:=by
  have key:∀m,(Op.equalIn (m+2) t (.iface tn (.int k p)) (.iface tn (.int k q))).run P w=.ok (p==q) w:=fun m=>by
   simp [Op.equalIn,run_underlying hi.under,run_underlying hn,typeInfo,hinf,hc]
  exact key 9998
 simp [execOp,hf.ev hx,hf.ev hy,eqGuard,binOp,h]
theorem setRow_putB {w:World} {b:Nat} {c0 c:Array Value} {e:TypeId} (hb:w.heap[b]? = some (.cells c0 e (0,0))):w.setRow b c=putB w b (.cells c e (0,0)):=by
 unfold World.setRow Go.Proofs.YtkpiakgmkpbikaaGreatDoor.putB
 congr 1
 apply Array.ext_getElem?
 intro k
 rw [Array.getElem?_modify,Array.getElem?_setIfInBounds]
 by_cases hk:b=k
 · subst hk
   have:=(Array.getElem?_eq_some_iff.1 hb).1
   rw [hb]
   simp [this]
 · simp [hk]
theorem byteCells_flat (xs:List UInt8):Lib.byteCells xs=flat byteE xs:=by
 induction xs with
 | nil=>rfl
 | cons x xs ih=>show .int .u8 (x.toNat:Int)::Lib.byteCells xs=_;rw [ih];rfl
theorem Rg.copyS {dT sT B:Nat} {x y:Operand} {b c:Nat} {xs ys:List UInt8} {rest:Hl} [ht:TySl P dT byteE B] (ho:nth ops i=some ⟨some t0,.call { callee:=.builtin .copy,args:=#[x,y],argTypes:=#[dT,sT] },ty,pos,af,g⟩) (hg:wantB ops l g=some true) (h0:Nat.blt t0 n.n=true)
 (hx:ev l x=some (.slice (some ⟨b,0,none⟩) xs.length c)) (hy:ev l y=some (kS xs)) (hl':ys.length=xs.length) (hclr:clr.contains i=true) [hb:Pull1 hl b (rowS byteE ys []) rest]
 (h:Rg P Qf n F ks ops clr ((b,rowS byteE xs [])::rest) r ((t0,.int .i64 (xs.length:Int))::l) ((b,rowS byteE xs [])::rest)):Rg P Qf n F ks ops clr hs (.st i .eff r) l hl :=
 Rg.run ho hg fun a w hf hh=>by
  have hh':=hh.perm hb.perm
  obtain ⟨inf,z,hi,hz,hsz,hby,hzs⟩:=ht.info
  have hblk:w.heap[b]? = some (.cells (flat byteE ys++[]).toArray byteE.tid (0,0)):=hh'.own b _ List.mem_cons_self
  have hfl:∀zs:List UInt8,(flat byteE zs).length=zs.length:=fun zs=>by rw [←byteCells_flat];simp [Lib.byteCells]
  have hxs:(⟨xs.toArray⟩:ByteArray).size=xs.length:=by simp [ByteArray.size]
  have hr:=Lib.run_copy_row_string (P:=P) w dT sT ty byteE.tid b 0 xs.length c ⟨xs.toArray⟩ _ byteE.tid ht.under (by rw [hi];simp [hsz];rfl) hblk (by rw [hxs];exact Nat.le_refl _) (by rw [hxs];simp [hfl,hl'])
  rw [setRow_putB hblk] at hr
  have he:(((flat byteE ys++[]).toArray.toList.take 0++Lib.byteCells (⟨xs.toArray⟩:ByteArray).data.toList++(flat byteE ys++[]).toArray.toList.drop (0+(⟨xs.toArray⟩:ByteArray).size)).toArray)=(flat byteE xs++[]).toArray:=by
   rw [hxs]
   simp only [List.take_zero,List.nil_append,List.append_nil,Nat.zero_add]
   rw [List.drop_of_length_le (by rw [hfl,hl'];exact Nat.le_refl _),List.append_nil,byteCells_flat]
  rw [he,hxs] at hr
  have hh2:=Lens.putB (put:=fun o'=>(b,o')::rest) ⟨[],rest,rfl,fun _=>rfl⟩ hh' (rowS byteE xs [])
  exact ⟨_,_,_,_,.inl ⟨_,by simp [execOp,resolve,invoke,builtin,hf.ev hx,hf.ev hy,hr,goInt,rowS],hf.put h0 _⟩,hh2,hh2.st,.inl hclr,h⟩
theorem Rg.textOf {pT iT e:Nat} {x y:Operand} {b:Nat} {xs:List UInt8} {rest:Hl} (hp:P.underlying pT=some (.pointer e)) (hc:P.cellsOf e=1) (he:byteE.tid=e) (ho:nth ops i=some ⟨some t0,.call { callee:=.builtin .unsafeString,args:=#[x,y],argTypes:=#[pT,iT] },ty,pos,af,g⟩) (hg:wantB ops l g=some true) (h0:Nat.blt t0 n.n=true)
 (hx:ev l x=some (.pointer (some ⟨b,0,none⟩))) (hy:ev l y=some (.int .i64 (xs.length:Int))) (hxs:xs≠[]) (hsm:xs.length≤1000) (hclr:clr.contains i=true) [hb:Pull1 hl b (rowS byteE xs []) rest]
 (h:Rg P Qf n F ks ops clr rest r ((t0,kS xs)::l) rest):Rg P Qf n F ks ops clr hs (.st i .eff r) l hl :=
 Rg.run ho hg fun a w hf hh=>by
  have hh':=hh.perm hb.perm
  have hblk:w.heap[b]? = some (.cells (flat byteE xs++[]).toArray e (0,0)):=by rw [←he];exact hh'.own b _ List.mem_cons_self
  have hfl:(flat byteE xs).length=xs.length:=by rw [←byteCells_flat];simp [Lib.byteCells]
  have hr:=Lib.run_unsafeString_row (P:=P) w pT iT ty e hp hc b xs.length (by unfold World.shape?; rw [hblk];simp [hfl]) xs hxs (Nat.le_refl _) (by omega) (fun j z hz=>by
   have hlt:=(List.getElem?_eq_some_iff.1 hz).1
   have ha:((⟨b,0,none⟩:Addr).add j)=⟨b,j,none⟩:=by cases j<;>simp [Addr.add]
   rw [ha]
   simp only [World.cell?,hblk,List.append_nil]
   rw [←byteCells_flat]
   simp [Lib.byteCells,hz])
  have hfz:w.freeze ⟨b,0,none⟩ xs.length=putB w b (.cells (flat byteE xs++[]).toArray e (0,xs.length)):=by
   have hlt:=(Array.getElem?_eq_some_iff.1 hblk).1
   have hne:xs.length≠0:=by simpa using hxs
   unfold World.freeze
   rw [if_neg hne]
   unfold Go.Proofs.YtkpiakgmkpbikaaGreatDoor.putB
   congr 1
   apply Array.ext_getElem?
   intro k
   rw [Array.getElem?_modify,Array.getElem?_setIfInBounds]
   by_cases e1:b=k
   · subst e1
     rw [if_pos rfl,if_pos rfl,if_pos hlt,hblk]
     simp
   · rw [if_neg e1,if_neg e1]
  rw [hfz] at hr
  have hh2:=(Lens.putB (put:=fun o'=>(b,o')::rest) ⟨[],rest,rfl,fun _=>rfl⟩ hh' (.cells (flat byteE xs++[]).toArray e (0,xs.length))).tail
  exact ⟨_,_,_,_,.inl ⟨_,by simp [execOp,resolve,invoke,builtin,hf.ev hx,hf.ev hy,hr],hf.put h0 _⟩,hh2,hh2.st,.inl hclr,h⟩
end
abbrev newB:List UInt8:=[110,101,119]
section
variable {F : Fm}
theorem cloneN_spec:Spec Tryz.prog 135 #[kS newB] F [] fun v _=>v=kS newB:=by
 refine Spec.of (n:=18) (vs:=[kS newB]) Tryz.func135 rfl Tryz.ntmps135 rfl ?_
 refine sj [.p] Z<|aj Z<|nl<|wj<|sj [.p,.p,.p] Z<|mj Z<|uj Z (Pv.lenStr Z)<|uj Z (Pv.eql Z Z)<|nl<|cj Z (fun h6=>absurd h6 (by decide)) (fun h6=>?_)
 refine kj<|sj [.p,.p,.e,.p] Z<|mj Z<|uj Z (Pv.lenStr Z)<|Rg.makeN byteE 0 (m:=3) rfl rfl rfl rfl rfl (by decide) (fun b9 own9=>?_)
 refine aj Z<|nl<|sj [.p,.p,.e] Z<|mj Z<|mj Z<|Rg.copyS (xs:=newB) (ys:=List.replicate 3 0) Z Z Z Z Z Z Z<|nl<|sj [.p,.p,.p,.p,.e,.p] Z<|mj Z<|uj Z (Pv.ixA (i:=0) (m:=3) 0 rfl rfl rfl (by decide))<|mj Z<|uj Z (Pv.lenS Z)<|Rg.textOf (xs:=newB) Tryz.underlying232 (by kernel_rfl) rfl rfl rfl rfl rfl rfl (by decide) (by decide) rfl<|aj Z<|nl ?_
 refine vz Z (tz Z) ?_
 rfl
theorem synN_spec {T TG:TypeId} {zG:Nat×Nat} {p:Value} (hF:F.at_ 1 (.cells [Value.iface T p].toArray TG zG)):Spec Tryz.prog 119 #[kS [65,116,111,105],kS newB] F [] fun v _=>∃b,v=.pointer (some ⟨b,0,none⟩):=by
 refine Spec.of (n:=11) (vs:=[kS [65,116,111,105],kS newB]) Tryz.func119 rfl Tryz.ntmps119 rfl ?_
 refine sj [.p] Z<|aj Z<|nl<|wj ?_
 refine Vc.draw [] (sd [(0,.pure),(1,.pure),(3,.read),(2,.eff),(4,.pure),(5,.eff),(6,.pure)]) mixed (by kernel_rfl)<|mj Z<|mj Z<|rj Z (Ev.ldG Z hF Z)<|Rg.callA Z Z Z (mz Z) cloneN_spec ?_
 rintro _ s7 rfl
 refine uj Z (Pv.build (c:=#[kS [65,116,111,105],kS newB,.iface T p]) Z Z)<|Rg.box Z Z Z Z Z (fun b10=>?_)
 refine aj Z<|nl ?_
 exact vr (hl':=[]) rfl (tz Z) ⟨b10,rfl⟩ pulled
theorem toErrN_spec {T TG:TypeId} {zG:Nat×Nat} {p:Value} (hF:F.at_ 1 (.cells [Value.iface T p].toArray TG zG)):Spec Tryz.prog 104 #[kS [65,116,111,105],kS newB,.int .i64 0,.int .i64 0,.iface 198 (.int .i64 2)] F [] fun v _=>∃T p,v=.iface T p:=by
 refine Spec.of (n:=43) (vs:=[kS [65,116,111,105],kS newB,.int .i64 0,.int .i64 0,.iface 198 (.int .i64 2)]) Tryz.func104 rfl Tryz.ntmps104 rfl ?_
 refine sj [.p] Z<|aj Z<|nl<|wj<|sj [.p] Z<|mj Z<|nl<|bj<|sj [.p,.p,.p] Z<|uj Z (Pv.mkI Z)<|uj Z (Pv.eqII Tryz.underlying198 (by kernel_rfl) rfl rfl)<|aj Z<|nl<|cj Z (fun h12=>?_) (fun h12=>absurd h12 (by decide))
 refine sj [.p,.p,.e,.p,.p] Z<|mj Z<|mj Z<|Rg.callA Z Z Z (mz Z) (synN_spec (Or.inr hF)) ?_
 rintro _ s17 ⟨b17,rfl⟩
 refine uj Z (Pv.mkI Z)<|aj Z<|nl ?_
 exact vr (hl':=[]) rfl (tz Z) ⟨_,_,rfl⟩ pulled
set_option maxHeartbeats 1000000 in
theorem iatoiN_spec:Spec Tryz.prog 103 #[kS newB] F [] fun v _=>v=.tuple #[.int .i64 0,.iface 198 (.int .i64 2)]:=by
 refine Spec.of (n:=77) (vs:=[kS newB]) Tryz.func103 rfl Tryz.ntmps103 rfl ?_
 refine sj [.p,.p] Z<|aj Z<|aj Z<|nl<|sj [.p,.p,.p] Z<|mj Z<|uj Z (Pv.lenStr Z)<|aj Z<|nl<|wj<|sj [.p,.p,.p,.p,.p,.p,.p,.p,.p,.p,.p,.p,.p,.p,.p,.p,.p,.p] Z<|mj Z<|Rg.split (t:=13) rfl (fun h13=>absurd h13 (by decide)) (fun h13=>?_)
 iterate 6 (first | refine Rg.skipP rfl rfl rfl ?_ | refine Rg.skipR rfl rfl rfl ?_ | refine Rg.skipE rfl rfl rfl ?_)
 refine pj Z Z<|mj Z<|mj Z<|Rg.split (t:=22) rfl (fun h22=>?_) (fun h22=>absurd h22 (by decide))
 refine mj Z<|uj Z (Pv.lss Z Z)<|mj Z<|Rg.split (t:=25) rfl (fun h25=>?_) (fun h25=>absurd h25 (by show ¬decide ((0:Int)<((3:Nat):Int))=false;decide))
 refine mj Z<|uj Z (Pv.lss Z Z)<|qj Z Z<|qj Z Z<|pj Z Z<|nl<|cj Z (fun h30=>?_) (fun h30=>absurd h30 (by show ¬decide (((3:Nat):Int)<19)=false;decide))
 refine sj [.p,.p] Z<|mj Z<|aj Z<|nl<|wj<|sj [.p,.p,.p,.p,.p,.p,.p,.p] Z<|mj Z<|uj Z (Pv.as (.int .u8 110) (Pv.indexS 0 (b:=110) Z Z Z) Z)<|uj Z (Pv.eql Z Z)<|mj Z<|Rg.split (t:=35) rfl (fun h35=>absurd h35 (by decide)) (fun h35=>?_)
 refine mj Z<|uj Z (Pv.as (.int .u8 110) (Pv.indexS 0 (b:=110) Z Z Z) Z)<|uj Z (Pv.eql Z Z)<|pj Z Z<|nl<|cj Z (fun h39=>absurd h39 (by decide)) (fun h39=>?_)
 refine kj<|sj [.p] Z<|aj Z<|nl<|wj<|sj [.p,.e,.p,.p] Z<|mj Z<|Rg.strB Z Z Z Z (by show 3≤maxLen;decide) (fun b47 o47 c47 hc47 harg=>?_)
 refine uj Z (Pv.lenS Z)<|mj Z<|nl<|bj ?_
 refine Vc.loop1 (fun (i:Nat)=>i=0) (fun i=>[(47,.slice (some ⟨b47,0,none⟩) 3 c47),(48,.int .i64 3),(49,.int .i64 (i:Int))]) (fun i=>[(b47,o47)]) (fun i=>0) 0 Z (.cons Z (.cons Z (.cons Z .nil))) pulled ?_
 rintro i rfl
 refine sj [.p] Z<|uj Z (Pv.lss Z Z)<|nl<|wj<|cj Z (fun h50=>?_) (fun h50=>absurd h50 (by decide))
 refine kj<|wj<|bj<|sj [.p,.r,.p] Z<|uj Z (Pv.ixA (0) rfl rfl (by omega) (by omega))<|rj Z (Ev.as (.int .u8 110) (Ev.ldS (E:=byteE) 0 (harg _ _ inferInstance) rfl rfl rfl (by show 0<3;decide)) rfl)<|aj Z<|nl<|sj [.p,.p,.p] Z<|mj Z<|uj Z (Pv.asI 62 (Pv.subW rfl rfl) (by decide))<|aj Z<|nl<|wj<|sj [.p,.p] Z ?_
 refine mj Z<|uj Z (Pv.gtr Z Z)<|nl<|cj Z (fun h56=>?_) (fun h56=>absurd h56 (by decide))
 refine sj [.p,.p,.p] Z<|uj Z (Pv.mkI Z)<|aj Z<|aj Z<|nl ?_
 exact vr (hl':=[]) rfl (.cons (.tmp rfl) (tz Z)) rfl pulled
theorem atoiN_of {T TG:TypeId} {zG:Nat×Nat} {p:Value} (hF:F.at_ 1 (.cells [Value.iface T p].toArray TG zG)):AtoiN F:=fun F' hF'=>by
 refine Spec.of (n:=18) (vs:=[kS newB]) Tryz.func81 rfl Tryz.ntmps81 rfl ?_
 refine sj [.p,.p] Z<|aj Z<|aj Z<|nl<|sj [.p,.e,.p,.p,.p,.p,.p] Z<|mj Z<|Rg.callP Z Z Z (mz Z) (iatoiN_spec) ?_
 rintro _ rfl
 refine mj Z<|xj Z Z<|xj Z Z<|aj Z<|aj Z<|nl<|wj<|sj [.p,.p] Z<|mj Z<|uj Z (Pv.neNilT Z)<|nl<|cj Z (fun h12=>?_) (fun h12=>absurd h12 (by decide))
 refine sj [.p,.p,.p,.e,.p,.p] Z<|mj Z<|mj Z<|mj Z<|Rg.callA Z Z Z (mz Z) (toErrN_spec (Or.inr (hF' _ _ hF))) ?_
 rintro _ s16 ⟨T2,p2,rfl⟩
 refine aj Z<|aj Z<|nl ?_
 exact vr (hl':=[]) rfl (.cons (.tmp rfl) (tz Z)) ⟨_,_,rfl⟩ pulled
end
open ED (Eg egV egC edgeE InE grV)
def tcB (B:Int):Nat:=1+andN B 65535 % 20
section
variable {F : Fm} {p : Prg} {ve : Value} {es0 : List Eg}
end
end Go.Proofs.YtkpiakgmkpbikaaGreatDoor
namespace Go.Proofs.YtkpiakgmkpbikaaGreatDoor
namespace ED
theorem encG_length (M:Nat) (es:List Eg):(encG M es).length=4+12*es.length:=by
 rw [encG,ly,leBytes_length,encs_length]
theorem rightG_all {M:Nat} {es:List Eg} (h:rightG (M:Int) es=true):M≤1048576∧es.length≤1048576∧∀e∈es,e.f<M∧e.t<M:=by
 simp only [rightG,Bool.and_eq_true,dt,Bool.not_eq_true',List.any_eq_false,Bool.or_eq_true,not_or] at h
 refine ⟨by omega,by omega,fun e he=>?_⟩
 have:=h.2 e he
 omega
theorem rightG_mk {M:Nat} {es:List Eg} (h1:M≤1048576) (h2:es.length≤1048576) (h3:∀e∈es,e.f<M∧e.t<M):rightG (M:Int) es=true:=by
 simp only [rightG,Bool.and_eq_true,dt,Bool.not_eq_true',List.any_eq_false,Bool.or_eq_true,not_or]
 exact ⟨⟨⟨by omega,by omega⟩,by omega⟩,fun e he=>by have:=h3 e he;omega⟩
theorem scan_all {n:Nat} {bs:List UInt8}:∀(k i:Nat),scanE n bs i k=none→∀j,i≤j→j<i+k→(egAt bs j).f<n∧(egAt bs j).t<n
 | 0,i,_,j,h1,h2=>by omega
 | k+1,i,h,j,h1,h2=>by
  rw [scanE] at h
  split at h
  · cases h
  · next a =>
    split at h
    · cases h
    · next b =>
      by_cases e:j=i
      · subst e;omega
      · exact scan_all k (i+1) h j (by omega) (by omega)
theorem dec_good {bs:List UInt8} {n a:Nat} {es:List Eg} (h:decG bs=(n,es,a,0)):a=0∧n≤1048576∧es.length=bs.length / 12∧rightG (n:Int) es=true∧∀e∈es,InE e:=by
 unfold decG at h
 split at h
 · simp at h
 · split at h
   · simp at h
   · next h1 =>
     split at h
     · simp at h
     · next h2 =>
       split at h
       · simp at h
       · next h3 =>
         simp only [Prod.mk.injEq,and_true] at h
         obtain ⟨rfl,rfl,rfl⟩:=h
         have hin:∀i,InE (egAt bs i):=fun i=>⟨getB_lt _ _,getB_lt _ _,getB_lt _ _⟩
         have hall:=scan_all _ _ h3
         refine ⟨rfl,by omega,by simp,rightG_mk (by omega) (by simp;omega) fun e he=>?_,fun e he=>?_⟩
         · obtain ⟨i,hi,rfl⟩:=List.mem_map.1 he
           exact hall i (Nat.zero_le _) (by simpa using hi)
         · obtain ⟨i,hi,rfl⟩:=List.mem_map.1 he
           exact hin i
end ED
open ED (Eg)
theorem ok_of {n:Nat} {es:List Eg} (h:ED.rightG (n:Int) es=true) (hE:∀e∈es,ED.InE e):OkG n es∧InG n es:=by
 obtain ⟨_,_,h3⟩:=ED.rightG_all h
 exact ⟨fun e he=>⟨(h3 e he).2,hE e he⟩,fun e he=>⟨(h3 e he).1,(h3 e he).2,hE e he⟩⟩
end Go.Proofs.YtkpiakgmkpbikaaGreatDoor
namespace Go.Proofs.YtkpiakgmkpbikaaGreatDoor
open ED (Eg egV egC edgeE InE grV)
section
variable {F : Fm} {s : Hl} {pb db eb B K : Nat} {p : Prg} {C : Cx} {D : Dk} {m : Ma} {n sh d : Nat} {es : List Eg} {ve : Value}
theorem open_none (hL:Laid F) (hN:NmsOk C) (hd:d≤8) (hsh:sh<100) (hB:1≤B) (hC:C.Ok) (hR:SlotsN D) (hD:DiskAt db D s) (hw:Wz C D) (ha:D.armed=0) {N M:Int} {q:Prg} {pd pk:Option Addr} {nd cd nk ck:Nat} {ep:Value} :
 Spec Tryz.prog 9 #[.pointer (some ⟨pb,0,none⟩),spV 1 N M q (.slice pd nd cd) (.slice pk nk ck)] F ((pb,plO 0 db ep (B:Int))::s) fun v s'=>∃eb g D',v=anV 0 0 0 false ⟨0,0⟩∧s'=(pb,plO 0 db (.pointer (some ⟨eb,0,none⟩)) (B:Int))::(eb,enO db (B:Int) ma0 false false)::g∧DiskAt db D' g∧Eng C p n sh es d D' ma0 false false∧D'.armed=0:=by
 refine (open_any (p:=p) (n:=n) (sh:=sh) (es:=es) (d:=d) (mo:=none) hL hN hd hsh hB hC hR hD hw).mono ?_
 rintro v s' ⟨e,ep',s1,g,D',rfl,rfl,hD',hO⟩
 obtain ⟨rfl,⟨eb,rfl,rfl⟩,hE,harm⟩:=hO.resolve_right (fun h=>h.2.2.1 ha)
 exact ⟨eb,g,D',rfl,rfl,hD',hE,harm ha⟩
end
theorem nc_mono {B a b:Nat} (h:a≤b):nc B a≤nc B b:=by unfold nc;exact Nat.div_le_div_right (by omega)
theorem ingP_ctx {st bx shc K:Nat} {room:Int} {n sh B:Nat} {es:List Eg} (h1:1≤sh) (h2:sh<100) (hsc:sh≤shc) (hrg:ED.rightG (n:Int) es=true) (hE:∀e∈es,InE e) (hl:es.length<49) (hB:1≤B) (hB2:B<1000) (hK:3*nc B es.length≤K+2) (hK2:K<100):IngP (ctxC st bx shc K room) n sh B K es :=
 ⟨h1,h2,(ED.rightG_all hrg).1,(ok_of hrg hE).1,hrg,hl,hB,hB2,(show 1000≤1000 by omega),fun i hi=>⟨in_ptN (by omega),in_shN (by omega)⟩,fun i hi=>by
  have:=nc_mono (B:=B) (inSL_len n sh i es)
  omega,hK2,fun k h1 h2=>in_runN h1 h2,in_slT,in_slN (by omega)⟩
theorem goP_ctx {st bx shc K:Nat} {room:Int} {n sh most d:Nat} {p:Prg} {es:List Eg} (hEn:Ends p n es most d) (hd:d≤8) (hds:d<st) (hp:p.start<4294967296) (hr:rightP p (n:Int)=true) (hn:n≤100) (hrg:ED.rightG (n:Int) es=true) (hE:∀e∈es,InE e) (hl:es.length<49) (hbx:es.length≤bx) (h1:1≤sh) (h2:sh<100):GoP (ctxC st bx shc K room) p n sh es most d :=
 ⟨hEn,hd,hp,hr,hn,conf_in (by omega) (ok_of hrg hE).2,⟨in_slT,fun i hi=>in_slN hi,in_stT,fun j hj=>in_stN (by omega),(show 1000≤1000 by omega)⟩,fun k h1 h2=>in_boxN h1 (by omega),h1,h2,(ok_of hrg hE).1,(ok_of hrg hE).2,hl⟩
abbrev bsW:List UInt8:=[2,0,0,0,0,0,0,0,1,0,0,0,7,0,0,0]
abbrev esW:List Eg:=[⟨0,1,7⟩]
abbrev pW:Prg:=⟨1,0⟩
abbrev CW:Cx:=ctxC 6 1 1 1 1000
theorem decW:ED.decG bsW=(2,esW,0,0):=by decide
theorem inW:∀e∈esW,InE e:=by intro e he;rw [List.mem_singleton] at he;subst he;exact ⟨by decide,by decide,by decide⟩
theorem rgW:ED.rightG ((2:Nat):Int) esW=true:=by decide
theorem endsW:Ends pW 2 esW 5 2:=⟨by decide,by decide,fun _=>by decide⟩
theorem ingW:IngP CW 2 1 4 1 esW:=ingP_ctx (by decide) (by decide) (by decide) rgW inW (by decide) (by decide) (by decide) (by decide) (by decide)
theorem goW:GoP CW pW 2 1 esW 5 2:=goP_ctx endsW (by decide) (by decide) (by decide) (by decide) (by decide) rgW inW (by decide) (by decide) (by decide) (by decide)
theorem valW:(conf pW 2 esW 2).vals[1]! = 1:=by decide
set_option maxHeartbeats 4000000 in
theorem works_spec {F:Fm} (hL:Laid F):Spec Tryz.prog 6 #[] F [] fun v _=>v=.bool true:=by
 have hC:CW.Ok:=ctxC_ok (by decide) (by decide)
 have hN:NmsOk CW:=ctxC_nms (by decide)
 have hw0:Wz CW ⟨[],max 1000 0,0,0,0,[],false⟩:=Wz.new CW
 have hin:=conf_in (p:=pW) (show 2≤1048576 by decide) (ok_of rgW inW).2
 refine Spec.of (n:=51) (vs:=[]) Tryz.func6 rfl Tryz.ntmps6 rfl ?_
 refine sj [.p] Z<|aj Z<|nl<|sj [.e,.p] Z<|Rg.callA Z Z Z (mz Z) (new_player 1000 ((4:Nat):Int)) ?_
 rintro _ _ ⟨pb,db,s2,rfl,rfl,hD0⟩
 refine aj Z<|nl<|wj<|sj [.p,.p] Z<|mj Z<|uj Z (Pv.eqlNil Z Z)<|nl<|cj Z (fun h8=>absurd h8 (by simp)) (fun h8=>?_)
 refine kj<|sj [.p,.p,.e,.e,.e] Z<|mj Z<|uj Z (Pv.build (c:=#[.int .i64 1,.int .i64 0,.int .i64 0,.int .i64 0,.int .u32 ((0:Nat):Int),.slice none 0 0,.slice none 0 0]) rfl (by kernel_rfl))<|Rg.callH Z Z Z (mz Z) (fun F' hF'=>open_none (F:=F') (p:=pW) (n:=2) (sh:=1) (es:=esW) (d:=2) (B:=4) (C:=CW) (q:=⟨0,0⟩) (N:=0) (M:=0) (pd:=none) (nd:=0) (cd:=0) (pk:=none) (nk:=0) (ck:=0) (ep:=.pointer none) (pb:=pb) (hL.mono fun b o h=>hF' b o (Or.inr h)) hN (by decide) (by decide) (by decide) hC ⟨rfl,rfl⟩ hD0 hw0 rfl) rfl ?_
 rintro _ _ ⟨eb,g,D1,rfl,rfl,hD1,hE1,ha1⟩
 refine Rg.alloc Z Z Z Z (fun b2=>?_)
 refine Rg.storeA (us:=anC 0 0 0 false ⟨0,0⟩) Z Z Z Z Z Z Z Z<|nl<|sj [.p,.e,.p,.e,.e,.e] Z<|mj Z<|Rg.bsliceN Z Z Z Z Z Z Z (fun b13=>?_)
 refine uj Z (Pv.build (c:=#[.int .i64 2,.int .i64 ((1:Nat):Int),.int .i64 0,.int .i64 0,.int .u32 ((0:Nat):Int),.slice (some ⟨b13,0,none⟩) 16 16,.slice none 0 0]) rfl (by kernel_rfl))<|Rg.callH Z Z Z (mz Z) (fun F' hF'=>ingest_any (F:=F') (p:=pW) (n:=2) (sh:=1) (es:=esW) (d:=2) (B:=4) (K:=1) (C:=CW) (bs:=bsW) (pd:=some ⟨b13,0,none⟩) (cd:=16) (is:=false) (dd:=false) (m:=ma0) (q:=⟨0,0⟩) (M:=0) (pk:=none) (nk:=0) (ck:=0) (eb:=eb) (pb:=pb) (hL.mono fun b o h=>hF' b o (Or.inr h)) ingW (Arg.own (Own.blk' (E:=byteE) b13 16 16 bsW [] rfl rfl (by decide)) fun b o h=>hF' b o (Or.inl (by rw [List.mem_singleton] at h;rw [h];exact List.mem_cons_self))) (by decide) decW hC hE1 hD1) rfl ?_
 rintro _ _ ⟨e,D2,m2,is2,dd2,g2,rfl,rfl,hD2,hE2,_,hq2,hq3⟩
 obtain ⟨ha2,rfl,rfl,he0⟩:=hq3 ha1 rfl
 obtain ⟨rfl,_,rfl⟩:=(hq2 rfl rfl).resolve_right (fun h=>by cases h.2)
 refine Rg.alloc Z Z Z Z (fun b3=>?_)
 refine Rg.storeA (us:=anC 0 0 0 false ⟨0,0⟩) Z Z Z Z Z Z Z Z<|nl<|sj [.p,.p,.p,.e,.e,.e] Z<|mj Z<|uj Z (Pv.build (c:=#[.int .i64 1,.int .u32 ((0:Nat):Int)]) Z Z)<|uj Z (Pv.build (c:=#[.int .i64 3,.int .i64 ((5:Nat):Int),.int .i64 0,.int .i64 1,.int .u32 ((0:Nat):Int),.slice none 0 0,.slice none 0 0]) rfl (by kernel_rfl))<|Rg.callH Z Z Z (mz Z) (fun F' hF'=>run_any (F:=F') (p:=pW) (n:=2) (sh:=1) (es:=esW) (d:=2) (most:=5) (B:=4) (C:=CW) (is:=true) (dd:=false) (m:=ma1 2 1) (M:=0) (pd:=none) (nd:=0) (cd:=0) (pk:=none) (nk:=0) (ck:=0) (eb:=eb) (pb:=pb) (hL.mono fun b o h=>hF' b o (Or.inr h)) goW (by decide) hC hE2 hD2) rfl ?_
 rintro _ _ ⟨e,z,D3,m3,dd3,g3,rfl,rfl,hD3,hE3,hq⟩
 obtain ⟨ha3,rfl,rfl,rfl,hst3,hmp3⟩:=hq ha2 rfl rfl
 refine Rg.alloc Z Z Z Z (fun b4=>?_)
 refine Rg.storeA (us:=anC 0 ((2:Nat):Int) 0 false ⟨0,0⟩) Z Z Z Z Z Z Z Z<|nl<|sj [.p,.p,.e,.e,.e] Z<|mj Z<|uj Z (Pv.build (c:=#[.int .i64 4,.int .i64 ((2:Nat):Int),.int .i64 ((1:Nat):Int),.int .i64 0,.int .u32 ((0:Nat):Int),.slice none 0 0,.slice none 0 0]) rfl (by kernel_rfl))<|Rg.callH Z Z Z (mz Z) (fun F' hF'=>query_any (F:=F') (p:=pW) (n:=2) (sh:=1) (es:=esW) (d:=2) (C:=CW) (q:=⟨0,0⟩) (j:=2) (v:=1) (Bi:=((4:Nat):Int)) (m:=m3) (eb:=eb) (pb:=pb) (pd:=none) (nd:=0) (cd:=0) (pk:=none) (nk:=0) (ck:=0) (hL.mono fun b o h=>hF' b o (Or.inr h)) (by decide) hin (by decide) hC hE3 ha3 (by omega) (by decide) hD3) rfl ?_
 rintro _ _ ⟨D4,g4,rfl,rfl,hD4,hE4,ha4⟩
 rw [valW]
 refine Rg.alloc Z Z Z Z (fun b5=>?_)
 refine Rg.storeA (us:=anC 0 0 1 (conf pW 2 esW 2).live[1]! ⟨0,0⟩) Z Z Z Z Z Z Z Z<|nl<|sj [.p,.r,.p,.p,.p,.r,.p,.p,.p,.p,.r,.p,.p,.p,.p,.r,.p,.p,.p,.p,.r,.p,.p,.p,.p,.r,.p,.p,.p] Z<|fj Z<|lj Z Z<|uj Z (Pv.eql Z Z)<|mj Z ?_
 refine Rg.split (t:=26) rfl (fun h26=>?_) (fun h26=>absurd h26 (by decide))
 refine fj Z<|lj Z Z<|uj Z (Pv.eql Z Z)<|qj Z Z<|mj Z ?_
 refine Rg.split (t:=31) rfl (fun h31=>?_) (fun h31=>absurd h31 (by decide))
 refine fj Z<|lj Z Z<|uj Z (Pv.eql Z Z)<|qj Z Z<|mj Z ?_
 refine Rg.split (t:=36) rfl (fun h36=>?_) (fun h36=>absurd h36 (by decide))
 refine fj Z<|lj Z Z<|uj Z (Pv.eql Z Z)<|qj Z Z<|mj Z ?_
 refine Rg.split (t:=41) rfl (fun h41=>?_) (fun h41=>absurd h41 (by decide))
 refine fj Z<|lj Z Z<|uj Z (Pv.eql Z Z)<|qj Z Z<|mj Z ?_
 refine Rg.split (t:=46) rfl (fun h46=>?_) (fun h46=>absurd h46 (by decide))
 refine fj Z<|lj Z Z<|uj Z (Pv.eql Z Z)<|qj Z Z<|aj Z<|nl<|vz Z (tz Z) ?_
 rfl
abbrev CT:Cx:=ctxC 10 15 20 43 10000
theorem CT_ok:CT.Ok:=ctxC_ok (by decide) (by decide)
theorem CT_nms:NmsOk CT:=ctxC_nms (by decide)
section
variable {F : Fm} {s : Hl} {pb db eb : Nat} {D : Dk} {bs : List UInt8} {pd pk : Option Addr} {cd nk ck : Nat} {M : Int} {q : Prg}
theorem ingest_bytes (hL:Laid F) (ha:Arg byteE F (.slice pd bs.length cd) bs) (hl:bs.length≤500) {sh:Nat} (h1:1≤sh) (h2:sh≤20) {n a e:Nat} {es:List Eg} (hd:ED.decG bs=(n,es,a,e)) (hE:Eng CT ⟨0,0⟩ n sh es 0 D ma0 false false) (hD:DiskAt db D s) (harm:D.armed=0) :
 Spec Tryz.prog 9 #[.pointer (some ⟨pb,0,none⟩),spV 2 (sh:Int) M q (.slice pd bs.length cd) (.slice pk nk ck)] F ((pb,plO 0 db (.pointer (some ⟨eb,0,none⟩)) ((3:Nat):Int))::(eb,enO db ((3:Nat):Int) ma0 false false)::s) fun v s'=>∃D' m2 is2 g,v=anV (e:Int) (a:Int) 0 false ⟨0,0⟩∧s'=(pb,plO 0 db (.pointer (some ⟨eb,0,none⟩)) ((3:Nat):Int))::(eb,enO db ((3:Nat):Int) m2 is2 false)::g∧DiskAt db D' g∧Eng CT ⟨0,0⟩ n sh es 0 D' m2 is2 false∧D'.armed=0∧is2=((e:Int)==0)∧(if is2=true then m2.step else -1) = -1:=by
 by_cases he:e=0
 · subst he
   obtain ⟨rfl,hn,hes,hrg,hin⟩:=ED.dec_good hd
   have hes41:es.length≤41:=by omega
   have hnc:=nc_mono (B:=3) hes41
   have h14:nc 3 41=14:=by decide
   have hP:IngP CT n sh 3 43 es:=ingP_ctx h1 (by omega) h2 hrg hin (by omega) (by decide) (by decide) (by omega) (by decide)
   refine (ingest_any hL hP ha (by omega) hd CT_ok hE hD).mono ?_
   rintro v s' ⟨e,D',m2,is2,dd2,g,hv,hs,hD',hE',_,hq2,hq3⟩
   obtain ⟨ha2,rfl,rfl,he0⟩:=hq3 harm rfl
   obtain ⟨rfl,_,rfl⟩:=(hq2 rfl rfl).resolve_right (fun h=>by cases h.2)
   exact ⟨D',_,true,g,hv,hs,hD',hE',ha2,rfl,rfl⟩
 · refine (Spec.frame (h1:=(pb,plO 0 db (.pointer (some ⟨eb,0,none⟩)) ((3:Nat):Int))::[(eb,enO db ((3:Nat):Int) ma0 false false)]) (rest:=s) (do_ingest_bad (hL.mono fun b o h=>Or.inr h) (ha.mono fun b o h=>Or.inr h) (by omega) hd he)).mono ?_
   rintro v s' ⟨s1,⟨hv,rfl⟩,rfl⟩
   exact ⟨D,ma0,false,s,hv,rfl,hD,hE,harm,(by rw [eq_comm,beq_eq_false_iff_ne];omega),rfl⟩
end
section
variable {F : Fm}
set_option maxHeartbeats 8000000 in
theorem TopBytes_spec (hL:Laid F) {v0 v2:Value} {bs0:List UInt8} {ks0:List Bool} (ha:Arg byteE F v0 bs0) (hk:Arg boolE F v2 ks0) (S:Int) :
 Spec Tryz.prog 5 #[v0,.int .i64 S,v2] F [] fun v _=>v=.bool true:=by
 obtain ⟨p0,c0,rfl⟩:=ha.shape
 obtain ⟨p2,c2,rfl⟩:=hk.shape
 have hca:=ha.cap.2
 have hck:=hk.cap.2
 have ht:=ha.take (k:=min bs0.length 500) (Nat.min_le_left _ _)
 have hkt:=hk.take (k:=min ks0.length 60) (Nat.min_le_left _ _)
 obtain ⟨bs,hbs⟩:∃bs,bs=bs0.take (min bs0.length 500):=⟨_,rfl⟩
 obtain ⟨ks,hks⟩:∃ks,ks=ks0.take (min ks0.length 60):=⟨_,rfl⟩
 have hbl:min bs0.length 500=bs.length:=by rw [hbs,List.length_take];omega
 have hkl:min ks0.length 60=ks.length:=by rw [hks,List.length_take];omega
 rw [←hbs,hbl] at ht
 rw [←hks,hkl] at hkt
 have hb500:bs.length≤500:=by omega
 have hk60:ks.length≤60:=by omega
 obtain ⟨n,es,a,e,hd⟩:∃n es a e,ED.decG bs=(n,es,a,e):=⟨_,_,_,_,rfl⟩
 have hw0:Wz CT ⟨[],max 10000 0,0,0,0,[],false⟩:=Wz.new CT
 have hs1:1≤tcB S:=by unfold tcB;omega
 have hs2:tcB S≤20:=by unfold tcB;omega
 refine Spec.of (n:=103) (vs:=[.slice p0 bs0.length c0,.int .i64 S,.slice p2 ks0.length c2]) Tryz.func5 rfl Tryz.ntmps5 rfl ?_
 refine sj [.p] Z<|aj Z<|nl<|sj [.e,.p] Z<|Rg.callA Z Z Z (mz Z) (works_spec (hL.mono fun b o h=>Or.inr h)) ?_
 rintro _ s16 rfl
 refine aj Z<|nl<|sj [.p,.p,.p,.p,.p,.p] Z<|mj Z<|mj Z<|uj Z (Pv.lenS Z)<|uj Z (Pv.asI (min bs0.length 500) (Pv.min rfl rfl) (by omega))<|uj Z (Pv.slTo (min bs0.length 500) rfl rfl (by omega)) ?_
 simp only [hbl]
 refine aj Z<|nl<|sj [.p,.p,.p,.p,.p,.p] Z<|mj Z<|mj Z<|uj Z (Pv.lenS Z)<|uj Z (Pv.asI (min ks0.length 60) (Pv.min rfl rfl) (by omega))<|uj Z (Pv.slTo (min ks0.length 60) rfl rfl (by omega)) ?_
 simp only [hkl]
 refine aj Z<|nl<|sj [.p,.p,.p,.p,.p] Z<|mj Z<|uj Z (Pv.and rfl rfl ⟨by decide,by decide⟩)<|uj Z (Pv.remN (andN S 65535) 20 rfl rfl (by decide))<|uj Z (Pv.asI (tcB S) (Pv.add rfl rfl (by omega)) (by unfold tcB;omega))<|aj Z<|nl<|sj [.e,.p] Z<|Rg.callA Z Z Z (mz Z) (new_player 10000 ((3:Nat):Int)) ?_
 rintro _ _ ⟨pb,db,s2,rfl,rfl,hD0⟩
 refine aj Z<|nl<|wj<|sj [.p,.p] Z<|mj Z<|uj Z (Pv.eqlNil Z Z)<|nl<|cj Z (fun h33=>absurd h33 (by simp)) (fun h33=>?_)
 refine kj<|sj [.p,.e,.p,.p,.p,.p,.e,.e,.p,.p] Z<|mj Z<|Rg.callA Z Z Z (mz Z) (ED.rdecode_spec (ht.mono fun b o h=>Or.inr h) (by omega)) ?_
 rw [hd]
 rintro _ s36 ⟨u36,rfl,own36⟩
 obtain ⟨p36,c36,rfl⟩:=own36.shape
 refine mj Z<|xj Z Z<|xj Z Z<|xj Z Z<|Rg.alloc Z Z Z Z (fun b9=>?_)
 refine Rg.storeA (us:=[.int .i64 (n:Int),.slice p36 es.length c36]) Z Z Z Z Z Z Z Z<|aj Z<|aj Z<|nl<|sj [.p,.p,.e] Z<|mj Z<|uj Z (Pv.build (c:=#[.int .i64 1,.int .i64 0,.int .i64 0,.int .i64 0,.int .u32 ((0:Nat):Int),.slice none 0 0,.slice none 0 0]) rfl (by kernel_rfl))<|Rg.callH Z Z Z (mz Z) (fun F' hF'=>open_none (F:=F') (p:=⟨0,0⟩) (n:=n) (sh:=tcB S) (es:=es) (d:=0) (B:=3) (C:=CT) (q:=⟨0,0⟩) (N:=0) (M:=0) (pd:=none) (nd:=0) (cd:=0) (pk:=none) (nk:=0) (ck:=0) (ep:=.pointer none) (pb:=pb) (hL.mono fun b o h=>hF' b o (Or.inr h)) CT_nms (by decide) (by omega) (by decide) CT_ok ⟨rfl,rfl⟩ hD0 hw0 rfl) rfl ?_
 rintro _ _ ⟨eb,g,D1,rfl,rfl,hD1,hE1,ha1⟩
 refine nl<|sj [.p,.p,.p,.p,.e,.e,.e] Z<|mj Z<|mj Z<|mj Z<|uj Z (Pv.build (c:=#[.int .i64 2,.int .i64 (tcB S:Int),.int .i64 0,.int .i64 0,.int .u32 ((0:Nat):Int),.slice p0 bs.length c0,.slice none 0 0]) rfl (by kernel_rfl))<|Rg.callH Z Z Z (mz Z) (fun F' hF'=>ingest_bytes (F:=F') (q:=⟨0,0⟩) (M:=0) (pk:=none) (nk:=0) (ck:=0) (eb:=eb) (pb:=pb) (hL.mono fun b o h=>hF' b o (Or.inr h)) (ht.mono fun b o h=>hF' b o (Or.inr h)) hb500 hs1 hs2 hd hE1 hD1 ha1) Z ?_
 rintro _ _ ⟨D2,m2,is2,g2,rfl,rfl,hD2,hE2,ha2,his2,hst2⟩
 refine Rg.alloc Z Z Z Z (fun b12=>?_)
 refine Rg.storeA (us:=anC (e:Int) (a:Int) 0 false ⟨0,0⟩) Z Z Z Z Z Z Z Z<|nl<|sj [.p,.p,.e,.e,.e] Z<|mj Z<|uj Z (Pv.build (c:=#[.int .i64 5,.int .i64 0,.int .i64 0,.int .i64 0,.int .u32 ((0:Nat):Int),.slice none 0 0,.slice none 0 0]) rfl (by kernel_rfl))<|Rg.callH Z Z Z (mz Z) (fun F' hF'=>status_any (F:=F') (s:=g2) (m:=m2) (is:=is2) (dd:=false) (q:=⟨0,0⟩) (N:=0) (M:=0) (pd:=none) (nd:=0) (cd:=0) (pk:=none) (nk:=0) (ck:=0) (eb:=eb) (pb:=pb) (db:=db) (Bi:=((3:Nat):Int)) (hL.mono fun b o h=>hF' b o (Or.inr h))) Z ?_
 rintro _ _ ⟨rfl,rfl⟩
 rw [hst2]
 generalize (if is2=true then m2.p else ⟨0,0⟩)=q2
 refine Rg.alloc Z Z Z Z (fun b13=>?_)
 refine Rg.storeA (us:=anC 0 (-1) 0 is2 q2) Z Z Z Z Z Z Z Z<|nl<|sj [.p,.p,.p,.e] Z<|mj Z<|mj Z<|uj Z (Pv.build (c:=#[.int .i64 6,.int .i64 0,.int .i64 0,.int .i64 0,.int .u32 ((0:Nat):Int),.slice none 0 0,.slice p2 ks.length c2]) rfl (by kernel_rfl))<|Rg.callH Z Z Z (mz Z) (fun F' hF'=>crash_any (F:=F') (p:=⟨0,0⟩) (n:=n) (sh:=tcB S) (es:=es) (d:=0) (mo:=if is2=true then some m2 else none) (C:=CT) (q:=⟨0,0⟩) (N:=0) (M:=0) (pd:=none) (nd:=0) (cd:=0) (ep:=.pointer (some ⟨eb,0,none⟩)) (B:=3) (pb:=pb) CT_ok (by decide) (hkt.mono fun b o h=>hF' b o (Or.inr h)) hE2.wz hE2.rn hD2) rfl ?_
 obtain ⟨mo,hmo⟩:∃mo,mo=if is2=true then some m2 else none:=⟨_,rfl⟩
 rw [←hmo]
 have hmo1:mo.isSome=is2:=by rw [hmo];cases is2<;>rfl
 have hmo2:(if mo.isSome=true then (mo.getD ma0).step else -1) = -1:=by
  rw [hmo]
  revert hst2
  clear his2 hE2 hmo hmo1
  cases is2
  · exact fun _=>rfl
  · exact fun h=>h
 rintro _ _ ⟨g3,D3,rfl,rfl,hD3,hw3,hR3,ha3⟩
 refine nl<|sj [.p,.p,.e,.e,.e] Z<|mj Z<|uj Z (Pv.build (c:=#[.int .i64 1,.int .i64 0,.int .i64 0,.int .i64 0,.int .u32 ((0:Nat):Int),.slice none 0 0,.slice none 0 0]) rfl (by kernel_rfl))<|Rg.callH Z Z Z (mz Z) (fun F' hF'=>open_any (F:=F') (q:=⟨0,0⟩) (N:=0) (M:=0) (pd:=none) (nd:=0) (cd:=0) (pk:=none) (nk:=0) (ck:=0) (ep:=.pointer (some ⟨eb,0,none⟩)) (B:=3) (pb:=pb) (hL.mono fun b o h=>hF' b o (Or.inr h)) CT_nms (by decide) (by omega) (by decide) CT_ok hR3 hD3 hw3) rfl ?_
 rintro _ _ ⟨e4,ep4,s4,g4,D4,rfl,rfl,hD4,hO4⟩
 obtain ⟨rfl,⟨eb4,rfl,rfl⟩,hE4,ha4⟩:=hO4.resolve_right (fun h=>h.2.2.1 (ha3 ha2))
 rw [List.singleton_append]
 refine Rg.alloc Z Z Z Z (fun b14=>?_)
 refine Rg.storeA (us:=anC 0 0 0 false ⟨0,0⟩) Z Z Z Z Z Z Z Z<|nl<|sj [.p,.p,.e,.e,.e] Z<|mj Z<|uj Z (Pv.build (c:=#[.int .i64 5,.int .i64 0,.int .i64 0,.int .i64 0,.int .u32 ((0:Nat):Int),.slice none 0 0,.slice none 0 0]) rfl (by kernel_rfl))<|Rg.callH Z Z Z (mz Z) (fun F' hF'=>status_any (F:=F') (s:=g4) (m:=mo.getD ma0) (is:=mo.isSome) (dd:=false) (q:=⟨0,0⟩) (N:=0) (M:=0) (pd:=none) (nd:=0) (cd:=0) (pk:=none) (nk:=0) (ck:=0) (eb:=eb4) (pb:=pb) (db:=db) (Bi:=((3:Nat):Int)) (hL.mono fun b o h=>hF' b o (Or.inr h))) Z ?_
 rintro _ _ ⟨rfl,rfl⟩
 rw [hmo2]
 generalize (if mo.isSome=true then (mo.getD ma0).p else ⟨0,0⟩)=q4
 refine Rg.alloc Z Z Z Z (fun b15=>?_)
 refine Rg.storeA (us:=anC 0 (-1) 0 mo.isSome q4) Z Z Z Z Z Z Z Z<|nl<|sj [.p,.p,.p,.r,.p,.p,.p,.p,.p,.r,.p,.p,.p,.p,.p,.r,.p,.p,.p,.p,.p,.p,.r,.p,.p,.p,.p,.r,.p,.p,.p,.p,.r,.p,.r,.p,.p,.p,.p,.r,.p,.p,.p] Z<|mj Z<|mj Z<|Rg.split (t:=62) rfl (fun h62=>?_) (fun h62=>absurd h62 (by decide))
 refine fj Z<|lj Z Z<|mj Z<|uj Z (Pv.eql Z Z)<|qj Z Z<|mj Z ?_
 refine Rg.split (t:=68) rfl (fun h68=>?_) (fun h68=>absurd h68 (by simp))
 refine fj Z<|lj Z Z<|mj Z<|uj Z (Pv.eql Z Z)<|qj Z Z<|mj Z ?_
 refine Rg.split (t:=74) rfl (fun h74=>?_) (fun h74=>absurd h74 (by simp))
 refine fj Z<|lj Z Z<|mj Z<|uj Z (Pv.eql Z Z)<|uj Z (Pv.eqlB Z Z)<|qj Z Z<|mj Z ?_
 refine Rg.split (t:=81) rfl (fun h81=>?_) (fun h81=>absurd h81 (by simp [his2]))
 refine fj Z<|lj Z Z<|uj Z (Pv.eql Z Z)<|qj Z Z<|mj Z ?_
 refine Rg.split (t:=86) rfl (fun h86=>?_) (fun h86=>absurd h86 (by decide))
 refine fj Z<|lj Z Z<|uj Z (Pv.eql Z Z)<|qj Z Z<|mj Z ?_
 refine Rg.split (t:=91) rfl (fun h91=>?_) (fun h91=>absurd h91 (by decide))
 refine fj Z<|lj Z Z<|fj Z<|lj Z Z<|uj Z (Pv.eqlB Z Z)<|qj Z Z<|mj Z ?_
 refine Rg.split (t:=98) rfl (fun h98=>?_) (fun h98=>absurd h98 (by simp [hmo1]))
 refine fj Z<|lj Z Z<|uj Z (Pv.eql Z Z)<|qj Z Z<|aj Z<|nl<|vz Z (tz Z) ?_
 rfl
end
end Go.Proofs.YtkpiakgmkpbikaaGreatDoor
namespace Go.Proofs.YtkpiakgmkpbikaaGreatDoor
open ED (Eg egV egC edgeE InE grV)
section
variable {F : Fm}
end
section
variable {F : Fm}
end
end Go.Proofs.YtkpiakgmkpbikaaGreatDoor
