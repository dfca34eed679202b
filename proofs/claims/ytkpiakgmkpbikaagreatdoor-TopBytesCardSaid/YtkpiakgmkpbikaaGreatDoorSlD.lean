/- Steps of the proof. -/
import Derived.Test.YtkpiakgmkpbikaaGreatDoorSlB
import Derived.Laws.Sem
import Derived.Laws.World
import Derived.Laws.AppendOwn
import Derived.IntWalk
set_option linter.unusedVariables false
namespace Go.Proofs.YtkpiakgmkpbikaaGreatDoor
abbrev cellsO (vs:List Value) (e:TypeId):Obj:=.cells vs.toArray e (0,0)
class TyOne (P:Program) (t:TypeId):Prop where
 agg:∀w,(isAgg t).run P w=.ok false w
 size:∀w,(sizeOf t).run P w=.ok 1 w
class TyAgg (P:Program) (t:TypeId) (k:outParam Nat):Prop where
 agg:∀w,(isAgg t).run P w=.ok true w
 size:∀w,(sizeOf t).run P w=.ok k w
class TySize (P:Program) (t:TypeId) (k:outParam Nat):Prop where
 size:∀w,(sizeOf t).run P w=.ok k w
instance {P:Program} {t:TypeId} [h:TyOne P t]:TySize P t 1:=⟨h.size⟩
instance {P:Program} {t:TypeId} {k:Nat} [h:TyAgg P t k]:TySize P t k:=⟨h.size⟩
class TyZero (P:Program) (t:TypeId) (z:outParam Value):Prop where
 zero:∀w,(zeroValue t).run P w=.ok z w
class TyUnder (P:Program) (t:TypeId) (d:outParam TypeDesc):Prop where
 under:P.underlying t=some d
class TyField (P:Program) (s:TypeId) (f:Nat) (off:outParam Nat):Prop where
 place:∀b o w,(Instr.fieldAt s (.pointer (some ⟨b,o,none⟩)) f).run P w=.ok (.pointer (some ⟨b,o+off,none⟩)) w
class TyConc (P:Program) (t:TypeId):Prop where
 conc:∀x w,(Instr.makeInterface t x).run P w=.ok (.iface t x) w
class TyStruct (P:Program) (t:TypeId) (zs:outParam (List Value)) (fs:outParam (List (Nat×Nat))):Prop where
 build : ∀ ps w, (Instr.build t ps).run P w = match Instr.fill (fun i => fs[i]?) zs.toArray ps.toList with | some c => .ok (.agg c) w | none => .halt (.stuck "build: no such field, or a part of the wrong size") w
section
variable {P : Program} {n : Nf} {F : Fm} {l : Env} {hl : Hl} {d : Option Tmp} {ty : TypeId} {pos : String} {af : Array Edge} {g : Option (Nat × Bool)}
theorem addr_add (b off k:Nat):((⟨b,off,none⟩:Addr).add k)=⟨b,off+k,none⟩:=by unfold Addr.add; split<;>simp_all
theorem tyField_mk {s f off k:Nat} {fs:Array Field} {fl:Field} (hu:P.underlying s=some (.struct fs)) (hf:fs[f]? = some fl) (ho:fl.offset=off) (hz:∀w,(sizeOf fl.type).run P w=.ok k w) (hk:k≠0):TyField P s f off:=⟨fun b o w=>by
 simp [Instr.fieldAt,run_underlying hu,hf,Instr.sureAddr,fieldPlace,hz,hk,addr_add,ho]⟩
theorem Pv.move {x:Operand} {v:Value} (hx:ev l x=some v):Pv P n l ⟨d,.move x,ty,pos,af,g⟩ v:=fun a w hf=>by
 simp [execOp,hf.ev hx]
theorem Pv.assign {x:Operand} {v:Value} (hx:ev l x=some v):Pv P n l ⟨d,.assign x,ty,pos,af,g⟩ v:=fun a w hf=>by
 simp [execOp,hf.ev hx]
theorem Pv.pickT {c x y:Operand} {v:Value} (hc:ev l c=some (.bool true)) (hx:ev l x=some v):Pv P n l ⟨d,.pick c x y,ty,pos,af,g⟩ v:=fun a w hf=>by
 simp [execOp,hf.ev hx,hf.ev hc,asBool]
theorem Pv.pickF {c x y:Operand} {v:Value} (hc:ev l c=some (.bool false)) (hy:ev l y=some v):Pv P n l ⟨d,.pick c x y,ty,pos,af,g⟩ v:=fun a w hf=>by
 simp [execOp,hf.ev hy,hf.ev hc,asBool]
theorem Pv.fa {s f b o off:Nat} {x:Operand} [ht:TyField P s f off] (hx:ev l x=some (.pointer (some ⟨b,o,none⟩))):Pv P n l ⟨d,.fieldAddr s x f,ty,pos,af,g⟩ (.pointer (some ⟨b,o+off,none⟩)):=fun a w hf=>by
 simp [execOp,hf.ev hx,ht.place]
theorem Pv.nilp {x:Operand} {a:Addr} (hx:ev l x=some (.pointer (some a))):Pv P n l ⟨d,.nilCheck x,ty,pos,af,g⟩ (.pointer (some a)):=fun ac w hf=>by
 simp [execOp,hf.ev hx]
theorem eqGuard_int {k k':IntKind} {op:BinOp} {t:TypeId} {x y:Operand} {p q:Int} {w:World}:(eqGuard op t x y (.int k p) (.int k' q)).run P w=.ok () w:=by
 unfold eqGuard
 by_cases h:(!(op matches .eql | .neq))=true<;>simp
theorem Pv.cmp {op:BinOp} {t t':TypeId} {x y:Operand} {k:IntKind} {p q:Int} {v:Value} (hx:ev l x=some (.int k p)) (hy:ev l y=some (.int k q)) (hop:(match op with | .eql | .neq | .lss | .leq | .gtr | .geq=>true | _=>false)=true)
 (hv:∀w,(Op.intCmp op p q).run P w=.ok v w):Pv P n l ⟨d,.binOp op t x y t',ty,pos,af,g⟩ v:=fun a w hf=>by
 have h1:(binOp op t (.int k p) (.int k q)).run P w=.ok v w:=by
  cases op<;>first | (simp [binOp]; exact hv w) | cases hop
 simp [execOp,hf.ev hx,hf.ev hy,eqGuard_int,h1]
theorem Pv.lss {t t':TypeId} {x y:Operand} {k:IntKind} {p q:Int} (hx:ev l x=some (.int k p)) (hy:ev l y=some (.int k q)):Pv P n l ⟨d,.binOp .lss t x y t',ty,pos,af,g⟩ (.bool (decide (p<q))):=Pv.cmp hx hy rfl fun _=>rfl
theorem Pv.leq {t t':TypeId} {x y:Operand} {k:IntKind} {p q:Int} (hx:ev l x=some (.int k p)) (hy:ev l y=some (.int k q)):Pv P n l ⟨d,.binOp .leq t x y t',ty,pos,af,g⟩ (.bool (decide (p≤q))):=Pv.cmp hx hy rfl fun _=>rfl
theorem Pv.gtr {t t':TypeId} {x y:Operand} {k:IntKind} {p q:Int} (hx:ev l x=some (.int k p)) (hy:ev l y=some (.int k q)):Pv P n l ⟨d,.binOp .gtr t x y t',ty,pos,af,g⟩ (.bool (decide (q<p))):=Pv.cmp hx hy rfl fun _=>rfl
theorem Pv.geq {t t':TypeId} {x y:Operand} {k:IntKind} {p q:Int} (hx:ev l x=some (.int k p)) (hy:ev l y=some (.int k q)):Pv P n l ⟨d,.binOp .geq t x y t',ty,pos,af,g⟩ (.bool (decide (q≤p))):=Pv.cmp hx hy rfl fun _=>rfl
theorem Pv.eql {t t':TypeId} {x y:Operand} {k:IntKind} {p q:Int} (hx:ev l x=some (.int k p)) (hy:ev l y=some (.int k q)):Pv P n l ⟨d,.binOp .eql t x y t',ty,pos,af,g⟩ (.bool (p==q)):=Pv.cmp hx hy rfl fun _=>rfl
theorem Pv.neq {t t':TypeId} {x y:Operand} {k:IntKind} {p q:Int} (hx:ev l x=some (.int k p)) (hy:ev l y=some (.int k q)):Pv P n l ⟨d,.binOp .neq t x y t',ty,pos,af,g⟩ (.bool (p != q)):=Pv.cmp hx hy rfl fun _=>rfl
theorem Pv.ar {op:BinOp} {t t':TypeId} {x y:Operand} {k:IntKind} {p q:Int} {v:Value} (hx:ev l x=some (.int k p)) (hy:ev l y=some (.int k q))
 (hv:∀w,(binOp op t (.int k p) (.int k q)).run P w=.ok v w):Pv P n l ⟨d,.binOp op t x y t',ty,pos,af,g⟩ v:=fun a w hf=>by
 simp [execOp,hf.ev hx,hf.ev hy,eqGuard_int,hv]
theorem Pv.addW {t t':TypeId} {x y:Operand} {k:IntKind} {p q:Int} (hx:ev l x=some (.int k p)) (hy:ev l y=some (.int k q)):Pv P n l ⟨d,.binOp .add t x y t',ty,pos,af,g⟩ (.int k (k.wrap (p+q))):=Pv.ar hx hy fun _=>by simp [binOp,Op.intArith]
theorem Pv.subW {t t':TypeId} {x y:Operand} {k:IntKind} {p q:Int} (hx:ev l x=some (.int k p)) (hy:ev l y=some (.int k q)):Pv P n l ⟨d,.binOp .sub t x y t',ty,pos,af,g⟩ (.int k (k.wrap (p-q))):=Pv.ar hx hy fun _=>by simp [binOp,Op.intArith]
theorem Pv.mulW {t t':TypeId} {x y:Operand} {k:IntKind} {p q:Int} (hx:ev l x=some (.int k p)) (hy:ev l y=some (.int k q)):Pv P n l ⟨d,.binOp .mul t x y t',ty,pos,af,g⟩ (.int k (k.wrap (p*q))):=Pv.ar hx hy fun _=>by simp [binOp,Op.intArith]
theorem i64_wrap {z:Int} (h : -9223372036854775808≤z∧z≤9223372036854775807):IntKind.i64.wrap z=z:=by
 simp only [IntKind.wrap,IntKind.bits,IntKind.signed]
 simp
 omega
theorem Pv.add {t t':TypeId} {x y:Operand} {p q:Int} (hx:ev l x=some (.int .i64 p)) (hy:ev l y=some (.int .i64 q)) (h : -9223372036854775808≤p+q∧p+q≤9223372036854775807):Pv P n l ⟨d,.binOp .add t x y t',ty,pos,af,g⟩ (.int .i64 (p+q)):=by
 have:=Pv.addW (P:=P) (n:=n) (d:=d) (ty:=ty) (pos:=pos) (af:=af) (g:=g) (t:=t) (t':=t') hx hy
 rwa [i64_wrap h] at this
theorem Pv.sub {t t':TypeId} {x y:Operand} {p q:Int} (hx:ev l x=some (.int .i64 p)) (hy:ev l y=some (.int .i64 q)) (h : -9223372036854775808≤p-q∧p-q≤9223372036854775807):Pv P n l ⟨d,.binOp .sub t x y t',ty,pos,af,g⟩ (.int .i64 (p-q)):=by
 have:=Pv.subW (P:=P) (n:=n) (d:=d) (ty:=ty) (pos:=pos) (af:=af) (g:=g) (t:=t) (t':=t') hx hy
 rwa [i64_wrap h] at this
theorem Pv.mul {t t':TypeId} {x y:Operand} {p q:Int} (hx:ev l x=some (.int .i64 p)) (hy:ev l y=some (.int .i64 q)) (h : -9223372036854775808≤p*q∧p*q≤9223372036854775807):Pv P n l ⟨d,.binOp .mul t x y t',ty,pos,af,g⟩ (.int .i64 (p*q)):=by
 have:=Pv.mulW (P:=P) (n:=n) (d:=d) (ty:=ty) (pos:=pos) (af:=af) (g:=g) (t:=t) (t':=t') hx hy
 rwa [i64_wrap h] at this
theorem Pv.quo {t t':TypeId} {x y:Operand} {p q:Int} (hx:ev l x=some (.int .i64 p)) (hy:ev l y=some (.int .i64 q)) (h:0≤p∧p≤9223372036854775807∧0<q):Pv P n l ⟨d,.binOp .quo t x y t',ty,pos,af,g⟩ (.int .i64 (p / q)):=Pv.ar hx hy fun w=>by
 have hq:q≠0:=by omega
 have hd:p.tdiv q=p / q:=Int.tdiv_eq_ediv_of_nonneg h.1
 have h1:0≤p / q:=Int.ediv_nonneg h.1 (by omega)
 have h2:p / q≤p:=Int.ediv_le_self _ h.1
 simp [binOp,Op.intDiv,hq,hd,i64_wrap (show -9223372036854775808≤p / q∧p / q≤9223372036854775807 by omega)]
theorem Pv.rem {t t':TypeId} {x y:Operand} {p q:Int} (hx:ev l x=some (.int .i64 p)) (hy:ev l y=some (.int .i64 q)) (h:0≤p∧0<q):Pv P n l ⟨d,.binOp .rem t x y t',ty,pos,af,g⟩ (.int .i64 (p % q)):=Pv.ar hx hy fun w=>by
 have hq:q≠0:=by omega
 have hd:p.tmod q=p % q:=Int.tmod_eq_emod_of_nonneg h.1
 simp [binOp,Op.intDiv,hq,hd]
theorem Pv.min {x y:Operand} {t t':TypeId} {k:IntKind} {p q:Int} (hx:ev l x=some (.int k p)) (hy:ev l y=some (.int k q)):Pv P n l ⟨d,.call { callee:=.builtin .min,args:=#[x,y],argTypes:=#[t,t'] },ty,pos,af,g⟩ (.int k (min p q)):=fun a w hf=>by
 simp [execOp,resolve,invoke,builtin,Builtin.min_,Builtin.min2,hf.ev hx,hf.ev hy]
 by_cases h:q<p
 · rw [if_pos h,Int.min_eq_right (by omega)]
 · rw [if_neg h,Int.min_eq_left (by omega)]
theorem Pv.max {x y:Operand} {t t':TypeId} {k:IntKind} {p q:Int} (hx:ev l x=some (.int k p)) (hy:ev l y=some (.int k q)):Pv P n l ⟨d,.call { callee:=.builtin .max,args:=#[x,y],argTypes:=#[t,t'] },ty,pos,af,g⟩ (.int k (max p q)):=fun a w hf=>by
 simp [execOp,resolve,invoke,builtin,Builtin.max_,Builtin.max2,hf.ev hx,hf.ev hy]
 by_cases h:p<q
 · rw [if_pos h,Int.max_eq_right (by omega)]
 · rw [if_neg h,Int.max_eq_left (by omega)]
def andN (p q:Int):Nat:=((BitVec.ofInt 64 p) &&& (BitVec.ofInt 64 q)).toNat
theorem andN_le {p q:Int} (h:0≤q∧q≤9223372036854775807):(andN p q:Int)≤q:=by
 have h1:andN p q≤(BitVec.ofInt 64 q).toNat:=by rw [andN,BitVec.toNat_and]; exact Nat.and_le_right
 have h2:((BitVec.ofInt 64 q).toNat:Int)=q:=by
  rw [BitVec.toNat_ofInt]
  omega
 omega
theorem Pv.and {t t':TypeId} {x y:Operand} {p q:Int} (hx:ev l x=some (.int .i64 p)) (hy:ev l y=some (.int .i64 q)) (h:0≤q∧q≤9223372036854775807):Pv P n l ⟨d,.binOp .and t x y t',ty,pos,af,g⟩ (.int .i64 (andN p q:Nat)):=Pv.ar hx hy fun w=>by
 have h1:=andN_le (p:=p) h
 have h2:IntKind.i64.wrap (andN p q:Nat)=(andN p q:Nat):=i64_wrap (by omega)
 show (Op.intBits .and .i64 p q).run P w=_
 show Result.ok (Value.int .i64 (IntKind.i64.wrap (andN p q:Nat))) w=_
 rw [h2]
theorem Pv.not {t:TypeId} {x:Operand} {b:Bool} (hx:ev l x=some (.bool b)):Pv P n l ⟨d,.unOp .not t x,ty,pos,af,g⟩ (.bool (!b)):=fun a w hf=>by
 simp [execOp,hf.ev hx,Op.unary]
theorem Pv.mkI {t:TypeId} {x:Operand} {v:Value} [ht:TyConc P t] (hx:ev l x=some v):Pv P n l ⟨d,.makeInterface t x,ty,pos,af,g⟩ (.iface t v):=fun a w hf=>by
 simp [execOp,hf.ev hx,ht.conc]
theorem Pv.extract {x:Operand} {i:Nat} {vs:List Value} {v:Value} (hx:ev l x=some (.tuple vs.toArray)) (hv:nth vs i=some v):Pv P n l ⟨d,.extract x i,ty,pos,af,g⟩ v:=fun a w hf=>by
 rw [nth_eq] at hv
 simp [execOp,hf.ev hx,Instr.extract,hv]
def evs (l:Env):List Operand→Option (List Value)
 | []=>some []
 | x::xs=>match ev l x with
  | none=>none
  | some v=>match evs l xs with
   | none=>none
   | some vs=>some (v::vs)
theorem Fr.evs {a:Act} (hf:Fr n l a):∀{xs:List Operand} {vs:List Value},Go.Proofs.YtkpiakgmkpbikaaGreatDoor.evs l xs=some vs→xs.map a.eval=vs
 | [],vs,h=>by simpa [Go.Proofs.YtkpiakgmkpbikaaGreatDoor.evs] using h
 | x::xs,vs,h=>by
  simp only [Go.Proofs.YtkpiakgmkpbikaaGreatDoor.evs] at h
  split at h
  · cases h
  · rename_i v hv
    split at h
    · cases h
    · rename_i us hus
      simp only [Option.some.injEq] at h
      rw [←h,List.map_cons,hf.ev hv,hf.evs hus]
def evp (l:Env):List (Nat×Operand)→Option (List (Nat×Value))
 | []=>some []
 | (i,x)::xs=>match ev l x with
  | none=>none
  | some v=>match evp l xs with
   | none=>none
   | some vs=>some ((i,v)::vs)
theorem Fr.evp {a:Act} (hf:Fr n l a):∀{xs:List (Nat×Operand)} {vs:List (Nat×Value)},Go.Proofs.YtkpiakgmkpbikaaGreatDoor.evp l xs=some vs→xs.map (fun (i,x)=>(i,a.eval x))=vs
 | [],vs,h=>by simpa [Go.Proofs.YtkpiakgmkpbikaaGreatDoor.evp] using h
 | (i,x)::xs,vs,h=>by
  simp only [Go.Proofs.YtkpiakgmkpbikaaGreatDoor.evp] at h
  split at h
  · cases h
  · rename_i v hv
    split at h
    · cases h
    · rename_i us hus
      simp only [Option.some.injEq] at h
      rw [←h,List.map_cons,hf.evp hus]
      simp only [hf.ev hv]
theorem Pv.mkF {fn:Fn} {p q:List Operand} {us vs:List Value} (hp:evs l p=some us) (hq:evs l q=some vs):Pv P n l ⟨d,.makeFunc fn p.toArray q.toArray,ty,pos,af,g⟩ (.func fn us.toArray vs.toArray):=fun a w hf=>by
 simp [execOp,Instr.makeFunc,hf.evs hp,hf.evs hq]
theorem Pv.build {t:TypeId} {zs:List Value} {fs:List (Nat×Nat)} {ps:List (Nat×Operand)} {vs:List (Nat×Value)} {c:Array Value} [ht:TyStruct P t zs fs] (hp:evp l ps=some vs) (hc:Instr.fill (fun i=>fs[i]?) zs.toArray vs=some c):Pv P n l ⟨d,.build t ps.toArray,ty,pos,af,g⟩ (.agg c):=fun a w hf=>by
 simp [execOp,hf.evp hp,ht.build,hc]
theorem Pv.lenS {x:Operand} {t:TypeId} {e:TypeId} {p:Option Addr} {m c:Nat} [ht:TyUnder P t (.slice e)] (hx:ev l x=some (.slice p m c)):Pv P n l ⟨d,.call { callee:=.builtin .len,args:=#[x],argTypes:=#[t] },ty,pos,af,g⟩ (.int .i64 m):=fun a w hf=>by
 simp [execOp,resolve,invoke,builtin,Builtin.len_,run_underlying ht.under,hf.ev hx,goInt]
theorem Pv.ixA {t e k b off m c:Nat} {x y:Operand} {i:Int} (j:Nat) [ht:TyUnder P t (.slice e)] [hs:TySize P e k] (hx:ev l x=some (.slice (some ⟨b,off,none⟩) m c)) (hy:ev l y=some (.int .i64 i)) (hij:i=(j:Int)) (hj:j<m) :
 Pv P n l ⟨d,.indexAddr t x y,ty,pos,af,g⟩ (.pointer (some ⟨b,off+j*k,none⟩)):=fun a w hf=>by
 subst hij
 have h2:((⟨b,off,none⟩:Addr).add (j*k))=⟨b,off+j*k,none⟩:=by unfold Addr.add; split<;>simp_all
 simp [execOp,Instr.indexAt,run_underlying ht.under,hf.ev hx,hf.ev hy,asIntOf,hs.size,hj,h2,Int.toNat_natCast]
theorem Pv.sl {t e k m c:Nat} {p:Option Addr} {x:Operand} {lo hi:Option Operand} {lv hv:Option Value} (i j:Nat) [ht:TyUnder P t (.slice e)] [hs:TySize P e k] (hx:ev l x=some (.slice p m c))
 (hlo:match lo with | none=>i=0 | some y=>ev l y=some (.int .i64 (i:Int))) (hhi:match hi with | none=>j=m | some y=>ev l y=some (.int .i64 (j:Int))) (hij:i≤j) (hj:j≤c) (hm:hi=none→m≤c) :
 Pv P n l ⟨d,.slice t x lo hi none,ty,pos,af,g⟩ (.slice (if c=i then p else p.map (·.add (i*k))) (j-i) (c-i)):=fun a w hf=>by
 cases lo with
 | none =>
  simp only at hlo; subst hlo
  cases hi with
  | none=>simp only at hhi; subst hhi; simp [execOp,Instr.sliceAt,Instr.slice,Instr.sliceBounds,run_underlying ht.under,hf.ev hx,hs.size]
  | some y=>simp only at hhi; simp [execOp,Instr.sliceAt,Instr.slice,Instr.sliceBounds,Instr.sliceBound,run_underlying ht.under,hf.ev hx,hf.ev hhi,hs.size,asIntOf,hj]
 | some z =>
  simp only at hlo
  cases hi with
  | none=>simp only at hhi; subst hhi; simp [execOp,Instr.sliceAt,Instr.slice,Instr.sliceBounds,Instr.sliceBound,run_underlying ht.under,hf.ev hx,hf.ev hlo,hs.size,asIntOf,hij]
  | some y=>simp only at hhi; simp [execOp,Instr.sliceAt,Instr.slice,Instr.sliceBounds,Instr.sliceBound,run_underlying ht.under,hf.ev hx,hf.ev hhi,hf.ev hlo,hs.size,asIntOf,hj,hij]
theorem Pv.slTo {t e k m c:Nat} {p:Option Addr} {x y:Operand} (j:Nat) [ht:TyUnder P t (.slice e)] [hs:TySize P e k] (hx:ev l x=some (.slice p m c)) (hy:ev l y=some (.int .i64 (j:Int))) (hj:j≤c) :
 Pv P n l ⟨d,.slice t x none (some y) none,ty,pos,af,g⟩ (.slice p j c):=fun a w hf=>by
 have h:=Pv.sl (P:=P) (d:=d) (ty:=ty) (pos:=pos) (af:=af) (g:=g) (lv:=none) (hv:=none) (lo:=none) (hi:=some y) 0 j (t:=t) hx rfl hy (Nat.zero_le _) hj (fun h=>by cases h) a w hf
 have e:(if c=0 then p else p.map (·.add (0*k)))=p:=by
  split
  · rfl
  · cases p<;>simp [Addr.add]
 rw [h,e]; rfl
theorem Pv.slAt {t e k m c b off:Nat} {x y z:Operand} (i j:Nat) [ht:TyUnder P t (.slice e)] [hs:TySize P e k] (hx:ev l x=some (.slice (some ⟨b,off,none⟩) m c)) (hy:ev l y=some (.int .i64 (i:Int))) (hz:ev l z=some (.int .i64 (j:Int))) (hij:i≤j) (hj:j≤c) :
 Pv P n l ⟨d,.slice t x (some y) (some z) none,ty,pos,af,g⟩ (.slice (some ⟨b,if c=i then off else off+i*k,none⟩) (j-i) (c-i)):=fun a w hf=>by
 have h:=Pv.sl (P:=P) (d:=d) (ty:=ty) (pos:=pos) (af:=af) (g:=g) (lv:=none) (hv:=none) (lo:=some y) (hi:=some z) i j (t:=t) hx hy hz hij hj (fun h=>by cases h) a w hf
 rw [h]
 split<;>simp [addr_add]
theorem Pv.slFrom {t e k m c b off:Nat} {x y:Operand} (i:Nat) [ht:TyUnder P t (.slice e)] [hs:TySize P e k] (hx:ev l x=some (.slice (some ⟨b,off,none⟩) m c)) (hy:ev l y=some (.int .i64 (i:Int))) (hi:i≤m) (hm:m≤c) :
 Pv P n l ⟨d,.slice t x (some y) none none,ty,pos,af,g⟩ (.slice (some ⟨b,if c=i then off else off+i*k,none⟩) (m-i) (c-i)):=fun a w hf=>by
 have h:=Pv.sl (P:=P) (d:=d) (ty:=ty) (pos:=pos) (af:=af) (g:=g) (lv:=none) (hv:=none) (lo:=some y) (hi:=none) i m (t:=t) hx hy rfl hi hm (fun _=>hm) a w hf
 rw [h]
 split<;>simp [addr_add]
theorem Pv.as {o:Oper} {v:Value} (v':Value) (h:Pv P n l o v) (e:v=v'):Pv P n l o v':=e▸h
theorem Pv.asI {o:Oper} {k:IntKind} {z:Int} (j:Nat) (h:Pv P n l o (.int k z)) (e:z=(j:Int)):Pv P n l o (.int k (j:Int)):=e▸h
def grab:List Value→Nat→Nat→Option (List Value)
 | _,_,0=>some []
 | vs,off,k+1=>match nth vs off with
  | none=>none
  | some v=>match grab vs (off+1) k with
   | none=>none
   | some r=>some (v::r)
theorem run_load {w:World} {b off:Nat} {vs:List Value} {e:TypeId} {z:Nat×Nat} {v:Value} (hb:w.heap[b]? = some (.cells vs.toArray e z)) (hv:nth vs off=some v):(load ⟨b,off,none⟩).run P w=.ok v w:=by
 rw [nth_eq] at hv
 have:w.cell? ⟨b,off,none⟩=some v:=by simp [World.cell?,hb,hv]
 simp [load,Sem.run,this]
theorem run_loadCells {w:World} {b off:Nat} {vs:List Value} {e:TypeId} {z:Nat×Nat} (hb:w.heap[b]? = some (.cells vs.toArray e z)):∀(k i:Nat) (us:List Value) (acc:Array Value),grab vs (off+i) k=some us →
 (loadCellsFrom ⟨b,off,none⟩ i k acc).run P w=.ok (acc++us.toArray) w
 | 0,i,us,acc,h=>by
  simp only [grab,Option.some.injEq] at h
  subst h
  simp [loadCellsFrom]
 | k+1,i,us,acc,h=>by
  simp only [grab] at h
  split at h
  · cases h
  · rename_i v hv
    split at h
    · cases h
    · rename_i r hr
      simp only [Option.some.injEq] at h
      subst h
      have h1:=run_load (P:=P) hb hv
      have h2:=run_loadCells hb k (i+1) r (acc.push v) (by rw [←Nat.add_assoc]; exact hr)
      simp only [loadCellsFrom,addr_add,Sem.run_bind,h1,Result.andThen_ok,h2]
      simp
theorem run_loadVar1 {w:World} {b off:Nat} {vs:List Value} {e t:TypeId} {z:Nat×Nat} {v:Value} [ht:TyOne P t] (hb:w.heap[b]? = some (.cells vs.toArray e z)) (hv:nth vs off=some v):(loadVar t ⟨b,off,none⟩).run P w=.ok v w:=by
 simp only [loadVar,Sem.run_bind,ht.agg,Result.andThen_ok,Bool.false_eq_true,if_false]
 exact run_load hb hv
theorem run_loadVarA {w:World} {b off k:Nat} {vs us:List Value} {e t:TypeId} {z:Nat×Nat} [ht:TyAgg P t k] (hb:w.heap[b]? = some (.cells vs.toArray e z)) (hv:grab vs off k=some us):(loadVar t ⟨b,off,none⟩).run P w=.ok (.agg us.toArray) w:=by
 simp only [loadVar,Sem.run_bind,ht.agg,ht.size,Result.andThen_ok,if_true,loadCells]
 have:=run_loadCells (P:=P) (off:=off) hb k 0 us #[] (by simpa using hv)
 rw [this]
 simp
theorem Ev.ld {t b off:Nat} {e:TypeId} {vs:List Value} {v:Value} {x:Operand} [ht:TyOne P t] (hx:ev l x=some (.pointer (some ⟨b,off,none⟩))) [hb:Has F hl b (cellsO vs e)] (hv:nth vs off=some v):Ev P n F l hl ⟨d,.load t x,ty,pos,af,g⟩ v:=fun a w hf hs=>by
 have h1:=run_loadVar1 (P:=P) (t:=t) (hb.st hs) hv
 simp [execOp,hf.ev hx,Instr.loadAt,Instr.sureAddr,h1]
theorem Ev.ldA {t b off k:Nat} {e:TypeId} {vs us:List Value} {x:Operand} [ht:TyAgg P t k] (hx:ev l x=some (.pointer (some ⟨b,off,none⟩))) [hb:Has F hl b (cellsO vs e)] (hv:grab vs off k=some us):Ev P n F l hl ⟨d,.load t x,ty,pos,af,g⟩ (.agg us.toArray):=fun a w hf hs=>by
 have h1:=run_loadVarA (P:=P) (t:=t) (hb.st hs) hv
 simp [execOp,hf.ev hx,Instr.loadAt,Instr.sureAddr,h1]
theorem ResV.cell1 {t b off:Nat} {ty e:TypeId} {vs:List Value} {v:Value} [ht:TyOne P ty] (h:lk l t=some (.pointer (some ⟨b,off,none⟩))) [hb:Has F hl b (cellsO vs e)] (hv:nth vs off=some v):ResV P F l hl (.cell t ty) v:=.cell h fun w hs=>run_loadVar1 (hb.st hs) hv
theorem ResV.cellA {t b off k:Nat} {ty e:TypeId} {vs us:List Value} [ht:TyAgg P ty k] (h:lk l t=some (.pointer (some ⟨b,off,none⟩))) [hb:Has F hl b (cellsO vs e)] (hv:grab vs off k=some us):ResV P F l hl (.cell t ty) (.agg us.toArray):=.cell h fun w hs=>run_loadVarA (hb.st hs) hv
theorem Ev.as {o:Oper} {v:Value} (v':Value) (h:Ev P n F l hl o v) (e:v=v'):Ev P n F l hl o v':=e▸h
structure Enc (α:Type) where
 k:Nat
 tid:TypeId
 cells:α→List Value
 val:α→Value
 pos:0<k
 len:∀x,(cells x).length=k
 one:∀x,∀v∈cells x,v.oneCell'=true
 vc:∀x,(val x).cells.toList=cells x
def flat {α:Type} (E:Enc α) (ys:List α):List Value:=ys.flatMap E.cells
def rowS {α:Type} (E:Enc α) (ys:List α) (sp:List Value):Obj:=.cells (flat E ys++sp).toArray E.tid (0,0)
theorem flat_length {α:Type} (E:Enc α):∀ys:List α,(flat E ys).length=ys.length*E.k
 | []=>by simp [flat]
 | y::ys=>by
  have:=flat_length E ys
  simp only [flat,List.flatMap_cons,List.length_append,E.len,List.length_cons,Nat.add_mul,Nat.one_mul] at this ⊢
  omega
theorem flat_get {α:Type} (E:Enc α):∀(ys:List α) (j i:Nat) (y:α),ys[j]? = some y→i<E.k→(flat E ys)[j*E.k+i]? = (E.cells y)[i]?
 | [],j,i,y,h,_=>by simp at h
 | x::ys,0,i,y,h,hi=>by
  simp only [List.getElem?_cons_zero,Option.some.injEq] at h
  subst h
  simp only [flat,List.flatMap_cons,Nat.zero_mul,Nat.zero_add]
  rw [List.getElem?_append_left (by rw [E.len]; exact hi)]
 | x::ys,j+1,i,y,h,hi=>by
  have:=flat_get E ys j i y (by simpa using h) hi
  simp only [flat,List.flatMap_cons] at this ⊢
  rw [List.getElem?_append_right (by rw [E.len,Nat.add_mul]; omega),E.len,←this]
  congr 1
  rw [Nat.add_mul]; omega
theorem grab_eq:∀(k:Nat) (vs:List Value) (off:Nat) (us:List Value),us.length=k→(∀i,i<k→vs[off+i]? = us[i]?)→grab vs off k=some us
 | 0,vs,off,us,hl,h=>by
  rw [List.eq_nil_of_length_eq_zero hl]; rfl
 | k+1,vs,off,[],hl,h=>by cases hl
 | k+1,vs,off,u::us,hl,h=>by
  have h0:=h 0 (by omega)
  simp only [Nat.add_zero,List.getElem?_cons_zero] at h0
  simp only [grab]
  rw [nth_eq,h0]
  have:=grab_eq k vs (off+1) us (by simpa using hl) (fun i hi=>by
   have:=h (i+1) (by omega)
   rw [show off+1+i=off+(i+1) by omega]
   simpa using this)
  rw [this]
theorem flat_lt {α:Type} (E:Enc α) (ys:List α) {j i:Nat} (hj:j<ys.length) (hi:i<E.k):j*E.k+i<(flat E ys).length:=by
 have:=Nat.mul_le_mul_right E.k (show j+1≤ys.length from hj)
 rw [flat_length]
 rw [Nat.add_mul] at this
 omega
theorem grab_row {α:Type} [Inhabited α] (E:Enc α) (ys:List α) (sp:List Value) (j:Nat) (hj:j<ys.length):grab (flat E ys++sp) (j*E.k) E.k=some (E.cells ys[j]!) :=
 grab_eq _ _ _ _ (E.len _) fun i hi=>by
  rw [List.getElem?_append_left (flat_lt E ys hj hi)]
  exact flat_get E ys j i _ (by rw [getElem!_pos ys j hj]; exact List.getElem?_eq_getElem hj) hi
theorem rowS_take {α:Type} (E:Enc α) (ys:List α) (sp:List Value) (n:Nat):rowS E ys sp=rowS E (ys.take n) (flat E (ys.drop n)++sp):=by
 unfold rowS
 have:flat E ys=flat E (ys.take n)++flat E (ys.drop n):=by
  conv=>lhs; rw [←List.take_append_drop n ys]
  simp only [flat,List.flatMap_append]
 rw [this,List.append_assoc]
class RowTy (P:Program) {α:Type} (E:Enc α) (t:outParam TypeId):Prop where
 size:∀w,(sizeOf t).run P w=.ok E.k w
 load:(∀w,(isAgg t).run P w=.ok true w)∧(∀x,E.val x=.agg (E.cells x).toArray)∨(∀w,(isAgg t).run P w=.ok false w)∧E.k=1∧(∀x,E.cells x=[E.val x])
theorem run_loadRow {α:Type} [Inhabited α] {E:Enc α} {t b j:Nat} {ys:List α} {sp:List Value} {w:World} (ht:RowTy P E t) (hb:w.heap[b]? = some (rowS E ys sp)) (hj:j<ys.length):(loadVar t ⟨b,j*E.k,none⟩).run P w=.ok (E.val ys[j]!) w:=by
 have hg:=grab_row E ys sp j hj
 rcases ht.load with ⟨h1,h2⟩ | ⟨h1,hk,h2⟩
 · rw [h2]
   exact @run_loadVarA P w b _ _ _ _ _ t _ ⟨h1,ht.size⟩ hb hg
 · refine @run_loadVar1 P w b _ _ _ t _ _ ⟨h1,by rw [←hk]; exact ht.size⟩ hb ?_
   rw [hk,h2] at hg
   rw [hk]
   simp only [grab] at hg
   split at hg
   · cases hg
   · rename_i v hv
     simp only [Option.some.injEq,List.cons.injEq,and_true] at hg
     rw [hv,hg]
theorem Ev.ldR {α:Type} [Inhabited α] {E:Enc α} {t b off:Nat} {ys:List α} {sp:List Value} {x:Operand} (j:Nat) (hx:ev l x=some (.pointer (some ⟨b,off,none⟩))) [hb:Has F hl b (rowS E ys sp)] [ht:RowTy P E t] (ho:off=j*E.k) (hj:j<ys.length) :
 Ev P n F l hl ⟨d,.load t x,ty,pos,af,g⟩ (E.val ys[j]!):=fun a w hf hs=>by
 subst ho
 have h1:=run_loadRow ht (hb.st hs) hj
 simp [execOp,hf.ev hx,Instr.loadAt,Instr.sureAddr,h1]
class TyEqE (P:Program) (t:TypeId) {α:Type} (E:Enc α) [DecidableEq α]:Prop where
 agg:∀x,∃c,E.val x=.agg c
 guard:P.eqGuardType P.depth t=false
 eq:∀x y w,(Op.equal t (E.val x) (E.val y)).run P w=.ok (decide (x=y)) w
theorem Pv.eqlE {α:Type} [DecidableEq α] (E:Enc α) {t t':TypeId} {x y:Operand} (p q:α) [h:TyEqE P t E] (hx:ev l x=some (E.val p)) (hy:ev l y=some (E.val q)):Pv P n l ⟨d,.binOp .eql t x y t',ty,pos,af,g⟩ (.bool (decide (p=q))):=fun a w hf=>by
 obtain ⟨c,hc⟩:=h.agg p
 obtain ⟨e,he⟩:=h.agg q
 have:=h.eq p q w
 rw [hc,he] at this
 simp [execOp,hf.ev hx,hf.ev hy,hc,he,eqGuard,h.guard,binOp,this]
theorem Pv.neqE {α:Type} [DecidableEq α] (E:Enc α) {t t':TypeId} {x y:Operand} (p q:α) [h:TyEqE P t E] (hx:ev l x=some (E.val p)) (hy:ev l y=some (E.val q)):Pv P n l ⟨d,.binOp .neq t x y t',ty,pos,af,g⟩ (.bool (!decide (p=q))):=fun a w hf=>by
 obtain ⟨c,hc⟩:=h.agg p
 obtain ⟨e,he⟩:=h.agg q
 have:=h.eq p q w
 rw [hc,he] at this
 simp [execOp,hf.ev hx,hf.ev hy,hc,he,eqGuard,h.guard,binOp,this]
theorem run_equal_bool {t:TypeId} {p q:Bool} {w:World} (h:P.underlying t=some .bool):(Op.equal t (.bool p) (.bool q)).run P w=.ok (p==q) w:=by
 have key:∀n,(Op.equalIn (n+1) t (.bool p) (.bool q)).run P w=.ok (p==q) w:=fun n=>by
  simp only [Op.equalIn,Sem.run_bind,run_underlying h,Result.andThen_ok,Sem.run_pure]
 exact key 9999
theorem Pv.eqlB {t t':TypeId} {x y:Operand} {p q:Bool} [h:TyUnder P t .bool] (hx:ev l x=some (.bool p)) (hy:ev l y=some (.bool q)):Pv P n l ⟨d,.binOp .eql t x y t',ty,pos,af,g⟩ (.bool (p==q)):=fun a w hf=>by
 have:=run_equal_bool (P:=P) (t:=t) (p:=p) (q:=q) (w:=w) h.under
 simp [execOp,hf.ev hx,hf.ev hy,eqGuard,binOp,this]
end
class Pull1 (hl:Hl) (b:Nat) (o:outParam Obj) (rest:outParam Hl):Prop where
 perm:hl.Perm ((b,o)::rest)
instance Pull1.head {hl:Hl} {b:Nat} {o:Obj}:Pull1 ((b,o)::hl) b o hl:=⟨.refl _⟩
instance (priority:=low) Pull1.tail {hl:Hl} {b:Nat} {o:Obj} {x:Nat×Obj} {rest:Hl} [h:Pull1 hl b o rest]:Pull1 (x::hl) b o (x::rest):=⟨(h.perm.cons x).trans (List.Perm.swap _ _ _)⟩
instance (priority:=low) Pull1.app {seg hl:Hl} {b:Nat} {o:Obj} {rest:Hl} [h:Pull1 hl b o rest]:Pull1 (seg++hl) b o (seg++rest):=⟨(h.perm.append_left seg).trans List.perm_middle⟩
class PullS (hl:Hl) (seg:Hl) (rest:outParam Hl):Prop where
 perm:hl.Perm (seg++rest)
instance PullS.head {hl seg:Hl}:PullS (seg++hl) seg hl:=⟨.refl _⟩
instance (priority:=low) PullS.tail {hl seg:Hl} {x:Nat×Obj} {rest:Hl} [h:PullS hl seg rest]:PullS (x::hl) seg (x::rest):=⟨(h.perm.cons x).trans List.perm_middle.symm⟩
instance (priority:=low) PullS.app {hl seg sg:Hl} {rest:Hl} [h:PullS hl seg rest]:PullS (sg++hl) seg (sg++rest) :=
 ⟨(h.perm.append_left sg).trans (by rw [←List.append_assoc,←List.append_assoc]; exact List.perm_append_comm.append_right rest)⟩
instance (priority:=low) PullS.last {seg:Hl}:PullS seg seg []:=⟨by simp⟩
class PullL (hl:Hl) (pre:Hl) (rest:outParam Hl):Prop where
 perm:hl.Perm (pre++rest)
instance PullL.nil {hl:Hl}:PullL hl [] hl:=⟨.refl _⟩
instance PullL.cons {hl h1 pre rest:Hl} {b:Nat} {o:Obj} [p:Pull1 hl b o h1] [q:PullL h1 pre rest]:PullL hl ((b,o)::pre) rest:=⟨p.perm.trans (q.perm.cons _)⟩
instance PullL.app {hl h1 seg pre rest:Hl} [p:PullS hl seg h1] [q:PullL h1 pre rest]:PullL hl (seg++pre) rest:=⟨p.perm.trans (by rw [List.append_assoc]; exact q.perm.append_left seg)⟩
instance (priority:=low) PullL.seg {hl seg rest:Hl} [p:PullS hl seg rest]:PullL hl seg rest:=⟨p.perm⟩
theorem pulled {hl pre rest:Hl} [h:PullL hl pre rest]:hl.Perm (pre++rest):=h.perm
instance (priority:=low) Has.app {F:Fm} {seg hl:Hl} {b:Nat} {o:Obj} [h:Has F hl b o]:Has F (seg++hl) b o:=⟨h.at_.imp (List.mem_append_right _) id⟩
instance (priority:=low) Lens.app {seg hl:Hl} {b:Nat} {o:Obj} {put:Obj→Hl} [h:Lens hl b o put]:Lens (seg++hl) b o (fun o'=>seg++put o'):=by
 obtain ⟨A,B,e,hp⟩:=h.ex
 exact ⟨seg++A,B,by rw [e]; simp,fun o'=>by rw [hp]; simp⟩
instance (priority:=low) Pull1.ca {x:Nat×Obj} {s hl:Hl} {b:Nat} {o:Obj} {rest:Hl} [h:Pull1 (x::(s++hl)) b o rest]:Pull1 ((x::s)++hl) b o rest:=h
instance (priority:=low) Pull1.na {hl:Hl} {b:Nat} {o:Obj} {rest:Hl} [h:Pull1 hl b o rest]:Pull1 ([]++hl) b o rest:=h
instance (priority:=low) PullS.ca {x:Nat×Obj} {s hl seg rest:Hl} [h:PullS (x::(s++hl)) seg rest]:PullS ((x::s)++hl) seg rest:=h
instance (priority:=low) PullS.na {hl seg rest:Hl} [h:PullS hl seg rest]:PullS ([]++hl) seg rest:=h
instance (priority:=low) Has.ca {F:Fm} {x:Nat×Obj} {s hl:Hl} {b:Nat} {o:Obj} [h:Has F (x::(s++hl)) b o]:Has F ((x::s)++hl) b o:=h
instance (priority:=low) Has.na {F:Fm} {hl:Hl} {b:Nat} {o:Obj} [h:Has F hl b o]:Has F ([]++hl) b o:=h
instance (priority:=low) Lens.ca {x:Nat×Obj} {s hl:Hl} {b:Nat} {o:Obj} {put:Obj→Hl} [h:Lens (x::(s++hl)) b o put]:Lens ((x::s)++hl) b o put:=h
instance (priority:=low) Lens.na {hl:Hl} {b:Nat} {o:Obj} {put:Obj→Hl} [h:Lens hl b o put]:Lens ([]++hl) b o put:=h
instance PullL.consapp {hl h1 s pre rest:Hl} {b:Nat} {o:Obj} [p:Pull1 hl b o h1] [q:PullL h1 (s++pre) rest]:PullL hl (((b,o)::s)++pre) rest:=⟨p.perm.trans (q.perm.cons _)⟩
instance PullL.nilapp {hl pre rest:Hl} [q:PullL hl pre rest]:PullL hl ([]++pre) rest:=q
class Sb (seg hl:Hl):Prop where
 sub:∀x∈seg,x∈hl
instance Sb.refl {seg:Hl}:Sb seg seg:=⟨fun _ h=>h⟩
instance Sb.head {seg hl:Hl}:Sb seg (seg++hl):=⟨fun _ h=>List.mem_append_left _ h⟩
instance (priority:=low) Sb.tail {seg hl:Hl} {x:Nat×Obj} [h:Sb seg hl]:Sb seg (x::hl):=⟨fun y hy=>List.mem_cons_of_mem _ (h.sub y hy)⟩
instance (priority:=low) Sb.app {seg s hl:Hl} [h:Sb seg hl]:Sb seg (s++hl):=⟨fun y hy=>List.mem_append_right _ (h.sub y hy)⟩
instance Sb.nil {hl:Hl}:Sb [] hl:=⟨fun _ h=>by cases h⟩
instance (priority:=low) Sb.cons {hl seg:Hl} {b:Nat} {o:Obj} {rest:Hl} [h:Pull1 hl b o rest] [q:Sb seg hl]:Sb ((b,o)::seg) hl:=⟨fun x hx=>by
 rcases List.mem_cons.1 hx with rfl | hx
 · exact h.perm.mem_iff.2 List.mem_cons_self
 · exact q.sub x hx⟩
theorem frz_sb {F:Fm} {s hl:Hl} [h:Sb s hl]:∀b o,(b,o)∈s→(frz F hl).at_ b o:=fun _ _ hb=>Or.inl (h.sub _ hb)
def appN:Hl→Hl→Option Hl
 | [],r=>some r
 | x::xs,r=>match appN xs r with
  | none=>none
  | some q=>some (x::q)
theorem appN_eq:∀(xs r:Hl) {q:Hl},appN xs r=some q→xs++r=q
 | [],r,q,h=>by simpa [appN] using h
 | x::xs,r,q,h=>by
  simp only [appN] at h
  split at h
  · cases h
  · rename_i q' hq
    simp only [Option.some.injEq] at h
    rw [List.cons_append,appN_eq xs r hq,h]
def cl:Value→Option (List Value)
 | .agg ⟨us⟩=>some us
 | .tuple _=>none
 | v=>some [v]
theorem cl_spec {v:Value} {vs:List Value} (h:cl v=some vs):v.cells=vs.toArray∧((∃us,v=.agg us)∨v.oneCell'=true):=by
 cases v<;>simp only [cl,Option.some.injEq] at h<;>first | (subst h; exact ⟨rfl,.inr rfl⟩) | (subst h; exact ⟨rfl,.inl ⟨_,rfl⟩⟩) | cases h
theorem cells_one {v:Value} (h:v.oneCell'=true):v.cells=[v].toArray:=by
 cases v<;>first | rfl | (simp [Value.oneCell'] at h; done)
def setL:List Value→Nat→Value→Option (List Value)
 | [],_,_=>none
 | _::r,0,v=>some (v::r)
 | x::r,i+1,v=>match setL r i v with
  | none=>none
  | some q=>some (x::q)
def setsL:List Value→Nat→List Value→Option (List Value)
 | vs,_,[]=>some vs
 | vs,off,u::us=>match setL vs off u with
  | none=>none
  | some q=>setsL q (off+1) us
theorem setL_spec:∀(vs:List Value) (off:Nat) (v:Value) {q:List Value},setL vs off v=some q→q=vs.set off v∧off<vs.length
 | [],_,_,_,h=>by cases h
 | x::r,0,v,q,h=>by simp only [setL,Option.some.injEq] at h; subst h; simp
 | x::r,i+1,v,q,h=>by
  simp only [setL] at h
  split at h
  · cases h
  · rename_i q' hq
    simp only [Option.some.injEq] at h
    obtain ⟨h1,h2⟩:=setL_spec r i v hq
    subst h; subst h1
    simpa using h2
theorem setL_mk {vs:List Value} {off:Nat} (v:Value) (h:off<vs.length):setL vs off v=some (vs.set off v):=by
 induction vs generalizing off with
 | nil=>simp at h
 | cons x r ih =>
  cases off with
  | zero=>rfl
  | succ i=>simp only [setL,ih (by simpa using h),List.set_cons_succ]
section
variable {P : Program} {n : Nf} {F : Fm} {l : Env} {hl : Hl} {ty : TypeId} {pos : String} {af : Array Edge} {g : Option (Nat × Bool)}
def putB (w:World) (b:Nat) (o:Obj):World:={ w with heap:=w.heap.setIfInBounds b o }
theorem putB_at {w:World} {b:Nat} {o o':Obj} (h:w.heap[b]? = some o):(putB w b o').heap[b]? = some o':=by
 have:=(Array.getElem?_eq_some_iff.1 h).1
 simp [putB,this]
theorem putB_ne {w:World} {b c:Nat} {o':Obj} (h:c≠b):(putB w b o').heap[c]? = w.heap[c]? := by
 simp [putB,Array.getElem?_setIfInBounds_ne (Ne.symm h)]
theorem Lens.putB {put:Obj→Hl} {b:Nat} {o:Obj} (h:Lens hl b o put) {w:World} (hs:Hp F hl w) (o':Obj):Hp F (put o') (putB w b o') :=
 h.set hs o' (putB_at (hs.own b o h.mem)) (fun _ hc=>putB_ne hc) rfl rfl rfl (Nat.le_refl _)
theorem run_store {w:World} {b off:Nat} {vs q:List Value} {e:TypeId} {v:Value} (hb:w.heap[b]? = some (cellsO vs e)) (hq:setL vs off v=some q) (h1:v.oneCell'=true) :
 (store ⟨b,off,none⟩ v).run P w=.ok () (putB w b (cellsO q e)):=by
 obtain ⟨rfl,hlt⟩:=setL_spec _ _ _ hq
 have hc:w.cell? ⟨b,off,none⟩=some vs[off]:=by simp [World.cell?,hb,hlt]
 have hz:w.frozen? ⟨b,off,none⟩=false:=by
  unfold World.frozen?
  rw [hb]
  simp
 have hw:w.setCell ⟨b,off,none⟩ v=putB w b (cellsO (vs.set off v) e):=by
  unfold World.setCell Go.Proofs.YtkpiakgmkpbikaaGreatDoor.putB
  congr 1
  apply Array.ext_getElem?
  intro k
  rw [Array.getElem?_modify,Array.getElem?_setIfInBounds]
  by_cases hk:b=k
  · subst hk
    have:=(Array.getElem?_eq_some_iff.1 hb).1
    rw [hb]
    simp [this]
  · simp [hk]
 rw [←hw]
 cases v<;>first | (simp [Value.oneCell'] at h1; done) | simp [store,Sem.run,hc,hz]
theorem putB_putB (w:World) (b:Nat) (o o':Obj):putB (putB w b o) b o'=putB w b o':=by
 unfold putB
 congr 1
 apply Array.ext_getElem?
 intro k
 simp only [Array.getElem?_setIfInBounds,Array.size_setIfInBounds]
 by_cases hk:b=k<;>simp [hk]
theorem putB_same {w:World} {b:Nat} {o:Obj} (h:w.heap[b]? = some o):putB w b o=w:=by
 unfold putB
 have:w.heap.setIfInBounds b o=w.heap:=by
  apply Array.ext_getElem?
  intro k
  simp only [Array.getElem?_setIfInBounds]
  by_cases hk:b=k
  · subst hk
    have:=(Array.getElem?_eq_some_iff.1 h).1
    rw [h]
    simp [this]
  · simp [hk]
 rw [this]
theorem run_storeCells {e:TypeId} {b:Nat}:∀(us:List Value) (i off:Nat) (vs q:List Value) (w:World),w.heap[b]? = some (cellsO vs e)→setsL vs (off+i) us=some q→(∀u∈us,u.oneCell'=true) →
 (storeCells ⟨b,off,none⟩ us i).run P w=.ok () (putB w b (cellsO q e))
 | [],i,off,vs,q,w,hb,hq,_=>by
  simp only [setsL,Option.some.injEq] at hq
  subst hq
  rw [putB_same hb]
  simp [storeCells]
 | u::us,i,off,vs,q,w,hb,hq,h1=>by
  simp only [setsL] at hq
  split at hq
  · cases hq
  · rename_i q1 hq1
    have h2:=run_store (P:=P) hb hq1 (h1 u (by simp))
    have h3:=run_storeCells us (i+1) off q1 q (putB w b (cellsO q1 e)) (putB_at hb) (by rw [←Nat.add_assoc]; exact hq) (fun v hv=>h1 v (by simp [hv]))
    rw [putB_putB] at h3
    simp only [storeCells,addr_add,Sem.run_bind,h2,Result.andThen_ok,h3]
theorem run_storeAt {t b off k:Nat} {e:TypeId} {vs us q:List Value} {v:Value} {w:World} (hz:∀w,(sizeOf t).run P w=.ok k w) (hc:v.cells=us.toArray) (hk:us.length=k) (h1:∀u∈us,u.oneCell'=true)
 (hb:w.heap[b]? = some (cellsO vs e)) (hq:setsL vs off us=some q):(Instr.storeAt t (.pointer (some ⟨b,off,none⟩)) v).run P w=.ok () (putB w b (cellsO q e)):=by
 have hs:=run_storeCells (P:=P) us 0 off vs q w hb (by simpa using hq) h1
 simp [Instr.storeAt,Instr.sureAddr,storeVar,hz,hc,hk,hs]
variable {Qf : Exit → Act → World → Prop} {ks : List KItem} {ops : List Oper} {clr : List Nat} {hs : Hl} {r : Sd} {i : Nat}
theorem Rg.app {A B C:Hl} (e:appN A B=some C) (h:Rg P Qf n F ks ops clr C r l C):Rg P Qf n F ks ops clr (A++B) r l (A++B):=by rw [appN_eq _ _ e]; exact h
theorem Rg.split {t:Nat} {b:Bool} (hb:lk l t=some (.bool b)) (h1:b=true→Rg P Qf n F ks ops clr hs r ((t,.bool true)::l) hl) (h2:b=false→Rg P Qf n F ks ops clr hs r ((t,.bool false)::l) hl):Rg P Qf n F ks ops clr hs r l hl:=fun a w hf hh=>by
 have key:∀b',lk l t=some (.bool b')→Fr n ((t,.bool b')::l) a:=fun b' h=>⟨hf.dfr,hf.size,fun s u hs=>by
  simp only [lk] at hs
  by_cases e:t=s
  · subst e
    simp only [Nat.beq_refl,cond_true,Option.some.injEq] at hs
    subst hs
    exact hf.has _ _ h
  · rw [beq_ne e] at hs
    exact hf.has s u hs⟩
 cases b with
 | true=>exact h1 rfl a w (key _ hb) hh
 | false=>exact h2 rfl a w (key _ hb) hh
theorem arange0:Array.range 0=(#[]:Array Nat):=by apply Array.ext'; simp
theorem run_new {w:World} {o:Obj}:(newObj o).run P w=.ok w.heap.size { w with heap:=w.heap.push o }:=rfl
theorem Rg.box {t elem:Nat} {x:Operand} {v:Value} {vs:List Value} (ho:nth ops i=some ⟨some t,.box elem x,ty,pos,af,g⟩) (hg:wantB ops l g=some true) (ht:Nat.blt t n.n=true) (hx:ev l x=some v) (hc:cl v=some vs)
 (h:∀b,Rg P Qf n F ks ops clr ((b,cellsO vs elem)::hl) r ((t,.pointer (some ⟨b,0,none⟩))::l) ((b,cellsO vs elem)::hl)):Rg P Qf n F ks ops clr hl (.st i .eff r) l hl :=
 Rg.run ho hg fun a w hf hh=>⟨{ w with heap:=w.heap.push (cellsO vs elem) },(t,.pointer (some ⟨w.heap.size,0,none⟩))::l,(w.heap.size,cellsO vs elem)::hl,_,
  .inl ⟨_,by simp [execOp,Instr.box,newVar,newRow,hf.ev hx,(cl_spec hc).1],hf.put ht _⟩,hh.alloc _,(hh.alloc _).st,.one,h _⟩
theorem Rg.alloc {t elem:Nat} {z:Value} {vs:List Value} [hz:TyZero P elem z] (ho:nth ops i=some ⟨some t,.alloc elem,ty,pos,af,g⟩) (hg:wantB ops l g=some true) (ht:Nat.blt t n.n=true) (hc:cl z=some vs)
 (h:∀b,Rg P Qf n F ks ops clr ((b,cellsO vs elem)::hl) r ((t,.pointer (some ⟨b,0,none⟩))::l) ((b,cellsO vs elem)::hl)):Rg P Qf n F ks ops clr hl (.st i .eff r) l hl :=
 Rg.run ho hg fun a w hf hh=>⟨{ w with heap:=w.heap.push (cellsO vs elem) },(t,.pointer (some ⟨w.heap.size,0,none⟩))::l,(w.heap.size,cellsO vs elem)::hl,_,
  .inl ⟨_,by simp [execOp,Instr.alloc,newVar,newRow,hz.zero,(cl_spec hc).1],hf.put ht _⟩,hh.alloc _,(hh.alloc _).st,.one,h _⟩
theorem Rg.store {t b off:Nat} {e:TypeId} {x y:Operand} {d:Option Tmp} {v:Value} {vs q:List Value} {put:Obj→Hl} [hs0:TyOne P t] (ho:nth ops i=some ⟨d,.store t x y,ty,pos,af,g⟩) (hg:wantB ops l g=some true) (hd:d=none)
 (hx:ev l x=some (.pointer (some ⟨b,off,none⟩))) (hy:ev l y=some v) [hb:Lens hl b (cellsO vs e) put] (hc:v.oneCell'=true) (hq:setL vs off v=some q) (hclr:clr.contains i=true)
 (h:Rg P Qf n F ks ops clr (put (cellsO q e)) r l (put (cellsO q e))):Rg P Qf n F ks ops clr hs (.st i .eff r) l hl :=
 Rg.run ho hg fun a w hf hh=>by
  subst hd
  have hrun:=run_storeAt (P:=P) (t:=t) (us:=[v]) (off:=off) hs0.size (cells_one hc) rfl (by simpa using hc) (hh.own b _ hb.mem) (q:=q) (by simp [setsL,hq])
  exact ⟨_,l,_,_,.inr ⟨by simp [execOp,hf.ev hx,hf.ev hy,hrun],hf⟩,hb.putB hh _,(hb.putB hh _).st,.inl hclr,h⟩
theorem Rg.storeA {t b off k:Nat} {e:TypeId} {x y:Operand} {d:Option Tmp} {us vs q:List Value} {put:Obj→Hl} [hs0:TyAgg P t k] (ho:nth ops i=some ⟨d,.store t x y,ty,pos,af,g⟩) (hg:wantB ops l g=some true) (hd:d=none)
 (hx:ev l x=some (.pointer (some ⟨b,off,none⟩))) (hy:ev l y=some (.agg us.toArray)) [hb:Lens hl b (cellsO vs e) put] (hk:(us.length==k&&us.all (·.oneCell'))=true) (hq:setsL vs off us=some q) (hclr:clr.contains i=true)
 (h:Rg P Qf n F ks ops clr (put (cellsO q e)) r l (put (cellsO q e))):Rg P Qf n F ks ops clr hs (.st i .eff r) l hl :=
 Rg.run ho hg fun a w hf hh=>by
  subst hd
  simp only [Bool.and_eq_true,beq_iff_eq,List.all_eq_true] at hk
  have hrun:=run_storeAt (P:=P) (t:=t) (v:=.agg us.toArray) hs0.size rfl hk.1 hk.2 (hh.own b _ hb.mem) hq
  exact ⟨_,l,_,_,.inr ⟨by simp [execOp,hf.ev hx,hf.ev hy,hrun],hf⟩,hb.putB hh _,(hb.putB hh _).st,.inl hclr,h⟩
class TyCall (P:Program) (f:FuncId):Prop where
 call:∀args w,(callFunc f args).run P w=.ok (.enter f args) w
class TyMeth (P:Program) (t:TypeId) (name:String) (f:outParam FuncId):Prop where
 meth:∀v w,(method (P.types.size+Made.depth) t v name).run P w=.ok (f,v) w
theorem run_callF {f:Nat} {xs:List Operand} {vs:List Value} {ats:Array TypeId} {d:Option Tmp} [hf:TyCall P f] (hv:evs l xs=some vs) (a:Act) (w:World) (h:Fr n l a) :
 (execOp a.eval ⟨d,.call { callee:=.value (.func f),args:=xs.toArray,argTypes:=ats },ty,pos,af,g⟩).run P w=.ok (.enter f vs.toArray) w:=by
 simp [execOp,resolve,Deferred.ofValue,Act.eval,invoke,hf.call,h.evs hv]
theorem run_callV {f:Nat} {x:Operand} {xs:List Operand} {vs us cs:List Value} {ats:Array TypeId} {d:Option Tmp} [hf:TyCall P f] (hx:ev l x=some (.func (.func f) us.toArray cs.toArray)) (hv:evs l xs=some vs) (a:Act) (w:World) (h:Fr n l a) :
 (execOp a.eval ⟨d,.call { callee:=.value x,args:=xs.toArray,argTypes:=ats },ty,pos,af,g⟩).run P w=.ok (.enter f (us++vs++cs).toArray) w:=by
 simp [execOp,resolve,Deferred.ofValue,h.ev hx,invoke,hf.call,h.evs hv]
theorem run_callI {f T:Nat} {x:Operand} {xs:List Operand} {v:Value} {vs:List Value} {ats:Array TypeId} {d:Option Tmp} {name:String} (hx:ev l x=some (.iface T v)) [hm:TyMeth P T name f] [hf:TyCall P f] (hv:evs l xs=some vs) (a:Act) (w:World) (h:Fr n l a) :
 (execOp a.eval ⟨d,.call { callee:=.invoke x name,args:=xs.toArray,argTypes:=ats },ty,pos,af,g⟩).run P w=.ok (.enter f (v::vs).toArray) w:=by
 have e:(xs.toArray.map a.eval)=vs.toArray:=by simp [h.evs hv]
 simp [execOp,resolve,h.ev hx,invoke,callMethod,hm.meth,hf.call,h.evs hv]
def Callz (P:Program) (n:Nf) (l:Env) (o:Oper) (f:FuncId) (args:Array Value):Prop:=∀a w,Fr n l a→(execOp a.eval o).run P w=.ok (.enter f args) w
theorem Rg.callP {t f:Nat} {o:Op} {args:Array Value} {post:Value→Prop} (ho:nth ops i=some ⟨some t,o,ty,pos,af,g⟩) (hg:wantB ops l g=some true) (ht:Nat.blt t n.n=true) (hc:Callz P n l ⟨some t,o,ty,pos,af,g⟩ f args)
 (hspec:Spec P f args (frz F hl) [] fun v _=>post v) (h:∀v,post v→Rg P Qf n F ks ops clr hl r ((t,v)::l) hl):Rg P Qf n F ks ops clr hl (.st i .eff r) l hl:=fun a w hf hh=>by
 show wpOpX _ _ _ _ _ _ _ _
 unfold wpOpX wpOpIn
 rw [nth_eq] at ho
 have ho':ops.toArray[i]? = some ⟨some t,o,ty,pos,af,g⟩:=by simpa using ho
 simp only [ho',wantB_spec (o:=⟨some t,o,ty,pos,af,g⟩) hg hf,if_true]
 unfold Oper.wpIn
 refine ⟨fun _ _=>trivial,?_⟩
 rw [semAt_run (hc a w hf) (by intro d h; cases h)]
 obtain ⟨h1,h2,h3⟩:=Hp.frz_iff.1 (show Hp F ([]++hl) w from hh)
 refine ⟨(by intro h; cases h),fe_calls ((hspec w h1).mono fun e w' ⟨v,hl',he,hpost,hh'⟩ => ?_)⟩
 subst he
 have hfin:Hp F (hl'++hl) w':=Hp.frz_iff.2 ⟨hh',h2,h3⟩
 have hfin':Hp F hl w':=Hp.forget (hfin.perm List.perm_append_comm)
 exact ⟨_,fun _ _ h=>h,hfin'.st,h v hpost _ w' (hf.put ht v) hfin'⟩
theorem Rg.callH {t f:Nat} {o:Op} {args:Array Value} {pre rest:Hl} {post:Value→Hl→Prop} (ho:nth ops i=some ⟨some t,o,ty,pos,af,g⟩) (hg:wantB ops l g=some true) (ht:Nat.blt t n.n=true) (hc:Callz P n l ⟨some t,o,ty,pos,af,g⟩ f args)
 (hspec:∀F',(∀b o,(b,o)∈rest∨F.at_ b o→F'.at_ b o)→Spec P f args F' pre post) [hp:PullL hl pre rest] (hclr:clr.contains i=true) (h:∀v hl',post v hl'→Rg P Qf n F ks ops clr (hl'++rest) r ((t,v)::l) (hl'++rest)):Rg P Qf n F ks ops clr hs (.st i .eff r) l hl :=
 Rg.calls pre rest ho hg (fun a w hf _=>hc a w hf) hp.perm (hspec (frz F rest) fun _ _ h=>h) fun v hl' hpost=>⟨hl'++rest,fun _ hw=>hw.st,.inl hclr,fun a hf=>⟨_,hf.put ht v,h v hl' hpost⟩⟩
theorem Rg.callA {t f:Nat} {o:Op} {args:Array Value} {post:Value→Hl→Prop} (ho:nth ops i=some ⟨some t,o,ty,pos,af,g⟩) (hg:wantB ops l g=some true) (ht:Nat.blt t n.n=true) (hc:Callz P n l ⟨some t,o,ty,pos,af,g⟩ f args)
 (hspec:Spec P f args (frz F hl) [] post) (h:∀v s,post v s→Rg P Qf n F ks ops clr (s++hl) r ((t,v)::l) (s++hl)):Rg P Qf n F ks ops clr hl (.st i .eff r) l hl :=
 Rg.calls [] hl ho hg (fun a w hf _=>hc a w hf) (List.Perm.refl _) hspec fun v hl' hpost=>⟨hl'++hl,fun _ hw=>hw.st,.inr ⟨hl',rfl⟩,fun a hf=>⟨_,hf.put ht v,h v hl' hpost⟩⟩
end
theorem Z {α : Sort _} {a : α} : a = a := rfl
abbrev Kd.p := Kd.pure
abbrev Kd.r := Kd.read
abbrev Kd.e := Kd.eff
def sq : Nat → List Kd → Sd
  | _, [] => .nil
  | i, k :: r => .st i k (sq (i + 1) r)
section
variable {P : Program} {Qf : Exit → Act → World → Prop} {n : Nf} {F : Fm} {ks : List KItem} {l : Env} {hl : Hl}
theorem tj {id : Nat} {ops : List Oper} (kd : List Kd) (hr : (noDefer ops && (sq 0 kd).line == some (List.range ops.length)) = true) (h : Rg P Qf n F ks ops (List.range kd.length) hl (sq 0 kd) l hl) :
    Vc P Qf n F (.code (.region id ops.toArray false) :: ks) l hl := Vc.text (List.range kd.length) (sq 0 kd) hr h
theorem sj {id : Nat} {ops : List Oper} {y : Code} (kd : List Kd) (hr : (noDefer ops && (sq 0 kd).line == some (List.range ops.length)) = true) (h : Rg P Qf n F (.code y :: ks) ops (List.range kd.length) hl (sq 0 kd) l hl) :
    Vc P Qf n F (.code ((Code.region id ops.toArray false).seq y) :: ks) l hl := Vc.seq (Vc.text (List.range kd.length) (sq 0 kd) hr h)
theorem wj {x y : Code} (h : Vc P Qf n F (.code x :: .code y :: ks) l hl) : Vc P Qf n F (.code (x.seq y) :: ks) l hl := Vc.seq h
theorem kj (h : Vc P Qf n F ks l hl) : Vc P Qf n F (.code .skip :: ks) l hl := Vc.skip h
theorem bj {id : Nat} {c : Code} (h : Vc P Qf n F (.code c :: .blk id :: ks) l hl) : Vc P Qf n F (.code (.block id c) :: ks) l hl := Vc.block h
theorem dj {id : Nat} (h : Vc P Qf n F ks l hl) : Vc P Qf n F (.blk id :: ks) l hl := Vc.blk h
theorem cj {c : Operand} {x y : Code} {t : Bool} (hc : ev l c = some (.bool t)) (h1 : t = true → Vc P Qf n F (.code x :: ks) l hl) (h2 : t = false → Vc P Qf n F (.code y :: ks) l hl) :
    Vc P Qf n F (.code (.cond c x y) :: ks) l hl := Vc.cond hc h1 h2
variable {ops : List Oper} {clr : List Nat} {hs : Hl} {r : Sd} {i t : Nat} {ty : TypeId} {pos : String} {af : Array Edge} {g : Option (Nat × Bool)} {v : Value}
theorem nl (h : Vc P Qf n F ks l hl) : Rg P Qf n F ks ops clr hs .nil l hl := Rg.nil h
theorem inj3 {α β γ : Type} {a a' : α} {b b' : β} {c c' : γ} (h : (a, b, c) = (a', b', c')) : a = a' ∧ b = b' ∧ c = c' := by cases h; exact ⟨rfl, rfl, rfl⟩
theorem inj4 {α β γ δ : Type} {a a' : α} {b b' : β} {c c' : γ} {d d' : δ} (h : (a, b, c, d) = (a', b', c', d')) : a = a' ∧ b = b' ∧ c = c' ∧ d = d' := by cases h; exact ⟨rfl, rfl, rfl, rfl⟩
theorem uj {op : Op} (ho : (nth ops i, wantB ops l g, Nat.blt t n.n) = (some ⟨some t, op, ty, pos, af, g⟩, some true, true)) (hv : Pv P n l ⟨some t, op, ty, pos, af, g⟩ v) (h : Rg P Qf n F ks ops clr hs r ((t, v) :: l) hl) :
    Rg P Qf n F ks ops clr hs (.st i .pure r) l hl := Rg.pure (inj3 ho).1 (inj3 ho).2.1 (inj3 ho).2.2 hv h
theorem rj {op : Op} (ho : (nth ops i, wantB ops l g, Nat.blt t n.n) = (some ⟨some t, op, ty, pos, af, g⟩, some true, true)) (hv : Ev P n F l hs ⟨some t, op, ty, pos, af, g⟩ v) (h : Rg P Qf n F ks ops clr hs r ((t, v) :: l) hl) :
    Rg P Qf n F ks ops clr hs (.st i .read r) l hl := Rg.read (inj3 ho).1 (inj3 ho).2.1 (inj3 ho).2.2 hv h
theorem mj {x : Operand} (ho : (nth ops i, wantB ops l g, Nat.blt t n.n, ev l x) = (some ⟨some t, .move x, ty, pos, af, g⟩, some true, true, some v)) (h : Rg P Qf n F ks ops clr hs r ((t, v) :: l) hl) :
    Rg P Qf n F ks ops clr hs (.st i .pure r) l hl := Rg.pure (inj4 ho).1 (inj4 ho).2.1 (inj4 ho).2.2.1 (Pv.move (inj4 ho).2.2.2) h
theorem aj {x : Operand} (ho : (nth ops i, wantB ops l g, Nat.blt t n.n, ev l x) = (some ⟨some t, .assign x, ty, pos, af, g⟩, some true, true, some v)) (h : Rg P Qf n F ks ops clr hs r ((t, v) :: l) hl) :
    Rg P Qf n F ks ops clr hs (.st i .pure r) l hl := Rg.pure (inj4 ho).1 (inj4 ho).2.1 (inj4 ho).2.2.1 (Pv.assign (inj4 ho).2.2.2) h
theorem nj {x : Operand} {a : Addr} (ho : (nth ops i, wantB ops l g, Nat.blt t n.n, ev l x) = (some ⟨some t, .nilCheck x, ty, pos, af, g⟩, some true, true, some (.pointer (some a)))) (h : Rg P Qf n F ks ops clr hs r ((t, .pointer (some a)) :: l) hl) :
    Rg P Qf n F ks ops clr hs (.st i .pure r) l hl := Rg.pure (inj4 ho).1 (inj4 ho).2.1 (inj4 ho).2.2.1 (Pv.nilp (inj4 ho).2.2.2) h
theorem fj {s f b o off : Nat} {x : Operand} [ht : TyField P s f off] (ho : (nth ops i, wantB ops l g, Nat.blt t n.n, ev l x) = (some ⟨some t, .fieldAddr s x f, ty, pos, af, g⟩, some true, true, some (.pointer (some ⟨b, o, none⟩))))
    (h : Rg P Qf n F ks ops clr hs r ((t, .pointer (some ⟨b, o + off, none⟩)) :: l) hl) :
    Rg P Qf n F ks ops clr hs (.st i .pure r) l hl := Rg.pure (inj4 ho).1 (inj4 ho).2.1 (inj4 ho).2.2.1 (Pv.fa (inj4 ho).2.2.2) h
theorem xj {x : Operand} {j : Nat} {vs : List Value} (ho : (nth ops i, wantB ops l g, Nat.blt t n.n, ev l x) = (some ⟨some t, .extract x j, ty, pos, af, g⟩, some true, true, some (.tuple vs.toArray))) (hv : nth vs j = some v)
    (h : Rg P Qf n F ks ops clr hs r ((t, v) :: l) hl) : Rg P Qf n F ks ops clr hs (.st i .pure r) l hl := Rg.pure (inj4 ho).1 (inj4 ho).2.1 (inj4 ho).2.2.1 (Pv.extract (inj4 ho).2.2.2 hv) h
theorem qj {c x y : Operand} (ho : (nth ops i, wantB ops l g, Nat.blt t n.n, ev l c) = (some ⟨some t, .pick c x y, ty, pos, af, g⟩, some true, true, some (.bool true))) (hx : ev l x = some v)
    (h : Rg P Qf n F ks ops clr hs r ((t, v) :: l) hl) : Rg P Qf n F ks ops clr hs (.st i .pure r) l hl := Rg.pure (inj4 ho).1 (inj4 ho).2.1 (inj4 ho).2.2.1 (Pv.pickT (inj4 ho).2.2.2 hx) h
theorem pj {c x y : Operand} (ho : (nth ops i, wantB ops l g, Nat.blt t n.n, ev l c) = (some ⟨some t, .pick c x y, ty, pos, af, g⟩, some true, true, some (.bool false))) (hy : ev l y = some v)
    (h : Rg P Qf n F ks ops clr hs r ((t, v) :: l) hl) : Rg P Qf n F ks ops clr hs (.st i .pure r) l hl := Rg.pure (inj4 ho).1 (inj4 ho).2.1 (inj4 ho).2.2.1 (Pv.pickF (inj4 ho).2.2.2 hy) h
theorem lj {q b off : Nat} {e : TypeId} {vs : List Value} {x : Operand} [ht : TyOne P q] (ho : (nth ops i, wantB ops l g, Nat.blt t n.n, ev l x) = (some ⟨some t, .load q x, ty, pos, af, g⟩, some true, true, some (.pointer (some ⟨b, off, none⟩))))
    [hb : Has F hs b (cellsO vs e)] (hv : nth vs off = some v) (h : Rg P Qf n F ks ops clr hs r ((t, v) :: l) hl) : Rg P Qf n F ks ops clr hs (.st i .read r) l hl := Rg.read (inj4 ho).1 (inj4 ho).2.1 (inj4 ho).2.2.1 (Ev.ld (inj4 ho).2.2.2 hv) h
theorem mz {f : Nat} {xs : List Operand} {vs : List Value} {ats : Array TypeId} {d : Option Tmp} [hf : TyCall P f] (hv : evs l xs = some vs) (a : Act) (w : World) (h : Fr n l a) :
    (execOp a.eval ⟨d, .call { callee := .value (.func f), args := xs.toArray, argTypes := ats }, ty, pos, af, g⟩).run P w = .ok (.enter f vs.toArray) w := run_callF hv a w h
theorem tz (h : lk l t = some v) : ResL P F l hl [.tmp t] [v] := .cons (.tmp h) .nil
theorem vr {fn : Func} {post : Value → Hl → Prop} {xs : List ResultVar} {vs : List Value} {hl' rest : Hl} (hr : fn.results = xs.toArray) (hv : ResL P F l hl xs vs) (h : post (oneOr vs) hl') (hp : hl.Perm (hl' ++ rest)) (hds : n.ds = [] := by rfl) (hdx : n.dx = [] := by rfl) :
    Vc P (SpecQ P fn F post) n F (.code .ret :: ks) l hl := Vc.ret (Vc.retsH hr hv h hp hds hdx)
theorem vz {fn : Func} {post : Value → Hl → Prop} {xs : List ResultVar} {vs : List Value} (hr : fn.results = xs.toArray) (hv : ResL P F l hl xs vs) (h : post (oneOr vs) hl) (hds : n.ds = [] := by rfl) (hdx : n.dx = [] := by rfl) :
    Vc P (SpecQ P fn F post) n F (.code .ret :: ks) l hl := Vc.ret (Vc.rets hr hv h hds hdx)
end
theorem dt {p : Prop} [Decidable p] : (decide p = true) = p := decide_eq_true_eq
theorem df {p : Prop} [Decidable p] : (decide p = false) ↔ ¬p := decide_eq_false_iff_not
theorem lx {α : Type _} (a b c : List α) : a ++ b ++ c = a ++ (b ++ c) := List.append_assoc a b c
theorem ly {α : Type _} {a b : List α} : (a ++ b).length = a.length + b.length := List.length_append
end Go.Proofs.YtkpiakgmkpbikaaGreatDoor
