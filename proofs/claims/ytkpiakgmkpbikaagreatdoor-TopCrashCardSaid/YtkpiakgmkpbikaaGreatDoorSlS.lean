/- Steps of the proof. -/
import Derived.Test.YtkpiakgmkpbikaaGreatDoorTkI
import Derived.Test.YtkpiakgmkpbikaaGreatDoorByP
import Derived.Test.YtkpiakgmkpbikaaGreatDoorSlN
import Derived.Test.YtkpiakgmkpbikaaGreatDoorHpP
import Derived.Laws.StructEq
import Derived.Shelf.SlSortCmp.NoneTotal
set_option linter.unusedVariables false
namespace Go.Proofs.YtkpiakgmkpbikaaGreatDoor
section
variable {P : Program} {n : Nf} {F : Fm} {l : Env} {hl : Hl} {d : Option Tmp} {ty : TypeId} {pos : String} {af : Array Edge} {g : Option (Nat × Bool)}
theorem Pv.negI {t:TypeId} {x:Operand} {k:IntKind} {z:Int} (hx:ev l x=some (.int k z)):Pv P n l ⟨d,.unOp .neg t x,ty,pos,af,g⟩ (.int k (k.wrap (0-z))):=fun a w hf=>by
 simp [execOp,hf.ev hx,Op.unary,Op.intArith]
theorem Pv.cpl32 {t:TypeId} {x:Operand} (p:Nat) (hx:ev l x=some (.int .u32 (p:Int))) (hp:p<4294967296):Pv P n l ⟨d,.unOp .xor t x,ty,pos,af,g⟩ (.int .u32 ((4294967295 ^^^ p:Nat):Int)):=fun a w hf=>by
 have h:(Op.intBits .xor .u32 (IntKind.u32.max) (p:Int)).run P w=.ok (.int .u32 ((4294967295 ^^^ p:Nat):Int)) w:=by
  show Result.ok (Value.int .u32 (IntKind.u32.wrap ((BitVec.ofInt 32 ((4294967295:Nat):Int) ^^^ BitVec.ofInt 32 (p:Int)).toNat:Nat))) w=_
  rw [ofInt_nat,ofInt_nat,BitVec.toNat_xor,BitVec.toNat_ofNat,BitVec.toNat_ofNat,Nat.mod_eq_of_lt (by decide),Nat.mod_eq_of_lt (by omega),wrap_ult rfl (Nat.xor_lt_two_pow (by decide) (by show p<2 ^ 32;omega))]
 simp only [execOp,hf.ev hx,Op.unary,IntKind.signed,Bool.false_eq_true,if_false,Sem.run_bind,h,Result.andThen_ok,Sem.run_pure]
theorem Pv.cap {x:Operand} {t:TypeId} {e:TypeId} {p:Option Addr} {m c:Nat} [ht:TyUnder P t (.slice e)] (hx:ev l x=some (.slice p m c)):Pv P n l ⟨d,.call { callee:=.builtin .cap,args:=#[x],argTypes:=#[t] },ty,pos,af,g⟩ (.int .i64 c):=fun a w hf=>by
 simp [execOp,resolve,invoke,builtin,Builtin.cap_,run_underlying ht.under,hf.ev hx,goInt]
end
theorem put_spec {F:Fm} {va:Value} {xs:List UInt8} (ha:Arg byteE F va xs) (hN:xs.length<1073741000) (s n0:Nat) (hs:s≤8) :
 Spec Tryz.prog 130 #[va,.int .i64 (s:Int),.int .u64 (n0:Int)] F [] fun v sg=>Own byteE v (xs++leBytes s n0) sg:=by
 refine Spec.of (n:=24) (vs:=[va,.int .i64 (s:Int),.int .u64 (n0:Int)]) Tryz.func130 rfl Tryz.ntmps130 rfl ?_
 refine sj [.p] Z<|aj Z<|nl<|sj [.p,.e,.p] Z<|mj Z<|Rg.callA Z Z Z (mz Z) (clone_spec (ha.mono fun b o h=>Or.inr h) (by omega)) ?_
 rintro v9 s9 own9
 refine aj Z<|nl<|wj<|sj [.p,.p,.p,.p] Z<|mj Z<|uj Z (Pv.max Z Z)<|uj Z (Pv.asI (s) (Pv.min rfl rfl) (by omega))<|mj Z<|nl<|bj ?_
 refine Vc.loop3 (fun (i:Nat) (v:Value) (sg:Hl)=>i≤s∧Own byteE v (xs++leBytes i n0) sg) (fun i v sg=>[(2,.int .u64 ((n0 / 256 ^ i:Nat):Int)),(7,v),(12,.int .i64 (s:Int)),(13,.int .i64 (i:Int))]) (fun i v sg=>sg) (fun i v sg=>s-i) 0 v9 s9 ⟨Nat.zero_le _,by simpa [leBytes] using own9⟩ (.cons (congrArg (fun x:Nat=>some (Value.int .u64 (x:Int))) (by simp)) (.cons rfl (.cons rfl (.cons rfl .nil)))) pulled ?_
 rintro i v sg ⟨hi,own⟩
 refine sj [.p] Z<|uj Z (Pv.lss Z Z)<|nl<|wj<|cj Z (fun h14=>?_) (fun h14=>?_)
 · simp only [dt] at h14
   refine kj<|wj<|bj<|sj [.p,.p,.p,.e,.e,.p] Z<|mj Z<|mj Z<|uj Z (Pv.as (.int .u8 ((UInt8.ofNat (n0 / 256 ^ i)).toNat:Int)) (Pv.convI Z) (congrArg (Value.int .u8) (wrap_u8 _)))<|Rg.bslice1 Z Z Z Z Z Z Z (fun b18=>?_)
   refine Rg.append Z Z Z Z Z own (Src.one (y:=UInt8.ofNat (n0 / 256 ^ i)) rfl) (by simp<;>omega) (by simp [maxLen]<;>omega) rfl (fun v19 s19 own19=>?_)
   refine aj Z<|nl<|tj [.p,.p,.p] Z<|mj Z<|uj Z (Pv.asI (n0 / 256 ^ (i+1)) (Pv.shrN (n0 / 256 ^ i) 8 rfl rfl (by decide)) (by rw [Nat.div_div_eq_div_mul,show (2:Nat) ^ 8=256 by decide,←Nat.pow_succ]))<|aj Z<|nl<|dj<|tj [.p,.p] Z<|uj Z (Pv.asI (i+1) (Pv.add rfl rfl (by omega)) (by omega))<|mj Z<|nl ?_
   exact Vc.inv3 (i+1) v19 s19 ⟨⟨by omega,by rw [leBytes_snoc,←lx];exact own19⟩,by omega⟩ (.cons rfl (.cons rfl (.cons rfl (.cons rfl .nil)))) pulled
 · simp only [df] at h14
   refine Vc.exit Z<|sj [.p,.p] Z<|mj Z<|aj Z<|nl ?_
   exact vr rfl (tz Z) ((by rw [show s=i by omega];exact own)) pulled
def encB (x:Nat×UInt8):List Value:=[.int .i64 (x.1:Int),.int .u8 (x.2.toNat:Int)]
theorem bwd_iter {F:Fm} {va:Value} {xs:List UInt8} (ha:Arg byteE F va xs) (hN:xs.length<1073741824) (bs:Nat) :
 Iter Tryz.prog 141 [.pointer (some ⟨bs,0,none⟩)] F encB (fun p=>p <+: bwd xs) (fun p=>p=bwd xs) [(bs,cellsO [va] 40)]:=by
 intro lr J F1 hF1 hY hc0 hJ0
 obtain ⟨p,c,rfl⟩:=ha.shape
 have ha1:=ha.mono hF1
 refine Spec.of (n:=19) (vs:=[.func (.yield lr) #[] #[],.pointer (some ⟨bs,0,none⟩)]) Tryz.func141 rfl Tryz.ntmps141 rfl ?_
 refine sj [.r,.p,.p,.p] Z<|lj Z Z<|uj Z (Pv.lenS Z)<|uj Z (Pv.as (.int .i64 ((xs.length:Int)-1-((0:Nat):Int))) (Pv.sub rfl rfl (by omega)) (congrArg (Value.int .i64) (by omega)))<|aj Z<|nl<|bj ?_
 refine Vc.loop2 (fun (k:Nat) (hc:Hl)=>k≤xs.length∧J ((bwd xs).take k) hc) (fun k hc=>[(0,.func (.yield lr) #[] #[]),(1,.pointer (some ⟨bs,0,none⟩)),(3,.int .i64 ((xs.length:Int)-1-(k:Int)))]) (fun k hc=>(bs,cellsO [.slice p xs.length c] 40)::hc) (fun k hc=>xs.length-k) 0 hc0 ⟨Nat.zero_le _,by simpa using hJ0⟩ (.cons rfl (.cons rfl (.cons rfl .nil))) pulled ?_
 rintro k hc ⟨hk,hJ⟩
 refine wj<|sj [.p,.p] Z<|mj Z<|uj Z (Pv.geq Z Z)<|nl<|cj Z (fun h8=>?_) (fun h8=>?_)
 · simp only [dt] at h8
   have hk1:k<xs.length:=by omega
   obtain ⟨b,off,c',e,hcc⟩:=ha1.block (by omega)
   cases e
   have hsn:=take_snoc (bwd_get xs hk1)
   have hpre:(bwd xs).take k++[(xs.length-1-k,xs[xs.length-1-k]!)] <+: bwd xs:=by rw [hsn];exact List.take_prefix _ _
   refine kj<|wj<|bj<|sj [.p,.p,.r,.p,.p,.r,.e,.p] Z<|mj Z<|uj Z (Pv.asI (xs.length-1-k) (Pv.move rfl) (by omega))<|lj Z Z<|uj Z (Pv.asI (xs.length-1-k) (Pv.move rfl) (by omega))<|uj Z (Pv.ixA (xs.length-1-k) rfl rfl (by omega) (by omega))<|rj Z (Ev.ldS (xs.length-1-k) (ha1.src) rfl rfl rfl (by omega))<|Rg.yieldH Z Z Z Z Z (fun F' hF'=>hY _ (xs.length-1-k,xs[xs.length-1-k]!) hpre hc hJ F' (fun b o h=>hF' b o (.inr h))) Z ?_
   rintro _ hc' ⟨rfl,hJ'⟩
   rw [hsn] at hJ'
   refine uj Z (Pv.not Z)<|nl<|cj Z (fun h18=>absurd h18 (by simp)) (fun h18=>?_)
   refine kj<|dj<|tj [.p,.p,.p] Z<|mj Z<|uj Z (Pv.as (.int .i64 ((xs.length:Int)-1-((k+1:Nat):Int))) (Pv.sub rfl rfl (by omega)) (congrArg (Value.int .i64) (by omega)))<|aj Z<|nl ?_
   exact Vc.inv2 (k+1) hc' ⟨⟨by omega,hJ'⟩,by omega⟩ (.cons rfl (.cons rfl (.cons rfl .nil))) pulled
 · simp only [df] at h8
   have hJf:J (bwd xs) hc:=by rwa [List.take_of_length_le (by rw [bwd_length];omega)] at hJ
   refine Vc.exit Z ?_
   exact Vc.fin (Vc.retsH rfl .nil (⟨bwd xs,rfl,hJf⟩) pulled)
theorem backward_spec {F:Fm} {p:Option Addr} {m c:Nat} :
 Spec Tryz.prog 128 #[.slice p m c] F [] fun v s=>∃bs,v=.func (.func 141) #[] #[.pointer (some ⟨bs,0,none⟩)]∧s=[(bs,cellsO [.slice p m c] 40)]:=by
 refine Spec.of (n:=4) (vs:=[.slice p m c]) Tryz.func128 rfl Tryz.ntmps128 rfl ?_
 refine sj [.e,.p] Z<|Rg.box Z Z Z Z Z (fun b1=>?_)
 refine aj Z<|nl<|sj [.p,.p] Z<|uj Z (Pv.mkF Z Z)<|aj Z<|nl ?_
 exact vr rfl (tz Z) (⟨b1,rfl,rfl⟩) pulled
def getB (xs:List UInt8) (at_ s:Nat):Nat:=leNum ((xs.drop at_).take s)
theorem get_spec {F:Fm} {va:Value} {xs:List UInt8} (ha:Arg byteE F va xs) (hN:xs.length<1073741824) (at_ s:Nat) (h1:1≤s) (h8:s≤8) (hat:at_+s≤xs.length) :
 Spec Tryz.prog 107 #[va,.int .i64 (at_:Int),.int .i64 (s:Int)] F [] fun v _=>v=.tuple #[.int .u64 (getB xs at_ s:Nat),.bool true]:=by
 obtain ⟨b,off,c,rfl,hc⟩:=ha.block (by omega)
 have ha2:=Arg.sub ha at_ (at_+s) (by omega) (by omega)
 rw [show at_+s-at_=s by omega] at ha2
 unfold getB
 have hly:((xs.drop at_).take s).length=s:=by simp;omega
 generalize (xs.drop at_).take s=ys at ha2 hly
 refine Spec.of (n:=44) (vs:=[.slice (some ⟨b,off,none⟩) xs.length c,.int .i64 (at_:Int),.int .i64 (s:Int)]) Tryz.func107 rfl Tryz.ntmps107 rfl ?_
 refine sj [.p,.p] Z<|aj Z<|aj Z<|nl<|wj<|sj [.p,.p,.p,.p,.p,.p,.p,.p,.p,.p,.p,.p,.p,.p,.p,.p,.p,.p] Z<|mj Z<|uj Z (Pv.lss Z Z)<|mj Z<|Rg.split (t:=13) rfl (fun h13=>absurd h13 (by simp only [dt];omega)) (fun h13=>?_)
 refine mj Z<|uj Z (Pv.gtr Z Z)<|pj Z Z<|mj Z<|Rg.split (t:=17) rfl (fun h17=>absurd h17 (by simp only [dt];omega)) (fun h17=>?_)
 refine mj Z<|uj Z (Pv.lss Z Z)<|pj Z Z<|mj Z<|Rg.split (t:=21) rfl (fun h21=>absurd h21 (by simp only [dt];omega)) (fun h21=>?_)
 refine mj Z<|mj Z<|uj Z (Pv.lenS Z)<|mj Z<|uj Z (Pv.sub rfl rfl (by omega))<|uj Z (Pv.gtr Z Z)<|pj Z Z<|nl<|cj Z (fun h28=>absurd h28 (by simp only [dt];omega)) (fun h28=>?_)
 refine kj<|sj [.e,.e] Z<|Rg.alloc Z Z Z Z (fun b8=>?_)
 refine Rg.store Z Z Z Z Z Z Z Z<|nl<|wj<|sj [.p,.p,.p,.p,.p,.p,.e] Z<|mj Z<|mj Z<|mj Z<|mj Z<|uj Z (Pv.asI (at_+s) (Pv.add rfl rfl (by omega)) (by omega))<|uj Z (Pv.slAt (at_) (at_+s) rfl rfl rfl (by omega) (by omega))<|Rg.callA Z Z Z (mz Z) backward_spec ?_
 rintro _ _ ⟨bs,rfl,rfl⟩
 refine nl<|bj ?_
 refine Vc.rangeFunc (enc:=encB) (Sp:=fun p=>p <+: bwd ys) (S:=fun p=>p=bwd ys) (hi:=[(bs,cellsO [.slice (some ⟨b,if c=at_ then off else off+at_*1,none⟩) (at_+s-at_) (c-at_)] 40)]) (rest:=[]) (fun pre hc=>hc=[(b8,cellsO [.int .u64 ((leNum (ys.drop (ys.length-pre.length)):Nat):Int)] 36)]) [(b8,cellsO [.int .u64 0] 36)] rfl rfl (fun _=>rfl) rfl pulled (fun F1 hF1=>bwd_iter (by rw [show at_+s-at_=s by omega];exact ha2.mono fun b o h=>hF1 b o (.inr h)) (by omega) bs) (by simp [leNum]) ?_ ?_
 · rintro lr rc pre x hc F1 hF1 hpre rfl
   have hk:=(prefix_take hpre).1
   have hx:=prefix_get hpre
   rw [bwd_length] at hk
   rw [bwd_get ys hk,Option.some.injEq] at hx
   subst hx
   have hd:ys.drop (ys.length-(pre.length+1))=ys[ys.length-1-pre.length]! :: ys.drop (ys.length-pre.length):=by
    rw [getElem!_pos ys _ (by omega),show ys.length-pre.length=ys.length-1-pre.length+1 by omega,show ys.length-(pre.length+1)=ys.length-1-pre.length by omega]
    exact List.drop_eq_getElem_cons (by omega)
   have hlt:leNum (ys.drop (ys.length-pre.length))<2 ^ 56:=Nat.lt_of_lt_of_le (leNum_lt _) (by
    rw [List.length_drop,show (2:Nat) ^ 56=256 ^ 7 by decide]
    exact Nat.pow_le_pow_right (by decide) (by omega))
   have hb8:=(ys[ys.length-1-pre.length]!).toNat_lt
   refine tj [.p] Z<|aj Z<|nl<|Vc.begin<|bj<|tj [.r,.p,.p,.p,.p,.e] Z<|lj Z Z<|uj Z (Pv.shlN (leNum (ys.drop (ys.length-pre.length))) (8) rfl rfl rfl (by decide))<|mj Z<|uj Z (Pv.asI (ys[ys.length-1-pre.length]!).toNat (Pv.convI rfl) (wrap_ult rfl (by show (ys[ys.length-1-pre.length]!).toNat<2 ^ 64;omega)))<|uj Z (Pv.asI (leNum (ys.drop (ys.length-(pre.length+1)))) (Pv.orN (leNum (ys.drop (ys.length-pre.length))*2 ^ 8 % 2 ^ IntKind.u64.bits) (ys[ys.length-1-pre.length]!).toNat rfl rfl rfl (by show _<2 ^ 64;exact Nat.mod_lt _ (by decide)) (by show _<2 ^ 64;omega)) (by rw [hd,leNum];exact congrArg _ (leNum_step hlt hb8)))<|Rg.store Z Z Z Z Z Z Z Z<|nl<|dj ?_
   exact Vc.finR [(b8,cellsO [.int .u64 ((leNum (ys.drop (ys.length-(pre.length+1))):Nat):Int)] 36)] (by rw [ly];rfl) pulled
 · rintro D pre hc hD rfl rfl
   rw [bwd_length,Nat.sub_self,List.drop_zero]
   refine dj<|sj [.r,.p,.p] Z<|lj Z Z<|aj Z<|aj Z<|nl ?_
   exact Vc.ret (Vc.retsM (hl':=[]) (Mk.one hD) rfl (.cons (.tmp rfl) (tz Z)) rfl pulled)
theorem get_none {F:Fm} {va:Value} {xs:List UInt8} (ha:Arg byteE F va xs) (hN:xs.length<1073741824) (at_ s:Nat) (h1:1≤s) (h8:s≤8) (hat:xs.length<at_+s) (h4:at_<1073741824) :
 Spec Tryz.prog 107 #[va,.int .i64 (at_:Int),.int .i64 (s:Int)] F [] fun v _=>v=.tuple #[.int .u64 0,.bool false]:=by
 obtain ⟨p,c,rfl⟩:=ha.shape
 refine Spec.of (n:=44) (vs:=[.slice p xs.length c,.int .i64 (at_:Int),.int .i64 (s:Int)]) Tryz.func107 rfl Tryz.ntmps107 rfl ?_
 refine sj [.p,.p] Z<|aj Z<|aj Z<|nl<|wj<|sj [.p,.p,.p,.p,.p,.p,.p,.p,.p,.p,.p,.p,.p,.p,.p,.p,.p,.p] Z<|mj Z<|uj Z (Pv.lss Z Z)<|mj Z<|Rg.split (t:=13) rfl (fun h13=>absurd h13 (by simp only [dt];omega)) (fun h13=>?_)
 refine mj Z<|uj Z (Pv.gtr Z Z)<|pj Z Z<|mj Z<|Rg.split (t:=17) rfl (fun h17=>absurd h17 (by simp only [dt];omega)) (fun h17=>?_)
 refine mj Z<|uj Z (Pv.lss Z Z)<|pj Z Z<|mj Z<|Rg.split (t:=21) rfl (fun h21=>absurd h21 (by simp only [dt];omega)) (fun h21=>?_)
 refine mj Z<|mj Z<|uj Z (Pv.lenS Z)<|mj Z<|uj Z (Pv.sub rfl rfl (by omega))<|uj Z (Pv.gtr Z Z)<|pj Z Z<|nl<|cj Z (fun h28=>?_) (fun h28=>absurd h28 (by simp only [df];omega))
 refine sj [.p,.p] Z<|aj Z<|aj Z<|nl<|Vc.ret (Vc.rets Z (.cons (.tmp Z) (tz Z)) ?_)
 rfl
def crcBit (c:Nat):Nat:=(c / 2) ^^^ (if c % 2=1 then 3988292384 else 0)
def crcBits:Nat→Nat→Nat
 | 0,c=>c
 | k+1,c=>crcBit (crcBits k c)
def crcByte (c:Nat) (x:UInt8):Nat:=crcBits 8 (c ^^^ x.toNat)
def crcAll (xs:List UInt8):Nat:=xs.foldl crcByte 4294967295
def crcG (xs:List UInt8):Nat:=4294967295 ^^^ crcAll xs
theorem crcBit_lt {c:Nat} (h:c<2 ^ 32):crcBit c<2 ^ 32:=by
 unfold crcBit
 refine Nat.xor_lt_two_pow (by omega) ?_
 split<;>decide
theorem crcBits_lt {c:Nat} (h:c<2 ^ 32):∀k,crcBits k c<2 ^ 32
 | 0=>h
 | k+1=>crcBit_lt (crcBits_lt h k)
theorem crcByte_lt {c:Nat} (h:c<2 ^ 32) (x:UInt8):crcByte c x<2 ^ 32:=crcBits_lt (Nat.xor_lt_two_pow h (by have:=x.toNat_lt;omega)) 8
theorem crcAll_snoc (xs:List UInt8) (x:UInt8):crcAll (xs++[x])=crcByte (crcAll xs) x:=by simp [crcAll]
theorem crcAll_lt (xs:List UInt8):crcAll xs<2 ^ 32:=by
 suffices h:∀c,c<2 ^ 32→xs.foldl crcByte c<2 ^ 32 from h _ (by decide)
 induction xs with
 | nil=>exact fun c h=>h
 | cons x xs ih=>exact fun c h=>ih _ (crcByte_lt h x)
theorem crcG_lt (xs:List UInt8):crcG xs<2 ^ 32:=Nat.xor_lt_two_pow (by decide) (crcAll_lt xs)
theorem take_snoc1 {xs:List UInt8} {i:Nat} (h:i<xs.length):xs.take (i+1)=xs.take i++[xs[i]!]:=by
 rw [List.take_succ_eq_append_getElem h,getElem!_pos xs i h]
theorem neg_bit (c:Nat):IntKind.u32.wrap (0-((c % 2:Nat):Int))=(((if c % 2=1 then 4294967295 else 0):Nat):Int):=by
 have:c % 2=0∨c % 2=1:=by omega
 rcases this with h | h<;>rw [h]<;>rfl
theorem and_bit (c:Nat):3988292384 &&& (if c % 2=1 then 4294967295 else 0)=if c % 2=1 then 3988292384 else 0:=by
 split<;>rfl
theorem low_bit (c:Nat):c &&& 1=c % 2:=by rw [Nat.and_one_is_mod]
theorem crc_spec {F:Fm} {va:Value} {xs:List UInt8} (ha:Arg byteE F va xs) (hN:xs.length<1073741824) :
 Spec Tryz.prog 127 #[va] F [] fun v _=>v=.int .u32 ((crcG xs:Nat):Int):=by
 obtain ⟨p,c0,rfl⟩:=ha.shape
 refine Spec.of (n:=29) (vs:=[.slice p xs.length c0]) Tryz.func127 rfl Tryz.ntmps127 rfl ?_
 refine sj [.p] Z<|aj Z<|nl<|sj [.p] Z<|aj Z<|nl<|wj<|sj [.p,.p,.p] Z<|mj Z<|uj Z (Pv.lenS Z)<|mj Z<|nl<|bj ?_
 refine Vc.loop1 (fun (i:Nat)=>i≤xs.length) (fun i=>[(3,.int .u32 ((crcAll (xs.take i):Nat):Int)),(6,.slice p xs.length c0),(7,.int .i64 (xs.length:Int)),(8,.int .i64 (i:Int))]) (fun i=>[]) (fun i=>xs.length-i) 0 (Nat.zero_le _) (.cons Z (.cons Z (.cons Z (.cons Z .nil)))) pulled ?_
 rintro i hi
 obtain ⟨c,hc⟩:∃c,c=crcAll (xs.take i):=⟨_,rfl⟩
 have hcl:c<2 ^ 32:=hc▸crcAll_lt _
 refine sj [.p] Z<|uj Z (Pv.lss Z Z)<|nl<|wj<|cj Z (fun h9=>?_) (fun h9=>?_)
 · simp only [dt] at h9
   obtain ⟨b,off,c1,e,_⟩:=ha.block (by omega)
   cases e
   have hb8:=(xs[i]!).toNat_lt
   have hx:=take_snoc1 (xs:=xs) (i:=i) (by omega)
   rw [←hc]
   refine kj<|wj<|bj<|sj [.p,.r,.p] Z<|uj Z (Pv.ixA (i) rfl rfl (by omega) (by omega))<|rj Z (Ev.as (.int .u8 ((xs[i]!).toNat:Int)) (Ev.ldS (E:=byteE) i ha.src rfl rfl rfl (by omega)) rfl)<|aj Z<|nl<|sj [.p,.p,.p,.p,.p] Z<|mj Z<|mj Z<|uj Z (Pv.asI (xs[i]!).toNat (Pv.convI rfl) (wrap_ult rfl (by show (xs[i]!).toNat<2 ^ 32;omega)))<|uj Z (Pv.xorN c (xs[i]!).toNat rfl rfl rfl (by show c<2 ^ 32;omega) (by show _<2 ^ 32;omega))<|aj Z<|nl ?_
   refine sj [.p] Z<|mj Z<|nl<|bj ?_
   refine Vc.loop1 (fun (k:Nat)=>k≤8) (fun k=>[(3,.int .u32 ((crcBits k (c ^^^ (xs[i]!).toNat):Nat):Int)),(6,.slice (some ⟨b,off,none⟩) xs.length c0),(7,.int .i64 (xs.length:Int)),(8,.int .i64 (i:Int)),(16,.int .i64 (k:Int))]) (fun k=>[]) (fun k=>8-k) 0 (Nat.zero_le _) (.cons Z (.cons Z (.cons Z (.cons Z (.cons Z .nil))))) pulled ?_
   rintro k hk
   have hql:crcBits k (c ^^^ (xs[i]!).toNat)<2 ^ 32:=crcBits_lt (Nat.xor_lt_two_pow hcl (by omega)) k
   obtain ⟨q,hq⟩:∃q,q=crcBits k (c ^^^ (xs[i]!).toNat):=⟨_,rfl⟩
   rw [←hq] at hql ⊢
   refine sj [.p] Z<|uj Z (Pv.lss Z Z)<|nl<|wj<|cj Z (fun h17=>?_) (fun h17=>?_)
   · simp only [dt] at h17
     have hqn:crcBits (k+1) (c ^^^ (xs[i]!).toNat)=crcBit q:=by rw [crcBits,←hq]
     refine kj<|wj<|bj<|tj [.p,.p,.p,.p,.p,.p,.p,.p] Z<|mj Z<|uj Z (Pv.shrN q 1 rfl rfl (by decide))<|mj Z<|uj Z (Pv.asI (q % 2) (Pv.andN' q 1 rfl rfl rfl (by show q<2 ^ 32;omega) (by decide)) (by rw [low_bit]))<|uj Z (Pv.asI (if q % 2=1 then 4294967295 else 0) (Pv.negI Z) (neg_bit q))<|uj Z (Pv.asI (if q % 2=1 then 3988292384 else 0) (Pv.andN' 3988292384 (if q % 2=1 then 4294967295 else 0) rfl rfl rfl (by decide) (by show _<2 ^ 32;split<;>decide)) (by rw [and_bit]))<|uj Z (Pv.asI (crcBits (k+1) (c ^^^ (xs[i]!).toNat)) (Pv.xorN (q / 2 ^ 1) (if q % 2=1 then 3988292384 else 0) rfl rfl rfl (by show _<2 ^ 32;omega) (by show _<2 ^ 32;split<;>decide)) (by rw [hqn,crcBit,Nat.pow_one]))<|aj Z<|nl<|dj<|tj [.p,.p] Z ?_
     refine uj Z (Pv.asI (k+1) (Pv.add rfl rfl (by omega)) (by omega))<|mj Z<|nl ?_
     exact Vc.inv1 (k+1) ⟨by omega,by omega⟩ (.cons rfl (.cons rfl (.cons rfl (.cons rfl (.cons rfl .nil))))) pulled
   · simp only [df] at h17
     obtain rfl:k=8:=by omega
     refine Vc.exit Z<|dj<|tj [.p,.p] Z<|uj Z (Pv.asI (i+1) (Pv.add rfl rfl (by omega)) (by omega))<|mj Z<|nl ?_
     exact Vc.inv1 (i+1) ⟨by omega,by omega⟩ (.cons (by rw [hx,crcAll_snoc,←hc,hq];rfl) (.cons rfl (.cons rfl (.cons rfl .nil)))) pulled
 · simp only [df] at h9
   have hfin:xs.take i=xs:=List.take_of_length_le (by omega)
   rw [hfin] at hc
   rw [hfin,←hc]
   refine Vc.exit Z<|sj [.p,.p,.p] Z<|mj Z<|uj Z (Pv.cpl32 c rfl (by omega))<|aj Z<|nl<|vz Z (tz Z) ?_
   exact congrArg (fun x:Nat=>Value.int .u32 (x:Int)) (by rw [crcG,←hc])
theorem pow_8 (i:Nat):2 ^ (8*i)=256 ^ i:=by rw [Nat.pow_mul]
theorem rput_spec {F:Fm} {va:Value} {xs:List UInt8} (ha:Arg byteE F va xs) (hN:xs.length<1073741000) (s n0:Nat) (hs:s≤8) :
 Spec Tryz.prog 23 #[va,.int .i64 (s:Int),.int .u64 (n0:Int)] F [] fun v sg=>Own byteE v (xs++leBytes s n0) sg:=by
 refine Spec.of (n:=31) (vs:=[va,.int .i64 (s:Int),.int .u64 (n0:Int)]) Tryz.func23 rfl Tryz.ntmps23 rfl ?_
 refine sj [.p] Z<|aj Z<|nl<|sj [.e,.p,.e,.p] Z<|Rg.bslice0 (E:=byteE) Z Z Z (fun b9 own9=>?_)
 refine mj Z<|Rg.append Z Z Z Z Z own9 ha.src (by simp<;>omega) (by simp [maxLen]<;>omega) rfl (fun v11 s11 own11=>?_)
 refine aj Z<|nl<|wj<|sj [.p] Z<|aj Z<|nl<|bj ?_
 refine Vc.loop3 (fun (i:Nat) (v:Value) (sg:Hl)=>i≤s∧Own byteE v (xs++leBytes i n0) sg) (fun i v sg=>[(1,.int .i64 (s:Int)),(2,.int .u64 (n0:Int)),(7,v),(8,.int .i64 (i:Int))]) (fun i v sg=>sg) (fun i v sg=>s-i) 0 v11 s11 ⟨Nat.zero_le _,by simpa [leBytes] using own11⟩ (.cons rfl (.cons rfl (.cons rfl (.cons rfl .nil)))) pulled ?_
 rintro i v sg ⟨hi,own⟩
 refine wj<|wj<|Vc.cut1 (fun (b:Bool)=>(b=true→i<s)∧(b=false→¬i<s)) (fun b=>(18,.bool b)::[(1,.int .i64 (s:Int)),(2,.int .u64 (n0:Int)),(7,v),(8,.int .i64 (i:Int))]) (fun b=>sg) ?_ ?_
 · refine tj [.p,.p,.p,.p,.p,.p,.p] Z<|mj Z<|mj Z<|uj Z (Pv.lss Z Z)<|mj Z<|Rg.split (t:=15) Z (fun h15=>?_) (fun h15=>?_)
   · simp only [dt] at h15
     refine mj Z<|uj Z (Pv.lss Z Z)<|qj Z Z<|nl ?_
     exact Vc.inv1 _ ⟨fun hb=>(by first | omega | cases hb),fun hb=>(by first | (simp only [df] at hb;omega) | omega)⟩ (.cons rfl (.cons rfl (.cons rfl (.cons rfl (.cons rfl .nil))))) pulled
   · simp only [df] at h15
     iterate 2 (first | refine Rg.skipP rfl rfl rfl ?_ | refine Rg.skipR rfl rfl rfl ?_ | refine Rg.skipE rfl rfl rfl ?_)
     refine pj Z Z<|nl ?_
     exact Vc.inv1 _ ⟨fun hb=>(by first | omega | cases hb),fun hb=>(by first | (simp only [] at hb;omega) | omega)⟩ (.cons rfl (.cons rfl (.cons rfl (.cons rfl (.cons rfl .nil))))) pulled
 · rintro bb ⟨hb1,hb2⟩
   refine cj Z (fun h18=>?_) (fun h18=>?_)
   · have hlt:=hb1 h18
     refine kj<|wj<|bj<|tj [.p,.p,.p,.p,.p,.p,.p,.e,.e,.p] Z<|mj Z<|mj Z<|mj Z<|uj Z (Pv.asI (8*i) (Pv.mul rfl rfl (by omega)) (by omega))<|uj Z (Pv.asI (8*i) (Pv.convI rfl) (wrap_ult rfl (by show _<2 ^ 64;omega)))<|uj Z (Pv.asI (n0 / 256 ^ i) (Pv.shrN n0 (8*i) rfl rfl (by show _≤64;omega)) (by rw [pow_8]))<|uj Z (Pv.as (.int .u8 ((UInt8.ofNat (n0 / 256 ^ i)).toNat:Int)) (Pv.convI Z) (congrArg (Value.int .u8) (wrap_u8 _)))<|Rg.bslice1 Z Z Z Z Z Z Z (fun b28=>?_)
     refine Rg.append Z Z Z Z Z own (Src.one (y:=UInt8.ofNat (n0 / 256 ^ i)) rfl) (by simp<;>omega) (by simp [maxLen]<;>omega) rfl (fun v29 s29 own29=>?_)
     refine aj Z<|nl<|dj<|tj [.p,.p,.p] Z<|mj Z<|uj Z (Pv.asI (i+1) (Pv.add rfl rfl (by omega)) (by omega))<|aj Z<|nl ?_
     exact Vc.inv3 (i+1) v29 s29 ⟨⟨by omega,by rw [leBytes_snoc,←lx];exact own29⟩,by omega⟩ (.cons rfl (.cons rfl (.cons rfl (.cons rfl .nil)))) pulled
   · have hge:=hb2 h18
     refine Vc.exit Z<|sj [.p,.p] Z<|mj Z<|aj Z<|nl ?_
     exact vr rfl (tz Z) ((by rw [show s=i by omega];exact own)) pulled
structure Sv where
 p:Option Addr
 m:Nat
 c:Nat
 deriving Inhabited
abbrev Sv.v (s:Sv):Value:=.slice s.p s.m s.c
def slE:Enc Sv where
 k:=1
 tid:=40
 cells:=fun s=>[s.v]
 val:=fun s=>s.v
 pos:=by decide
 len:=fun _=>rfl
 one:=fun x v hv=>by simp at hv;subst hv;rfl
 vc:=fun _=>rfl
instance : RowTy Tryz.prog slE 40:=⟨Tryz.sizeOf40,.inr ⟨Tryz.isAgg40,rfl,fun _=>rfl⟩⟩
structure ArgRB (F:Fm) (v:Value) (vs:List Sv) (xss:List (List UInt8)):Prop where
 top:Arg slE F v vs
 len:vs.length=xss.length
 rows:∀i,i<xss.length→Arg byteE F vs[i]!.v xss[i]!
theorem Own.cut0 {α:Type} {E:Enc α} {p:Option Addr} {m c:Nat} {xs:List α} {seg:Hl} (h:Own E (.slice p m c) xs seg):Own E (.slice p 0 c) [] seg:=by
 generalize hv:Value.slice p m c=v at h
 cases h with
 | nil=>cases hv;exact .nil
 | blk b cap _ sp hc hm =>
  cases hv
  have:=Own.blk (E:=E) b c [] (flat E xs++sp) (by rw [ly,flat_length];simp;omega) hm
  have e:rowS E xs sp=rowS E [] (flat E xs++sp):=by unfold rowS;simp [flat]
  rw [e]
  exact this
theorem grow_spec {F:Fm} (m:Nat) (hm:m<1073741824):Spec Tryz.prog 151 #[.slice none 0 0,.int .i64 (m:Int)] F [] fun v s=>Own byteE v [] s:=by
 refine Spec.of (n:=27) (vs:=[.slice none 0 0,.int .i64 (m:Int)]) Tryz.func151 rfl Tryz.ntmps151 rfl ?_
 refine sj [.p] Z<|aj Z<|nl<|wj<|sj [.p,.p] Z<|mj Z<|uj Z (Pv.lss Z Z)<|nl<|cj Z (fun h6=>absurd h6 (by simp only [dt];omega)) (fun h6=>?_)
 refine kj<|wj<|sj [.p,.p,.p,.p,.p,.p,.p,.p] Z<|mj Z<|mj Z<|uj Z (Pv.cap Z)<|mj Z<|uj Z (Pv.lenS Z)<|uj Z (Pv.sub rfl rfl (by omega))<|uj Z (Pv.asI (m) (Pv.sub rfl rfl (by omega)) (by omega))<|aj Z<|nl<|sj [.p,.p] Z<|mj Z<|uj Z (Pv.gtr Z Z) ?_
 refine nl<|cj Z (fun h16=>?_) (fun h16=>?_)
 · refine tj [.p,.p,.p,.p,.p,.e,.p,.p,.p,.p] Z<|mj Z<|mj Z<|uj Z (Pv.cap Z)<|uj Z (Pv.sl (lv:=none) (hv:=some (.int .i64 ((0:Nat):Int))) 0 0 rfl rfl rfl (by omega) (by omega) (by simp))<|mj Z<|Rg.appendZ (E:=byteE) 0 m rfl rfl rfl rfl rfl (Own.nil (E:=byteE)) (by simp;omega) (by rw [show maxLen=9223372036854775807 from rfl];simp;omega) rfl (fun v22 s22 own22=>?_)
   obtain ⟨p22,c22,rfl⟩:=own22.shape
   refine mj Z<|uj Z (Pv.lenS Z)<|uj Z (Pv.slTo (0) rfl rfl (by omega))<|aj Z<|nl<|sj [.p,.p] Z<|mj Z<|aj Z<|nl ?_
   exact vr rfl (tz Z) (own22.cut0) pulled
 · refine kj<|sj [.p,.p] Z<|mj Z<|aj Z<|nl ?_
   exact vr rfl (tz Z) (Own.nil) pulled
theorem flatten_take {xss:List (List UInt8)} {i:Nat} (h:i<xss.length):(xss.take (i+1)).flatten=(xss.take i).flatten++xss[i]! := by
 rw [List.take_succ_eq_append_getElem h,getElem!_pos xss i h,List.flatten_append]
 simp
theorem flatten_le {xss:List (List UInt8)} (i:Nat):(xss.take i).flatten.length≤xss.flatten.length:=by
 have:xss.flatten=(xss.take i).flatten++(xss.drop i).flatten:=by rw [←List.flatten_append,List.take_append_drop]
 rw [this,ly]
 omega
theorem concat_spec {F:Fm} {v:Value} {vs:List Sv} {xss:List (List UInt8)} (ha:ArgRB F v vs xss) (hN:xss.length<1000000) (hT:xss.flatten.length<1073741824) :
 Spec Tryz.prog 144 #[v] F [] fun v s=>Own byteE v xss.flatten s:=by
 obtain ⟨p,c,rfl⟩:=ha.top.shape
 have hl:=ha.len
 have hat:=ha.top
 refine Spec.of (n:=36) (vs:=[.slice p vs.length c]) Tryz.func144 rfl Tryz.ntmps144 rfl ?_
 refine sj [.p] Z<|aj Z<|nl<|sj [.p] Z<|aj Z<|nl<|wj<|sj [.p,.p,.p] Z<|mj Z<|uj Z (Pv.lenS Z)<|mj Z<|nl<|bj ?_
 refine Vc.loop1 (fun (i:Nat)=>i≤vs.length) (fun i=>[(0,.slice p vs.length c),(3,.int .i64 ((xss.take i).flatten.length:Int)),(9,.slice p vs.length c),(10,.int .i64 (vs.length:Int)),(11,.int .i64 (i:Int))]) (fun i=>[]) (fun i=>vs.length-i) 0 (Nat.zero_le _) (.cons Z (.cons Z (.cons Z (.cons Z (.cons Z .nil))))) pulled ?_
 rintro i hi
 have hfl:=flatten_le (xss:=xss) i
 refine sj [.p] Z<|uj Z (Pv.lss Z Z)<|nl<|wj<|cj Z (fun h12=>?_) (fun h12=>?_)
 · simp only [dt] at h12
   obtain ⟨b,off,c1,e,_⟩:=hat.block (by omega)
   cases e
   have hft:=flatten_take (xss:=xss) (i:=i) (by omega)
   have hfl2:=flatten_le (xss:=xss) (i+1)
   have hfll:=congrArg List.length hft
   rw [ly] at hfll
   have hr:=ha.rows i (by omega)
   obtain ⟨⟨pk,mk,ck⟩,hs⟩:∃s,vs[i]! = s:=⟨_,rfl⟩
   rw [hs] at hr
   obtain rfl:mk=xss[i]!.length:=hr.cap.1
   refine kj<|wj<|bj<|sj [.p,.r,.p] Z<|uj Z (Pv.ixA (i) rfl rfl (by omega) (by omega))<|rj Z (Ev.as (.slice pk xss[i]!.length ck) (Ev.ldS (E:=slE) i hat.src rfl rfl rfl (by omega)) (congrArg slE.val hs))<|aj Z<|nl<|sj [.p,.p,.p,.p,.p] Z<|mj Z<|mj Z<|uj Z (Pv.lenS Z)<|uj Z (Pv.asI ((xss.take (i+1)).flatten.length) (Pv.add rfl rfl (by omega)) (by omega))<|aj Z<|nl ?_
   refine sj [.p,.p] Z<|mj Z<|uj Z (Pv.lss Z Z)<|nl<|cj Z (fun h20=>absurd h20 (by simp only [dt];omega)) (fun h20=>?_)
   refine kj<|dj<|tj [.p,.p] Z<|uj Z (Pv.asI (i+1) (Pv.add rfl rfl (by omega)) (by omega))<|mj Z<|nl ?_
   exact Vc.inv1 (i+1) ⟨by omega,by omega⟩ (.cons rfl (.cons rfl (.cons rfl (.cons rfl (.cons rfl .nil))))) pulled
 · simp only [df] at h12
   obtain rfl:i=vs.length:=by omega
   rw [List.take_of_length_le (by omega)] at hfl ⊢
   refine Vc.exit Z<|sj [.p,.e,.p] Z<|mj Z<|Rg.callA Z Z Z (mz Z) (grow_spec xss.flatten.length hT) ?_
   rintro v24 s24 own24
   refine aj Z<|nl<|wj<|sj [.p,.p,.p] Z<|mj Z<|uj Z (Pv.lenS Z)<|mj Z<|nl<|bj ?_
   refine Vc.loop3 (fun (i:Nat) (w:Value) (sg:Hl)=>i≤vs.length∧Own byteE w (xss.take i).flatten sg) (fun i w sg=>[(6,w),(25,.slice p vs.length c),(26,.int .i64 (vs.length:Int)),(27,.int .i64 (i:Int))]) (fun i w sg=>sg) (fun i w sg=>vs.length-i) 0 v24 s24 ⟨Nat.zero_le _,own24⟩ (.cons Z (.cons Z (.cons Z (.cons Z .nil)))) pulled ?_
   rintro i w sg ⟨hi,own⟩
   have hfl:=flatten_le (xss:=xss) i
   refine sj [.p] Z<|uj Z (Pv.lss Z Z)<|nl<|wj<|cj Z (fun h28=>?_) (fun h28=>?_)
   · simp only [dt] at h28
     obtain ⟨b,off,c1,e,_⟩:=hat.block (by omega)
     cases e
     have hft:=flatten_take (xss:=xss) (i:=i) (by omega)
     have hfl2:=flatten_le (xss:=xss) (i+1)
     have hfll:=congrArg List.length hft
     rw [ly] at hfll
     have hr:=ha.rows i (by omega)
     obtain ⟨⟨pk,mk,ck⟩,hs⟩:∃s,vs[i]! = s:=⟨_,rfl⟩
     rw [hs] at hr
     obtain rfl:mk=xss[i]!.length:=hr.cap.1
     refine kj<|wj<|bj<|sj [.p,.r,.p] Z<|uj Z (Pv.ixA (i) rfl rfl (by omega) (by omega))<|rj Z (Ev.as (.slice pk xss[i]!.length ck) (Ev.ldS (E:=slE) i hat.src rfl rfl rfl (by omega)) (congrArg slE.val hs))<|aj Z<|nl<|tj [.p,.p,.e,.p] Z<|mj Z<|mj Z<|Rg.append Z Z Z Z Z own hr.src (by omega) (by rw [show maxLen=9223372036854775807 from rfl];omega) rfl (fun v33 s33 own33=>?_)
     refine aj Z<|nl<|dj<|tj [.p,.p] Z<|uj Z (Pv.asI (i+1) (Pv.add rfl rfl (by omega)) (by omega))<|mj Z<|nl ?_
     exact Vc.inv3 (i+1) v33 s33 ⟨⟨by omega,by rw [hft];exact own33⟩,by omega⟩ (.cons rfl (.cons rfl (.cons rfl (.cons rfl .nil)))) pulled
   · simp only [df] at h28
     rw [List.take_of_length_le (by omega)] at own
     refine Vc.exit Z<|sj [.p,.p] Z<|mj Z<|aj Z<|nl ?_
     exact vr rfl (tz Z) (own) pulled
def hdG (t:List UInt8):List UInt8:=leBytes 2 t.length++t
def encG (t:List UInt8):List UInt8:=hdG t++leBytes 4 (crcG (hdG t))
theorem hdG_length (t:List UInt8):(hdG t).length=t.length+2:=by simp [hdG];omega
theorem encG_length (t:List UInt8):(encG t).length=t.length+6:=by simp [encG,hdG_length]
theorem encode_spec {F:Fm} {v:Value} {t:List UInt8} (ha:Arg byteE F v t) (hN:t.length≤1000) :
 Spec Tryz.prog 131 #[v] F [] fun v s=>∃u,v=.tuple #[u,.int .i64 0]∧Own byteE u (encG t) s:=by
 obtain ⟨p,c,rfl⟩:=ha.shape
 refine Spec.of (n:=20) (vs:=[.slice p t.length c]) Tryz.func131 rfl Tryz.ntmps131 rfl ?_
 have hlt:=crcG_lt (hdG t)
 refine sj [.p,.p] Z<|aj Z<|aj Z<|nl<|wj<|sj [.p,.p,.p] Z<|mj Z<|uj Z (Pv.lenS Z)<|uj Z (Pv.gtr Z Z)<|nl<|cj Z (fun h7=>absurd h7 (by simp only [dt];omega)) (fun h7=>?_)
 refine kj<|sj [.p,.p,.p,.e,.p,.e,.e,.p] Z<|mj Z<|uj Z (Pv.lenS Z)<|uj Z (Pv.asI t.length (Pv.convI rfl) (wrap_ult rfl (by show _<2 ^ 64;omega)))<|Rg.callA Z Z Z (mz Z) (put_spec (Arg.nil (E:=byteE)) (by simp) 2 t.length (by omega)) ?_
 rintro v11 s11 own11
 obtain ⟨p11,c11,rfl⟩:=own11.shape
 refine mj Z<|Rg.bsliceR (E:=slE) (e:=40) (cs:=[.slice p11 _ c11,.slice p t.length c]) [⟨p11,_,c11⟩,⟨p,t.length,c⟩] rfl rfl rfl rfl rfl rfl rfl (by rfl) rfl (by decide) (fun b13 own13=>?_)
 refine Rg.callA Z Z Z (mz Z) (concat_spec (xss:=[[]++leBytes 2 t.length,t]) ⟨Arg.own own13 frz_sb,rfl,fun j hj=>by
  have:j=0∨j=1:=by simp at hj;omega
  rcases this with rfl | rfl
  · exact Arg.own own11 frz_sb
  · exact ha.mono fun b o h=>Or.inr h⟩ (by simp) (by simp;omega)) ?_
 rintro v14 s14 own14
 rw [show ([[]++leBytes 2 t.length,t]:List (List UInt8)).flatten=hdG t by simp [hdG]] at own14
 refine aj Z<|nl<|sj [.p,.p,.e,.p,.e,.p,.p] Z<|mj Z<|mj Z<|Rg.callP Z Z Z (mz Z) (crc_spec (Arg.own own14 frz_sb) (by rw [hdG_length];omega)) ?_
 rintro _ rfl
 refine uj Z (Pv.asI (crcG (hdG t)) (Pv.convI rfl) (wrap_ult rfl (by show _<2 ^ 64;omega)))<|Rg.callA Z Z Z (mz Z) (put_spec (Arg.own own14 frz_sb) (by rw [hdG_length];omega) 4 (crcG (hdG t)) (by omega)) ?_
 rintro v19 s19 own19
 refine aj Z<|aj Z<|nl ?_
 exact vr rfl (.cons (.tmp rfl) (tz Z)) (⟨v19,rfl,own19⟩) pulled
def decG (b:List UInt8):List UInt8×Nat×Nat :=
 if b.length<2 then ([],0,2)
 else if 1000<leNum (b.take 2)∨b.length<leNum (b.take 2)+6 then ([],0,2)
 else if getB b (2+leNum (b.take 2)) 4≠crcG (b.take (2+leNum (b.take 2))) then ([],0,3)
 else ((b.drop 2).take (leNum (b.take 2)),leNum (b.take 2)+6,0)
theorem getB_front (b:List UInt8) (s:Nat):getB b 0 s=leNum (b.take s):=by rw [getB,List.drop_zero]
theorem getB_lt {b:List UInt8} {a:Nat} (h:a+4≤b.length):getB b a 4<2 ^ 32:=by
 have h1:=leNum_lt ((b.drop a).take 4)
 have h2:((b.drop a).take 4).length=4:=by simp;omega
 rw [h2] at h1
 exact h1
theorem num2_lt {b:List UInt8} (h:2≤b.length):leNum (b.take 2)<65536:=by
 have h1:=leNum_lt (b.take 2)
 rwa [show (b.take 2).length=2 by simp;omega] at h1
theorem decode_spec {F:Fm} {v:Value} {b:List UInt8} (ha:Arg byteE F v b) (hN:b.length<1000000) :
 Spec Tryz.prog 106 #[v] F [] fun v s=>∃u,v=.tuple #[u,.int .i64 ((decG b).2.1:Int),.int .i64 ((decG b).2.2:Int)]∧Own byteE u (decG b).1 s:=by
 obtain ⟨p,c,rfl⟩:=ha.shape
 by_cases h2:b.length<2
 · have hd:decG b=([],0,2):=by rw [decG,if_pos h2]
   rw [hd]
   refine Spec.of (n:=50) (vs:=[.slice p b.length c]) Tryz.func106 rfl Tryz.ntmps106 rfl ?_
   refine sj [.p,.p,.p] Z<|aj Z<|aj Z<|aj Z<|nl<|sj [.p,.e,.p,.p,.p,.p,.p] Z<|mj Z<|Rg.callP Z Z Z (mz Z) (get_none (ha.mono fun b o h=>Or.inr h) (by omega) 0 2 (by omega) (by omega) (by omega) (by omega)) ?_
   rintro _ rfl
   refine mj Z<|xj Z Z<|xj Z Z<|aj Z<|aj Z<|nl<|sj [.p,.p,.p,.p] Z<|mj Z<|uj Z (Pv.asI 0 (Pv.convI rfl) (i64_wrap (by omega)))<|uj Z (Pv.asI (2) (Pv.add rfl rfl (by omega)) (by omega))<|aj Z<|nl<|wj<|sj [.p,.p,.p,.p,.p,.p,.p,.p,.p,.p,.p,.p,.p] Z<|mj Z ?_
   refine uj Z (Pv.not Z)<|mj Z<|Rg.split (t:=20) rfl (fun h20=>?_) (fun h20=>absurd h20 (by decide))
   iterate 2 (first | refine Rg.skipP rfl rfl rfl ?_ | refine Rg.skipR rfl rfl rfl ?_ | refine Rg.skipE rfl rfl rfl ?_)
   refine qj Z Z<|mj Z ?_
   iterate 5 (first | refine Rg.skipP rfl rfl rfl ?_ | refine Rg.skipR rfl rfl rfl ?_ | refine Rg.skipE rfl rfl rfl ?_)
   refine qj Z Z<|nl<|cj Z (fun h30=>?_) (fun h30=>absurd h30 (by decide))
   refine sj [.p,.p,.p] Z<|aj Z<|aj Z<|aj Z<|nl ?_
   exact vr rfl (.cons (.tmp rfl) (.cons (.tmp rfl) (tz Z))) (⟨_,rfl,Own.nil⟩) pulled
 · have hn:=num2_lt (b:=b) (by omega)
   obtain ⟨n,hnn⟩:∃n,n=leNum (b.take 2):=⟨_,rfl⟩
   have hd:decG b=if 1000<n∨b.length<n+6 then ([],0,2) else if getB b (2+n) 4≠crcG (b.take (2+n)) then ([],0,3) else ((b.drop 2).take n,n+6,0):=by rw [decG,if_neg h2,hnn]
   have hcap:b.length≤c:=ha.cap.2
   refine Spec.of (n:=50) (vs:=[.slice p b.length c]) Tryz.func106 rfl Tryz.ntmps106 rfl ?_
   refine sj [.p,.p,.p] Z<|aj Z<|aj Z<|aj Z<|nl<|sj [.p,.e,.p,.p,.p,.p,.p] Z<|mj Z<|Rg.callP Z Z Z (mz Z) (get_spec (ha.mono fun b o h=>Or.inr h) (by omega) 0 2 (by omega) (by omega) (by omega)) ?_
   rintro _ rfl
   rw [getB_front,←hnn]
   refine mj Z<|xj Z Z<|xj Z Z<|aj Z<|aj Z<|nl<|sj [.p,.p,.p,.p] Z<|mj Z<|uj Z (Pv.asI n (Pv.convI rfl) (i64_wrap (by omega)))<|uj Z (Pv.asI (2+n) (Pv.add rfl rfl (by omega)) (by omega))<|aj Z<|nl<|wj<|sj [.p,.p,.p,.p,.p,.p,.p,.p,.p,.p,.p,.p,.p] Z<|mj Z ?_
   refine uj Z (Pv.not Z)<|mj Z<|Rg.split (t:=20) rfl (fun h20=>absurd h20 (by decide)) (fun h20=>?_)
   refine mj Z<|uj Z (Pv.gtr Z Z)<|pj Z Z<|mj Z<|Rg.split (t:=24) Z (fun h24=>?_) (fun h24=>?_)
   · simp only [dt] at h24
     iterate 5 (first | refine Rg.skipP rfl rfl rfl ?_ | refine Rg.skipR rfl rfl rfl ?_ | refine Rg.skipE rfl rfl rfl ?_)
     refine qj Z Z<|nl<|cj Z (fun h30=>?_) (fun h30=>absurd h30 (by decide))
     try simp only [] at h30
     have hd1:decG b=([],0,2):=by rw [hd,if_pos (by first | exact .inl (by omega) | exact .inr (by omega))]
     refine sj [.p,.p,.p] Z<|aj Z<|aj Z<|aj Z<|nl ?_
     exact vr rfl (.cons (.tmp rfl) (.cons (.tmp rfl) (tz Z))) (⟨_,by rw [hd1];rfl,by rw [hd1];exact Own.nil⟩) pulled
   · simp only [df] at h24
     refine mj Z<|uj Z (Pv.lenS Z)<|mj Z<|uj Z (Pv.asI (2+n+4) (Pv.add rfl rfl (by omega)) (by omega))<|uj Z (Pv.lss Z Z)<|pj Z Z<|nl<|cj Z (fun h30=>?_) (fun h30=>?_)
     · try simp only [dt] at h30
       have hd1:decG b=([],0,2):=by rw [hd,if_pos (by first | exact .inl (by omega) | exact .inr (by omega))]
       refine sj [.p,.p,.p] Z<|aj Z<|aj Z<|aj Z<|nl ?_
       exact vr rfl (.cons (.tmp rfl) (.cons (.tmp rfl) (tz Z))) (⟨_,by rw [hd1];rfl,by rw [hd1];exact Own.nil⟩) pulled
     · simp only [df] at h30
       have hb4:2+n+4≤b.length:=by omega
       have hg4:=getB_lt hb4
       have hcl:=crcG_lt (b.take (2+n))
       rw [if_neg (by omega)] at hd
       refine kj<|wj<|sj [.p,.p,.e,.p,.p,.p,.p,.p] Z<|mj Z<|mj Z<|Rg.callP Z Z Z (mz Z) (get_spec (ha.mono fun b o h=>Or.inr h) (by omega) (2+n) 4 (by omega) (by omega) (by omega)) ?_
       rintro _ rfl
       refine mj Z<|xj Z Z<|xj Z Z<|aj Z<|aj Z<|nl<|sj [.p,.p,.p,.p,.p,.e,.p] Z<|mj Z<|uj Z (Pv.asI (getB b (2+n) 4) (Pv.convI rfl) (wrap_ult rfl (by show _<2 ^ 32;omega)))<|mj Z<|mj Z<|uj Z (Pv.slTo (2+n) rfl rfl (by omega))<|Rg.callP Z Z Z (mz Z) (crc_spec ((ha.take (k:=2+n) (by omega)).mono fun b o h=>Or.inr h) (by simp;omega)) ?_
       rintro _ rfl
       refine uj Z (Pv.neq Z Z)<|nl<|cj Z (fun h43=>?_) (fun h43=>?_)
       · simp only [bne_iff_ne,ne_eq] at h43
         rw [if_pos (by intro h;exact h43 (by rw [h]))] at hd
         refine sj [.p,.p,.p] Z<|aj Z<|aj Z<|aj Z<|nl ?_
         exact vr rfl (.cons (.tmp rfl) (.cons (.tmp rfl) (tz Z))) (⟨_,by rw [hd];rfl,by rw [hd];exact Own.nil⟩) pulled
       · simp only [bne_eq_false_iff_eq] at h43
         rw [if_neg (by simp only [ne_eq,Classical.not_not];omega)] at hd
         refine kj<|sj [.p,.p,.p,.e,.p,.p,.p,.p,.p] Z<|mj Z<|mj Z<|uj Z (Pv.sl (lv:=some (.int .i64 ((2:Nat):Int))) (hv:=some (.int .i64 ((2+n:Nat):Int))) 2 (2+n) rfl rfl rfl (by omega) (by omega) (by simp))<|Rg.callA Z Z Z (mz Z) (clone_spec (((ha.from (i:=2) (by omega)).take (k:=2+n-2) (by simp;omega)).mono fun b o h=>Or.inr h) (by simp;omega)) ?_
         rintro v47 s47 own47
         rw [show 2+n-2=n by omega] at own47
         refine mj Z<|uj Z (Pv.asI (n+6) (Pv.add rfl rfl (by omega)) (by omega))<|aj Z<|aj Z<|aj Z<|nl ?_
         exact vr rfl (.cons (.tmp rfl) (.cons (.tmp rfl) (tz Z))) (⟨v47,by rw [hd];rfl,by rw [hd];exact own47⟩) pulled
abbrev recV (r:Rc):Value:=.agg #[.int .u64 r.key,.int .u64 r.val]
abbrev recC (r:Rc):List Value:=[.int .u64 r.key,.int .u64 r.val]
def recE:Enc Rc where
 k:=2
 tid:=293
 cells:=recC
 val:=recV
 pos:=by decide
 len:=fun _=>rfl
 one:=fun x v hv=>by simp [recC] at hv;rcases hv with rfl | rfl<;>rfl
 vc:=fun _=>rfl
instance : RowTy Tryz.prog recE 293:=⟨Tryz.sizeOf293,.inl ⟨Tryz.isAgg293,fun _=>rfl⟩⟩
instance : TySl Tryz.prog 289 recE 16:=⟨Tryz.underlying289,Tryz.t293,.agg #[.int .u64 0,.int .u64 0],by kernel_rfl,by kernel_rfl,rfl,rfl,rfl⟩
theorem before_spec (a b:Rc) (F:Fm):Spec Tryz.prog 294 #[recV a,recV b] F [] fun v _=>v=.bool (ltR a b):=by
 refine Spec.of (n:=24) (vs:=[recV a,recV b]) Tryz.func294 rfl Tryz.ntmps294 rfl ?_
 refine sj [.e,.e,.p] Z<|Rg.box Z Z Z Z Z (fun b2=>?_)
 refine Rg.box Z Z Z Z Z (fun b3=>?_)
 refine aj Z<|nl<|sj [.p,.r,.p,.r,.p,.p,.p,.r,.p,.r,.p,.p,.p,.r,.p,.r,.p,.p,.p,.p] Z<|fj Z<|lj Z Z<|fj Z<|lj Z Z<|uj Z (Pv.lss Z Z)<|mj Z ?_
 refine Rg.split (t:=10) Z (fun h10=>?_) (fun h10=>?_)
 · iterate 12 (first | refine Rg.skipP rfl rfl rfl ?_ | refine Rg.skipR rfl rfl rfl ?_ | refine Rg.skipE rfl rfl rfl ?_)
   refine qj Z Z<|aj Z<|nl<|vz Z (tz Z) ?_
   exact congrArg Value.bool (by simp [ltR, *])
 · refine fj Z<|lj Z Z<|fj Z<|lj Z Z<|uj Z (Pv.eql Z Z)<|mj Z ?_
   refine Rg.split (t:=16) Z (fun h16=>?_) (fun h16=>?_)
   · refine fj Z<|lj Z Z<|fj Z<|lj Z Z<|uj Z (Pv.lss Z Z)<|qj Z Z<|pj Z Z<|aj Z<|nl<|vz Z (tz Z) ?_
     exact congrArg Value.bool (by simp [ltR, *])
   · iterate 5 (first | refine Rg.skipP rfl rfl rfl ?_ | refine Rg.skipR rfl rfl rfl ?_ | refine Rg.skipE rfl rfl rfl ?_)
     refine pj Z Z<|pj Z Z<|aj Z<|nl<|vz Z (tz Z) ?_
     exact congrArg Value.bool (by simp [ltR, *])
theorem eq_rec (x y:Rc) (w:World):(Op.equal 293 (recV x) (recV y)).run Tryz.prog w=.ok (decide (x=y)) w:=by
 have h1:∀d a b w,(Op.equalIn (d+1) 36 (.int .u64 a) (.int .u64 b)).run Tryz.prog w=.ok (a==b) w:=fun d a b w=>by
  simp [Op.equalIn]
 have key:∀d,(Op.equalIn (d+2) 293 (recV x) (recV y)).run Tryz.prog w=.ok (decide (x=y)) w:=fun d=>by
  rw [run_equalIn_struct w (d+1) 293 _ _ (by kernel_rfl) Tryz.stoodInHeld293]
  have hf : (Tryz.prog.fieldsOf 293).toList = [⟨ "Key", 36, 0, false, "", "", 0⟩, ⟨ "Val", 36, 1, false, "", "", 8⟩] := by kernel_rfl
  rw [hf]
  simp [Op.eqFields,part,h1]
  cases x;cases y
  simp only [Rc.mk.injEq]
  split<;>simp_all
  split<;>simp_all
 exact key 9998
instance : TyEqE Tryz.prog 293 recE:=⟨fun x=>⟨_,rfl⟩,Tryz.eqGuardType293,eq_rec⟩
theorem putL_length (xs:List Rc) (r:Rc):(putL xs r).length=xs.length+1:=by rw [putL,putDown_length];simp
theorem foldl_length:∀(l acc:List Rc),(l.foldl putL acc).length=acc.length+l.length
 | [],acc=>by simp
 | x::l,acc=>by rw [List.foldl_cons,foldl_length l,putL_length,List.length_cons];omega
theorem sortL_length (l:List Rc):(sortL l).length=l.length:=by rw [sortL,foldl_length];simp
theorem take_get {α:Type} [Inhabited α] (xs:List α) {i:Nat} (h:i<xs.length):xs.take (i+1)=xs.take i++[xs[i]!] :=
 (take_snoc (by rw [getElem!_pos xs i h];exact List.getElem?_eq_getElem h)).symm
end Go.Proofs.YtkpiakgmkpbikaaGreatDoor
namespace Go.Proofs.YtkpiakgmkpbikaaGreatDoor.SH
structure Sr where
 key:Int
 val:Int
 run:Option Addr
 deriving Inhabited,DecidableEq
def ltR (a b:Sr):Bool:=decide (a.key<b.key)||(a.key==b.key&&decide (a.val<b.val))
def leastI (xs:List Sr) (i:Nat):Int:=if xs.length≤2*i+1 then -1 else if 2*i+2<xs.length∧ltR xs[2*i+2]! xs[2*i+1]! = true then ((2*i+2:Nat):Int) else ((2*i+1:Nat):Int)
def siftUp (x:Sr) (xs:List Sr) (i:Nat):List Sr :=
 if h:0<i∧ltR x xs[(i-1) / 2]! = true then siftUp x (xs.set i xs[(i-1) / 2]!) ((i-1) / 2) else xs.set i x
termination_by i
decreasing_by omega
theorem siftUp_go {x:Sr} {xs:List Sr} {i:Nat} (h0:0<i) (h:ltR x xs[(i-1) / 2]! = true):siftUp x xs i=siftUp x (xs.set i xs[(i-1) / 2]!) ((i-1) / 2):=by
 rw [siftUp,dif_pos ⟨h0,h⟩]
theorem siftUp_stop {x:Sr} {xs:List Sr} {i:Nat} (h : ¬(0<i∧ltR x xs[(i-1) / 2]! = true)):siftUp x xs i=xs.set i x:=by
 rw [siftUp,dif_neg h]
def siftDown (x:Sr) (xs:List Sr) (i:Nat):List Sr :=
 if h:0≤leastI xs i∧ltR xs[(leastI xs i).toNat]! x=true then siftDown x (xs.set i xs[(leastI xs i).toNat]!) (leastI xs i).toNat else xs.set i x
termination_by xs.length-i
decreasing_by
 have:=h.1
 unfold leastI at this ⊢
 simp only [List.length_set]
 split at this
 · omega
 · rename_i h1
   rw [if_neg h1]
   split<;>omega
theorem leastI_lt {xs:List Sr} {i:Nat} (h:0≤leastI xs i):i<(leastI xs i).toNat∧(leastI xs i).toNat<xs.length:=by
 unfold leastI at h ⊢
 split at h
 · omega
 · rename_i h1
   rw [if_neg h1]
   split<;>omega
theorem siftDown_go {x:Sr} {xs:List Sr} {i:Nat} (h0:0≤leastI xs i) (h:ltR xs[(leastI xs i).toNat]! x=true):siftDown x xs i=siftDown x (xs.set i xs[(leastI xs i).toNat]!) (leastI xs i).toNat:=by
 rw [siftDown,dif_pos ⟨h0,h⟩]
theorem siftDown_stop {x:Sr} {xs:List Sr} {i:Nat} (h : ¬(0≤leastI xs i∧ltR xs[(leastI xs i).toNat]! x=true)):siftDown x xs i=xs.set i x:=by
 rw [siftDown,dif_neg h]
def popL (xs:List Sr):List Sr:=if xs.length≤1 then [] else siftDown xs[xs.length-1]! (xs.take (xs.length-1)) 0
theorem ltR_iff {a b:Sr}:ltR a b=true↔a.key<b.key∨(a.key=b.key∧a.val<b.val):=by simp [ltR]
theorem ltR_asymm {a b:Sr} (h:ltR a b=true):ltR b a=false:=by
 cases h2:ltR b a with
 | false=>rfl
 | true=>rw [ltR_iff] at h h2;omega
theorem ltR_trans {a b c:Sr} (h:ltR a b=true) (h2:ltR b c=true):ltR a c=true:=by
 rw [ltR_iff] at *; omega
theorem geR_trans {a b c:Sr} (h:ltR a b=false) (h2:ltR b c=false):ltR a c=false:=by
 cases h3:ltR a c with
 | false=>rfl
 | true =>
  rw [←Bool.not_eq_true,ltR_iff] at h h2
  rw [ltR_iff] at h3
  omega
theorem geR_lt {a b c:Sr} (h:ltR a c=false) (h2:ltR b c=true):ltR a b=false:=by
 cases h3:ltR a b with
 | false=>rfl
 | true=>rw [ltR_trans h3 h2] at h;cases h
theorem ltR_irrefl (a:Sr):ltR a a=false:=by
 cases h:ltR a a with
 | false=>rfl
 | true=>rw [ltR_iff] at h;omega
theorem get_set (l:List Sr) (i j:Nat) (x:Sr):(l.set i x)[j]! = if i=j∧j<l.length then x else l[j]! := by
 by_cases hj:j<l.length
 · rw [getElem!_pos _ j (by simpa using hj),List.getElem_set,getElem!_pos l j hj]
   by_cases hij:i=j<;>simp [hij,hj]
 · rw [getElem!_neg _ j (by simpa using hj),if_neg (fun h=>hj h.2),getElem!_neg l j hj]
theorem perm_swap (l:List Sr) (i p:Nat) (x:Sr) (hi:i<l.length) (hp:p<l.length) (hne:i≠p):((l.set i l[p]!).set p x).Perm (l.set i x):=by
 rw [List.perm_iff_count]
 intro a
 have h1:(l.set i l[p]!)[p]! = l[p]! := by rw [get_set,if_neg (fun h=>hne h.1)]
 have hc:∀(m:List Sr) (j:Nat) (y:Sr),j<m.length→(m.set j y).count a+(if m[j]! = a then 1 else 0)=m.count a+(if y=a then 1 else 0):=by
  intro m j y hj
  induction m generalizing j with
  | nil=>simp at hj
  | cons z m ih =>
   cases j with
   | zero =>
    simp only [List.set_cons_zero,List.count_cons]
    have hz:(z::m)[0]! = z:=rfl
    rw [hz]
    simp only [beq_iff_eq]
    omega
   | succ j =>
    simp only [List.set_cons_succ,List.count_cons]
    have:=ih j (by simpa using hj)
    have hz:(z::m)[j+1]! = m[j]! := by simp
    rw [hz]
    omega
 have e1:=hc (l.set i l[p]!) p x (by simpa using hp)
 have e2:=hc l i l[p]! hi
 have e3:=hc l i x hi
 rw [h1] at e1
 omega
theorem siftUp_length (x:Sr):∀(i:Nat) (ys:List Sr),(siftUp x ys i).length=ys.length:=by
 intro i
 induction i using Nat.strongRecOn with
 | _ i ih =>
  intro ys
  by_cases h:0<i∧ltR x ys[(i-1) / 2]! = true
  · rw [siftUp_go h.1 h.2,ih _ (by omega)];simp
  · rw [siftUp_stop h];simp
theorem siftUp_perm (x:Sr):∀(i:Nat) (ys:List Sr),i<ys.length→(siftUp x ys i).Perm (ys.set i x):=by
 intro i
 induction i using Nat.strongRecOn with
 | _ i ih =>
  intro ys hi
  by_cases h:0<i∧ltR x ys[(i-1) / 2]! = true
  · rw [siftUp_go h.1 h.2]
    exact (ih _ (by omega) _ (by simp;omega)).trans (perm_swap ys i ((i-1) / 2) x hi (by omega) (by omega))
  · rw [siftUp_stop h]
def HeapOK (xs:List Sr):Prop:=∀j,0<j→j<xs.length→ltR xs[j]! xs[(j-1) / 2]! = false
theorem siftUp_ok (x:Sr):∀(i:Nat) (ys:List Sr),i<ys.length →
 (∀j,0<j→j<ys.length→j≠i→ltR (ys.set i x)[j]! (ys.set i x)[(j-1) / 2]! = false) →
 (∀j,0<j→j<ys.length→(j-1) / 2=i→0<i→ltR (ys.set i x)[j]! (ys.set i x)[(i-1) / 2]! = false)→HeapOK (siftUp x ys i):=by
 intro i
 induction i using Nat.strongRecOn with
 | _ i ih =>
  intro ys hi h1 h2
  by_cases h:0<i∧ltR x ys[(i-1) / 2]! = true
  · rw [siftUp_go h.1 h.2]
    obtain ⟨h0,hx⟩:=h
    have hp:(i-1) / 2<ys.length:=by omega
    have hpi:(i-1) / 2<i:=by omega
    generalize hP:ys[(i-1) / 2]! = Q at hx
    have hi0:(ys.set i x)[i]! = x:=by rw [get_set,if_pos ⟨rfl,hi⟩]
    have hne:∀j,j≠i→(ys.set i x)[j]! = ys[j]! := fun j hj=>by rw [get_set,if_neg (fun h=>hj h.1.symm)]
    have zi:∀j,j<ys.length→((ys.set i Q).set ((i-1) / 2) x)[j]! = if j=(i-1) / 2 then x else if j=i then Q else ys[j]! := fun j hj=>by
     rw [get_set,get_set,List.length_set]
     by_cases a:j=(i-1) / 2
     · rw [if_pos ⟨a.symm,hj⟩,if_pos a]
     · rw [if_neg (fun h=>a h.1.symm),if_neg a]
       by_cases b:j=i
       · rw [if_pos ⟨b.symm,hj⟩,if_pos b]
       · rw [if_neg (fun h=>b h.1.symm),if_neg b]
    refine ih _ hpi _ (by simpa using hp) ?_ ?_
    · intro j hj0 hj hjp
      rw [List.length_set] at hj
      rw [zi j hj,zi ((j-1) / 2) (by omega),if_neg hjp]
      by_cases a:j=i
      · subst a
        rw [if_pos rfl,if_pos rfl]
        exact ltR_asymm hx
      · rw [if_neg a]
        have hj1:=h1 j hj0 hj a
        rw [hne j a] at hj1
        by_cases b:(j-1) / 2=(i-1) / 2
        · rw [if_pos b]
          rw [hne _ (by omega),b,hP] at hj1
          exact geR_lt hj1 hx
        · rw [if_neg b]
          by_cases c:(j-1) / 2=i
          · rw [if_pos c]
            have:=h2 j hj0 hj c h0
            rwa [hne j a,hne _ (by omega),hP] at this
          · rw [if_neg c]
            rwa [hne _ c] at hj1
    · intro j hj0 hj hjp hp0
      rw [List.length_set] at hj
      rw [zi j hj,zi (((i-1) / 2-1) / 2) (by omega),if_neg (show ¬j=(i-1) / 2 by omega),if_neg (show ¬((i-1) / 2-1) / 2=(i-1) / 2 by omega),if_neg (show ¬((i-1) / 2-1) / 2=i by omega)]
      have hq:=h1 ((i-1) / 2) hp0 hp (by omega)
      rw [hne _ (by omega),hne _ (by omega),hP] at hq
      by_cases a:j=i
      · rw [if_pos a];exact hq
      · rw [if_neg a]
        have hj1:=h1 j hj0 hj a
        rw [hne j a,hne _ (by omega),hjp,hP] at hj1
        exact geR_trans hj1 hq
  · rw [siftUp_stop h]
    intro j hj0 hj
    rw [List.length_set] at hj
    by_cases a:j=i
    · subst a
      rw [get_set,if_pos ⟨rfl,hj⟩,get_set,if_neg (by omega)]
      cases hq:ltR x ys[(j-1) / 2]! with
      | false=>rfl
      | true=>exact (h ⟨hj0,hq⟩).elim
    · exact h1 j hj0 hj a
theorem get_app (xs:List Sr) (x:Sr) (j:Nat) (hj:j<xs.length):(xs++[x])[j]! = xs[j]! := by
 rw [getElem!_pos _ j (by simp;omega),getElem!_pos xs j hj,List.getElem_append_left hj]
theorem set_app (xs:List Sr) (x y:Sr):(xs++[x]).set xs.length y=xs++[y]:=by
 rw [List.set_append_right _ _ (Nat.le_refl _)];simp
theorem push_perm (xs:List Sr) (x:Sr):(siftUp x (xs++[x]) xs.length).Perm (x::xs):=by
 have:=siftUp_perm x xs.length (xs++[x]) (by simp)
 rw [set_app] at this
 exact this.trans (List.perm_append_comm (l₁:=xs) (l₂:=[x]))
theorem push_ok {xs:List Sr} (h:HeapOK xs) (x:Sr):HeapOK (siftUp x (xs++[x]) xs.length):=by
 refine siftUp_ok x _ _ (by simp) ?_ ?_
 · intro j hj0 hj hne
   rw [set_app]
   have hj':j<xs.length:=by simp at hj;omega
   rw [get_app xs x j hj',get_app xs x _ (by omega)]
   exact h j hj0 hj'
 · intro j hj0 hj hp hi
   simp at hj
   omega
theorem siftDown_perm (x:Sr):∀(d i:Nat) (ys:List Sr),ys.length-i=d→i<ys.length→(siftDown x ys i).Perm (ys.set i x):=by
 intro d
 induction d using Nat.strongRecOn with
 | _ d ih =>
  intro i ys hd hi
  by_cases h:0≤leastI ys i∧ltR ys[(leastI ys i).toNat]! x=true
  · rw [siftDown_go h.1 h.2]
    obtain ⟨h1,h2⟩:=leastI_lt h.1
    exact (ih _ (by simp;omega) _ _ rfl (by simpa using h2)).trans (perm_swap ys i _ x hi h2 (by omega))
  · rw [siftDown_stop h]
theorem leastI_spec {ys:List Sr} {i k:Nat} (h:leastI ys i=(k:Int)):(k-1) / 2=i∧0<k∧k<ys.length∧∀j,0<j→j<ys.length→(j-1) / 2=i→ltR ys[j]! ys[k]! = false:=by
 unfold leastI at h
 split at h
 · omega
 · rename_i h1
   split at h
   · rename_i h2
     have hk:k=2*i+2:=by omega
     subst hk
     refine ⟨by omega,by omega,h2.1,fun j hj0 hj hp=>?_⟩
     have:j=2*i+1∨j=2*i+2:=by omega
     rcases this with rfl | rfl
     · exact ltR_asymm h2.2
     · exact ltR_irrefl _
   · rename_i h2
     have hk:k=2*i+1:=by omega
     subst hk
     refine ⟨by omega,by omega,by omega,fun j hj0 hj hp=>?_⟩
     have:j=2*i+1∨j=2*i+2:=by omega
     rcases this with rfl | rfl
     · exact ltR_irrefl _
     · cases hq:ltR ys[2*i+2]! ys[2*i+1]! with
       | false=>rfl
       | true=>exact (h2 ⟨hj,hq⟩).elim
theorem leastI_neg {ys:List Sr} {i:Nat} (h : ¬0≤leastI ys i):ys.length≤2*i+1:=by
 unfold leastI at h
 split at h
 · assumption
 · split at h<;>omega
theorem siftDown_ok (x:Sr):∀(d i:Nat) (ys:List Sr),ys.length-i=d→i<ys.length →
 (∀j,0<j→j<ys.length→(j-1) / 2≠i→ltR (ys.set i x)[j]! (ys.set i x)[(j-1) / 2]! = false) →
 (∀j,0<j→j<ys.length→(j-1) / 2=i→0<i→ltR (ys.set i x)[j]! (ys.set i x)[(i-1) / 2]! = false)→HeapOK (siftDown x ys i):=by
 intro d
 induction d using Nat.strongRecOn with
 | _ d ih =>
  intro i ys hd hi h1 h2
  have hi0:(ys.set i x)[i]! = x:=by rw [get_set,if_pos ⟨rfl,hi⟩]
  have hne:∀j,j≠i→(ys.set i x)[j]! = ys[j]! := fun j hj=>by rw [get_set,if_neg (fun h=>hj h.1.symm)]
  by_cases h:0≤leastI ys i∧ltR ys[(leastI ys i).toNat]! x=true
  · rw [siftDown_go h.1 h.2]
    obtain ⟨h0,hx⟩:=h
    obtain ⟨k,hk⟩:=Int.eq_ofNat_of_zero_le h0
    rw [hk,Int.toNat_natCast] at hx ⊢
    obtain ⟨k1,k2,k3,k4⟩:=leastI_spec hk
    generalize hP:ys[k]! = Q at hx k4
    have zi:∀j,j<ys.length→((ys.set i Q).set k x)[j]! = if j=k then x else if j=i then Q else ys[j]! := fun j hj=>by
     rw [get_set,get_set,List.length_set]
     by_cases a:j=k
     · rw [if_pos ⟨a.symm,hj⟩,if_pos a]
     · rw [if_neg (fun h=>a h.1.symm),if_neg a]
       by_cases b:j=i
       · rw [if_pos ⟨b.symm,hj⟩,if_pos b]
       · rw [if_neg (fun h=>b h.1.symm),if_neg b]
    refine ih _ (by simp;omega) k _ rfl (by simpa using k3) ?_ ?_
    · intro j hj0 hj hjp
      rw [List.length_set] at hj
      rw [zi j hj,zi ((j-1) / 2) (by omega),if_neg hjp]
      by_cases a:j=k
      · subst a
        rw [if_pos rfl,if_pos k1]
        exact ltR_asymm hx
      · rw [if_neg a]
        by_cases b:(j-1) / 2=i
        · rw [if_pos b,if_neg (by omega)]
          exact k4 j hj0 hj b
        · rw [if_neg b]
          have hj1:=h1 j hj0 hj b
          rw [hne _ b] at hj1
          by_cases c:j=i
          · subst c
            rw [if_pos rfl]
            have:=h2 k k2 k3 k1 hj0
            rwa [hne k (by omega),hne _ b,hP] at this
          · rw [if_neg c]
            rwa [hne j c] at hj1
    · intro j hj0 hj hjp hk0
      rw [List.length_set] at hj
      rw [zi j hj,zi _ (by omega),if_neg (by omega),if_neg (by omega),if_neg (by omega),if_pos k1]
      have:=h1 j hj0 hj (by omega)
      rwa [hne j (by omega),hjp,hne k (by omega),hP] at this
  · rw [siftDown_stop h]
    intro j hj0 hj
    rw [List.length_set] at hj
    by_cases a:(j-1) / 2=i
    · rw [a,hi0,hne j (by omega)]
      by_cases h0:0≤leastI ys i
      · obtain ⟨k,hk⟩:=Int.eq_ofNat_of_zero_le h0
        obtain ⟨_,_,_,k4⟩:=leastI_spec hk
        have:=k4 j hj0 hj a
        refine geR_trans this ?_
        cases hq:ltR ys[k]! x with
        | false=>rfl
        | true=>exact (h ⟨h0,by rw [hk,Int.toNat_natCast];exact hq⟩).elim
      · have:=leastI_neg h0
        omega
    · exact h1 j hj0 hj a
theorem get_take (xs:List Sr) (n j:Nat) (hj:j<n) (hn:n≤xs.length):(xs.take n)[j]! = xs[j]! := by
 rw [getElem!_pos _ j (by simp;omega),getElem!_pos xs j (by omega),List.getElem_take]
theorem pop_perm (xs:List Sr) (h0:0<xs.length):xs.Perm (xs[0]! :: popL xs):=by
 unfold popL
 by_cases h1:xs.length≤1
 · rw [if_pos h1]
   have:xs=[xs[0]!]:=by
    rcases xs with _ | ⟨a,_ | ⟨b,l⟩⟩
    · simp at h0
    · rfl
    · simp at h1
   rw [←this]
 · rw [if_neg h1]
   have hl:(xs.take (xs.length-1)).length=xs.length-1:=by simp
   have hp:=siftDown_perm xs[xs.length-1]! _ 0 (xs.take (xs.length-1)) rfl (by omega)
   have e1:xs=xs.take (xs.length-1)++[xs[xs.length-1]!]:=by
    conv=>lhs;rw [←List.take_append_drop (xs.length-1) xs]
    congr 1
    rw [List.drop_eq_getElem_cons (by omega),getElem!_pos xs _ (by omega),List.drop_eq_nil_of_le (by omega)]
   have e2:(xs.take (xs.length-1)).set 0 xs[xs.length-1]! = xs[xs.length-1]! :: (xs.take (xs.length-1)).drop 1:=by
    cases ht:xs.take (xs.length-1) with
    | nil=>rw [ht,List.length_nil] at hl;omega
    | cons a l=>rfl
   have e3:xs.take (xs.length-1)=xs[0]! :: (xs.take (xs.length-1)).drop 1:=by
    cases ht:xs.take (xs.length-1) with
    | nil=>rw [ht,List.length_nil] at hl;omega
    | cons a l =>
     have:(xs.take (xs.length-1))[0]! = xs[0]! := get_take xs _ 0 (by omega) (by omega)
     rw [ht] at this
     have h2:(a::l)[0]! = a:=rfl
     rw [h2] at this
     rw [this];rfl
   rw [e2] at hp
   have h4:xs.Perm (xs[0]! :: ((xs.take (xs.length-1)).drop 1++[xs[xs.length-1]!])):=by
    have h5:=List.Perm.refl xs
    rw [e1,e3] at h5
    rw [←List.cons_append,←e3]
    rw [←e1]
   exact h4.trans ((List.perm_append_comm.trans hp.symm).cons _)
theorem pop_ok {xs:List Sr} (h:HeapOK xs):HeapOK (popL xs):=by
 unfold popL
 by_cases h1:xs.length≤1
 · rw [if_pos h1];intro j hj0 hj;simp at hj
 · rw [if_neg h1]
   have hl:(xs.take (xs.length-1)).length=xs.length-1:=by simp
   refine siftDown_ok _ _ 0 _ rfl (by omega) ?_ ?_
   · intro j hj0 hj hp
     rw [hl] at hj
     rw [get_set,if_neg (by omega),get_set,if_neg (by omega),get_take xs _ _ hj (by omega),get_take xs _ _ (by omega) (by omega)]
     exact h j hj0 (by omega)
   · intro j hj0 hj hp hi;omega
theorem heap_first {xs:List Sr} (h:HeapOK xs):∀j,j<xs.length→ltR xs[j]! xs[0]! = false:=by
 intro j
 induction j using Nat.strongRecOn with
 | _ j ih =>
  intro hj
  by_cases h0:j=0
  · subst h0;exact ltR_irrefl _
  · exact geR_trans (h j (by omega) hj) (ih ((j-1) / 2) (by omega) (by omega))
theorem heap_le {xs:List Sr} (h:HeapOK xs) {a:Sr} (ha:a∈xs):ltR a xs[0]! = false:=by
 obtain ⟨j,hj,rfl⟩:=List.getElem_of_mem ha
 have:=heap_first h j hj
 rwa [getElem!_pos xs j hj] at this
end Go.Proofs.YtkpiakgmkpbikaaGreatDoor.SH
namespace Go.Proofs.YtkpiakgmkpbikaaGreatDoor.SH
abbrev headC (r:Sr):List Value:=[.int .u64 r.key,.int .u64 r.val,.pointer r.run]
abbrev headV (r:Sr):Value:=.agg #[.int .u64 r.key,.int .u64 r.val,.pointer r.run]
def headE:Enc Sr where
 k:=3
 tid:=374
 cells:=headC
 val:=headV
 pos:=by decide
 len:=fun _=>rfl
 one:=fun x v hv=>by simp [headC] at hv;rcases hv with rfl | rfl | rfl<;>rfl
 vc:=fun _=>rfl
instance : RowTy Tryz.prog headE 374:=⟨Tryz.sizeOf374,.inl ⟨Tryz.isAgg374,fun _=>rfl⟩⟩
instance : TySl Tryz.prog 369 headE 24:=⟨Tryz.underlying369,Tryz.t374,.agg #[.int .u64 0,.int .u64 0,.pointer none],by kernel_rfl,by kernel_rfl,rfl,rfl,rfl⟩
theorem before_spec (a b:Sr) (F:Fm):Spec Tryz.prog 312 #[headV a,headV b] F [] fun v _=>v=.bool (ltR a b):=by
 refine Spec.of (n:=10) (vs:=[headV a,headV b]) Tryz.func312 rfl Tryz.ntmps312 rfl ?_
 refine sj [.e,.e,.p] Z<|Rg.box Z Z Z Z Z (fun b2=>?_)
 refine Rg.box Z Z Z Z Z (fun b3=>?_)
 refine aj Z<|nl<|sj [.p,.r,.p,.r,.e,.p] Z<|fj Z<|rj Z (Ev.as (recV ⟨a.key,a.val⟩) (Ev.ldA Z Z) Z)<|fj Z<|rj Z (Ev.as (recV ⟨b.key,b.val⟩) (Ev.ldA Z Z) Z) ?_
 refine Rg.callP Z Z Z (mz Z) (Go.Proofs.YtkpiakgmkpbikaaGreatDoor.before_spec _ _ _) ?_
 rintro _ rfl
 refine aj Z<|nl<|vz Z (tz Z) ?_
 exact congrArg Value.bool rfl
theorem least_spec (F:Fm) (hb b cap m:Nat) (xs:List Sr) (sp:List Value) (i:Nat) (hm:m=xs.length) (hi:i<1152921504606846976) (hn:xs.length<1152921504606846976)
 [h1:Fat F hb (cellsO [.slice (some ⟨b,0,none⟩) m cap] 371)] [h2:Fat F b (rowS headE xs sp)] :
 Spec Tryz.prog 288 #[.pointer (some ⟨hb,0,none⟩),.int .i64 (i:Int)] F [] fun v _=>v=.int .i64 (leastI xs i):=by
 refine Spec.of (n:=46) (vs:=[.pointer (some ⟨hb,0,none⟩),.int .i64 (i:Int)]) Tryz.func288 rfl Tryz.ntmps288 rfl ?_
 refine sj [.p] Z<|aj Z<|nl<|sj [.p,.p,.p,.p] Z<|mj Z<|uj Z (Pv.mul rfl rfl (by omega))<|uj Z (Pv.add rfl rfl (by omega))<|aj Z<|nl<|wj<|sj [.p,.p,.p,.p,.r,.p,.p] Z<|mj Z<|mj Z<|nj Z<|fj Z ?_
 refine lj Z Z<|uj Z (Pv.lenS Z)<|uj Z (Pv.geq Z Z)<|nl<|cj Z (fun h15=>?_) (fun h15=>?_)
 · simp only [dt] at h15
   refine sj [.p] Z<|aj Z<|nl<|vz Z (tz Z) ?_
   exact congrArg (Value.int .i64) (by rw [leastI,if_pos (by omega)])
 · simp only [df] at h15
   refine kj<|wj<|wj ?_
   refine Vc.draw [] (sd [(0,.pure),(1,.pure),(2,.pure),(3,.pure),(4,.pure),(5,.read),(6,.pure),(7,.pure),(8,.pure),(9,.pure),(10,.pure),(11,.pure),(12,.read),(13,.pure),(14,.pure),(15,.pure),(16,.read),(17,.pure),(18,.pure),(19,.pure),(20,.pure),(21,.read),(22,.pure),(23,.pure),(24,.read),(25,.eff),(26,.pure)]) mixed (by kernel_rfl)<|mj Z<|uj Z (Pv.add rfl rfl (by omega))<|mj Z<|nj Z<|fj Z<|lj Z Z<|uj Z (Pv.lenS Z)<|uj Z (Pv.lss Z Z)<|mj Z ?_
   refine Rg.split (t:=24) Z (fun h24=>?_) (fun h24=>?_)
   · simp only [dt] at h24
     refine mj Z<|nj Z<|fj Z<|lj Z Z<|mj Z<|uj Z (Pv.add rfl rfl (by omega))<|uj Z (Pv.ixA (2*i+2) rfl rfl (by omega) (by omega))<|rj Z (Ev.ldR (2*i+2) rfl (Nat.zero_add _) (by omega))<|uj Z (Pv.mkI Z)<|mj Z<|nj Z<|fj Z<|lj Z Z<|mj Z<|uj Z (Pv.ixA (2*i+1) rfl rfl (by omega) (by omega)) ?_
     refine rj Z (Ev.ldR (2*i+1) rfl (Nat.zero_add _) (by omega))<|Rg.callP Z Z Z (run_callI Z Z) (before_spec _ _ _) ?_
     rintro _ rfl
     refine qj Z Z<|nl<|cj Z (fun h42=>?_) (fun h42=>?_)
     · refine tj [.p,.p,.p] Z<|mj Z<|uj Z (Pv.add rfl rfl (by omega))<|aj Z<|nl<|sj [.p,.p] Z<|mj Z<|aj Z<|nl<|vz Z (tz Z) ?_
       exact congrArg (Value.int .i64) (by rw [leastI,if_neg (by omega),if_pos ⟨by omega,h42⟩];omega)
     · refine kj<|sj [.p,.p] Z<|mj Z<|aj Z<|nl<|vz Z (tz Z) ?_
       exact congrArg (Value.int .i64) (by rw [leastI,if_neg (by omega),if_neg (fun hh=>by rw [h42] at hh;cases hh.2)];omega)
   · simp only [df] at h24
     iterate 17 (first | refine Rg.skipP rfl rfl rfl ?_ | refine Rg.skipR rfl rfl rfl ?_ | refine Rg.skipE rfl rfl rfl ?_)
     refine pj Z Z<|nl<|Vc.condF Z<|kj<|sj [.p,.p] Z<|mj Z<|aj Z<|nl<|vz Z (tz Z) ?_
     exact congrArg (Value.int .i64) (by rw [leastI,if_neg (by omega),if_neg (by omega)];omega)
def HeapAt (hb:Nat) (xs:List Sr) (hl:Hl):Prop:=∃v seg,Own headE v xs seg∧hl=(hb,cellsO [v] 371)::seg
theorem push_spec (F:Fm) (hb:Nat) (xs:List Sr) (x:Sr) (hl:Hl) (hh:HeapAt hb xs hl) (hn:xs.length<4294967296) :
 Spec Tryz.prog 269 #[.pointer (some ⟨hb,0,none⟩),headV x] F hl fun _ hl'=>HeapAt hb (siftUp x (xs++[x]) xs.length) hl':=by
 obtain ⟨v,seg,own,rfl⟩:=hh
 obtain ⟨p,cap0,rfl⟩:=own.shape
 refine Spec.of (n:=61) (vs:=[.pointer (some ⟨hb,0,none⟩),headV x]) Tryz.func269 rfl Tryz.ntmps269 rfl ?_
 refine sj [.e] Z<|Rg.box Z Z Z Z Z (fun b3=>?_)
 refine nl<|sj [.p,.p,.p,.r,.p,.p] Z<|mj Z<|nj Z<|fj Z<|lj Z Z<|uj Z (Pv.lenS Z)<|aj Z<|nl<|wj ?_
 refine Vc.draw [7,10] (sd [(0,.pure),(1,.pure),(2,.pure),(3,.pure),(4,.read),(5,.read),(6,.eff),(7,.eff),(8,.pure),(9,.pure),(10,.eff)]) mixed (by kernel_rfl)<|mj Z<|mj Z<|nj Z<|fj Z<|lj Z Z<|rj Z (Ev.ldA Z Z) ?_
 refine Rg.bslice1 Z Z Z Z Z Z Z (fun b16=>?_)
 refine Rg.append Z Z Z Z Z own (ys:=[x]) (Src.one rfl) (by simp<;>omega) (by simp [maxLen]<;>omega) rfl (fun v17 s17 own17=>?_)
 obtain ⟨b,cap,sp,rfl,rfl,hc,hm⟩:=own17.block (by simp)
 refine Rg.app Z<|nj Z<|fj Z ?_
 refine Rg.store Z Z Z Z Z Z Z Z<|nl<|wj<|bj ?_
 refine Vc.loop2 (fun (i:Nat) (ys:List Sr)=>i<ys.length∧ys.length=(xs++[x]).length∧siftUp x ys i=siftUp x (xs++[x]) xs.length) (fun (i:Nat) (ys:List Sr)=>[(0,.pointer (some ⟨hb,0,none⟩)),(3,.pointer (some ⟨b3,0,none⟩)),(4,.int .i64 (i:Int))]) (fun (i:Nat) (ys:List Sr)=>[(hb,cellsO [.slice (some ⟨b,0,none⟩) (xs++[x]).length cap] 371),(b,rowS headE ys sp),(b3,cellsO (headC x) 374)]) (fun (i:Nat) (ys:List Sr)=>i) xs.length (xs++[x]) ⟨by simp,rfl,rfl⟩ (.cons rfl (.cons rfl (.cons rfl .nil))) pulled ?_
 rintro i ys ⟨h1,h2,h3⟩
 have hlen:(xs++[x]).length=xs.length+1:=by simp
 refine wj<|wj ?_
 refine Vc.draw [] (sd [(0,.pure),(1,.pure),(2,.pure),(3,.read),(4,.pure),(5,.pure),(6,.pure),(7,.pure),(8,.read),(9,.pure),(10,.pure),(11,.pure),(12,.pure),(13,.read),(14,.eff),(15,.pure)]) mixed (by kernel_rfl)<|mj Z<|uj Z (Pv.gtr Z Z)<|mj Z<|Rg.split (t:=22) Z (fun h22=>?_) (fun h22=>?_)
 · simp only [dt] at h22
   refine rj Z (Ev.ldA Z Z)<|uj Z (Pv.mkI Z)<|mj Z<|nj Z<|fj Z<|lj Z Z<|mj Z<|uj Z (Pv.sub rfl rfl (by omega))<|uj Z (Pv.quo rfl rfl (by omega))<|uj Z (Pv.ixA ((i-1) / 2) rfl rfl (by omega) (by omega))<|rj Z (Ev.ldR ((i-1) / 2) rfl (Nat.zero_add _) (by omega)) ?_
   refine Rg.callP Z Z Z (run_callI Z Z) (before_spec _ _ _) ?_
   rintro _ rfl
   refine qj Z Z<|nl<|cj Z (fun h35=>?_) (fun h35=>?_)
   · refine kj<|bj<|wj ?_
     refine Vc.draw [15] (sd [(0,.pure),(1,.pure),(2,.pure),(3,.read),(4,.pure),(5,.pure),(6,.pure),(7,.pure),(8,.read),(9,.pure),(10,.pure),(11,.pure),(12,.pure),(13,.read),(14,.pure),(15,.eff)]) mixed (by kernel_rfl)<|mj Z<|nj Z<|fj Z<|lj Z Z<|mj Z<|mj Z<|nj Z<|fj Z<|lj Z Z<|mj Z<|uj Z (Pv.sub rfl rfl (by omega))<|uj Z (Pv.quo rfl rfl (by omega))<|uj Z (Pv.ixA ((i-1) / 2) rfl rfl (by omega) (by omega))<|rj Z (Ev.ldR ((i-1) / 2) rfl (Nat.zero_add _) (by omega)) ?_
     refine uj Z (Pv.ixA (i) rfl rfl (by omega) (by omega))<|Rg.storeR (i) rfl rfl rfl rfl rfl rfl (Nat.zero_add _) (by omega) rfl<|nl<|tj [.p,.p,.p,.p] Z<|mj Z<|uj Z (Pv.sub rfl rfl (by omega))<|uj Z (Pv.quo rfl rfl (by omega))<|aj Z<|nl<|dj<|Vc.inv2 ((i-1) / 2) (ys.set i ys[(i-1) / 2]!) ⟨⟨by simp;omega,by simp [h2],by rw [←siftUp_go (by omega) h35];exact h3⟩,show (i-1) / 2<i by omega⟩ (.cons rfl (.cons rfl (.cons (by show _=some (Value.int .i64 (((i-1) / 2:Nat):Int));simp [lk];omega) .nil))) pulled
   · refine Vc.exit Z ?_
     refine Vc.draw [7] (sd [(0,.pure),(1,.pure),(2,.pure),(3,.read),(4,.pure),(5,.read),(6,.pure),(7,.eff)]) mixed (by kernel_rfl)<|mj Z<|nj Z<|fj Z<|lj Z Z<|mj Z<|rj Z (Ev.ldA Z Z)<|uj Z (Pv.ixA (i) rfl rfl (by omega) (by omega)) ?_
     refine Rg.storeR (i) rfl rfl rfl rfl rfl rfl (Nat.zero_add _) (by omega) rfl<|nl ?_
     exact Vc.fin (Vc.retsH rfl .nil (⟨_,_,by rw [←h3,siftUp_stop (fun hh=>by rw [h35] at hh;cases hh.2)];have:=Own.blk (E:=headE) b cap (ys.set i x) sp (by rw [List.length_set,h2];exact hc) hm;rwa [List.length_set,h2] at this,rfl⟩) pulled)
 · simp only [df] at h22
   iterate 12 (first | refine Rg.skipP rfl rfl rfl ?_ | refine Rg.skipR rfl rfl rfl ?_ | refine Rg.skipE rfl rfl rfl ?_)
   refine pj Z Z<|nl<|Vc.condF Z<|Vc.exit Z ?_
   refine Vc.draw [7] (sd [(0,.pure),(1,.pure),(2,.pure),(3,.read),(4,.pure),(5,.read),(6,.pure),(7,.eff)]) mixed (by kernel_rfl)<|mj Z<|nj Z<|fj Z<|lj Z Z<|mj Z<|rj Z (Ev.ldA Z Z)<|uj Z (Pv.ixA (i) rfl rfl (by omega) (by omega)) ?_
   refine Rg.storeR (i) rfl rfl rfl rfl rfl rfl (Nat.zero_add _) (by omega) rfl<|nl ?_
   exact Vc.fin (Vc.retsH rfl .nil (⟨_,_,by rw [←h3,siftUp_stop (fun hh=>by omega)];have:=Own.blk (E:=headE) b cap (ys.set i x) sp (by rw [List.length_set,h2];exact hc) hm;rwa [List.length_set,h2] at this,rfl⟩) pulled)
def peekV:List Sr→Value
 | []=>.tuple #[headV ⟨0,0,none⟩,.bool false]
 | x::_=>.tuple #[headV x,.bool true]
theorem peek_nil (F:Fm) (hb:Nat) (p:Option Addr) (cap:Nat) [h1:Fat F hb (cellsO [.slice p 0 cap] 371)] :
 Spec Tryz.prog 287 #[.pointer (some ⟨hb,0,none⟩)] F [] fun v _=>v=peekV []:=by
 refine Spec.of (n:=17) (vs:=[.pointer (some ⟨hb,0,none⟩)]) Tryz.func287 rfl Tryz.ntmps287 rfl ?_
 refine sj [.e,.p] Z<|Rg.alloc Z Z Z Z (fun b2=>?_)
 refine aj Z<|nl<|wj<|sj [.p,.p,.p,.r,.p,.p] Z<|mj Z<|nj Z<|fj Z<|lj Z Z<|uj Z (Pv.lenS Z)<|uj Z (Pv.eql Z Z)<|nl<|cj Z (fun h9=>?_) (fun h9=>absurd h9 (by simp))
 refine sj [.r,.e,.p] Z<|rj Z (Ev.ldA Z Z)<|Rg.storeA Z Z Z Z Z Z Z Z<|aj Z<|nl<|Vc.ret (Vc.rets Z (.cons (.cellA Z Z) (tz Z)) ?_)
 exact rfl
theorem peek_cons (F:Fm) (hb b cap:Nat) (xs:List Sr) (sp:List Value) (h0:0<xs.length) [h1:Fat F hb (cellsO [.slice (some ⟨b,0,none⟩) xs.length cap] 371)] [h2:Fat F b (rowS headE xs sp)] :
 Spec Tryz.prog 287 #[.pointer (some ⟨hb,0,none⟩)] F [] fun v _=>v=.tuple #[headV xs[0]!,.bool true]:=by
 refine Spec.of (n:=17) (vs:=[.pointer (some ⟨hb,0,none⟩)]) Tryz.func287 rfl Tryz.ntmps287 rfl ?_
 refine sj [.e,.p] Z<|Rg.alloc Z Z Z Z (fun b2=>?_)
 refine aj Z<|nl<|wj<|sj [.p,.p,.p,.r,.p,.p] Z<|mj Z<|nj Z<|fj Z<|lj Z Z<|uj Z (Pv.lenS Z)<|uj Z (Pv.eql Z Z)<|nl<|cj Z (fun h9=>absurd h9 (by simp only [beq_iff_eq];omega)) (fun h9=>?_)
 refine kj<|sj [.p,.p,.p,.r,.p,.r,.e,.p] Z<|mj Z<|nj Z<|fj Z<|lj Z Z<|uj Z (Pv.ixA (0) rfl rfl (by omega) (by omega))<|rj Z (Ev.ldR (0) rfl (Nat.zero_add _) (by omega)) ?_
 refine Rg.storeA Z Z Z Z Z Z Z Z<|aj Z<|nl<|Vc.ret (Vc.rets Z (.cons (.cellA Z Z) (tz Z)) ?_)
 exact rfl
theorem pop_nil (F:Fm) (hb:Nat) (hl:Hl) (hh:HeapAt hb [] hl) :
 Spec Tryz.prog 270 #[.pointer (some ⟨hb,0,none⟩)] F hl fun v hl'=>v=peekV []∧HeapAt hb [] hl':=by
 obtain ⟨v,seg,own,rfl⟩:=hh
 obtain ⟨p,cap0,rfl⟩:=own.shape
 refine Spec.of (n:=85) (vs:=[.pointer (some ⟨hb,0,none⟩)]) Tryz.func270 rfl Tryz.ntmps270 rfl ?_
 refine sj [.e,.p] Z<|Rg.alloc Z Z Z Z (fun b2=>?_)
 refine aj Z<|nl<|sj [.p,.e,.p,.p,.p,.e,.e,.p] Z<|mj Z<|Rg.callP Z Z Z (mz Z) (peek_nil _ _ _ _) ?_
 rintro _ rfl
 refine mj Z<|xj Z Z<|xj Z Z<|Rg.alloc Z Z Z Z (fun b4=>?_)
 refine Rg.storeA Z Z Z Z Z Z Z Z<|aj Z<|nl<|wj<|sj [.p,.p] Z<|mj Z<|uj Z (Pv.not Z)<|nl<|Vc.condT Z<|sj [.r,.e,.p] Z<|rj Z (Ev.ldA Z Z)<|Rg.storeA Z Z Z Z Z Z Z Z<|aj Z<|nl ?_
 exact vr rfl (.cons (.cellA rfl rfl) (tz Z)) (⟨rfl,_,_,own,rfl⟩) pulled
set_option maxHeartbeats 400000 in
theorem pop_cons (F:Fm) (hb:Nat) (xs:List Sr) (hl:Hl) (hh:HeapAt hb xs hl) (h0:0<xs.length) (hn:xs.length<4294967296) :
 Spec Tryz.prog 270 #[.pointer (some ⟨hb,0,none⟩)] F hl fun v hl'=>v=.tuple #[headV xs[0]!,.bool true]∧HeapAt hb (popL xs) hl':=by
 obtain ⟨v,seg,own,rfl⟩:=hh
 obtain ⟨b,cap,sp,rfl,rfl,hc,hm⟩:=own.block h0
 have hle:xs.length≤cap:=Nat.le_of_mul_le_mul_right (show xs.length*headE.k≤cap*headE.k by omega) headE.pos
 refine Spec.of (n:=85) (vs:=[.pointer (some ⟨hb,0,none⟩)]) Tryz.func270 rfl Tryz.ntmps270 rfl ?_
 refine sj [.e,.p] Z<|Rg.alloc Z Z Z Z (fun b2=>?_)
 refine aj Z<|nl<|sj [.p,.e,.p,.p,.p,.e,.e,.p] Z<|mj Z<|Rg.callP Z Z Z (mz Z) (peek_cons _ _ _ _ _ _ h0) ?_
 rintro _ rfl
 refine mj Z<|xj Z Z<|xj Z Z<|Rg.alloc Z Z Z Z (fun b4=>?_)
 refine Rg.storeA Z Z Z Z Z Z Z Z<|aj Z<|nl<|wj<|sj [.p,.p] Z<|mj Z<|uj Z (Pv.not Z)<|nl<|Vc.condF Z<|kj<|sj [.p,.p,.p,.r,.p,.p,.p] Z<|mj Z<|nj Z<|fj Z<|lj Z Z ?_
 refine uj Z (Pv.lenS Z)<|uj Z (Pv.asI (xs.length-1) (Pv.sub rfl rfl (by omega)) (by omega))<|aj Z<|nl<|sj [.p,.p,.p,.r,.p,.p,.r,.e,.e] Z<|mj Z<|nj Z<|fj Z<|lj Z Z<|mj Z<|uj Z (Pv.ixA (xs.length-1) rfl rfl (by omega) (by omega))<|rj Z (Ev.ldR (xs.length-1) rfl (Nat.zero_add _) (by omega)) ?_
 refine Rg.alloc Z Z Z Z (fun b7=>?_)
 refine Rg.storeA Z Z Z Z Z Z Z Z<|nl<|sj [.p,.p,.p,.p,.r,.p,.p,.p,.p,.e] Z<|mj Z<|mj Z<|nj Z<|fj Z<|lj Z Z<|mj Z<|uj Z (Pv.slTo (xs.length-1) rfl rfl (by omega))<|nj Z<|fj Z ?_
 refine Rg.store Z Z Z Z Z Z Z Z<|nl<|wj<|wj ?_
 rw [rowS_take headE xs sp (xs.length-1)]
 have hnp:(xs.take (xs.length-1)).length=xs.length-1:=by simp
 refine tj [.p,.p] Z<|mj Z<|uj Z (Pv.eql Z Z)<|nl<|cj Z (fun h41=>?_) (fun h41=>?_)
 · simp only [beq_iff_eq] at h41
   refine sj [.r,.e,.p] Z<|rj Z (Ev.ldA Z Z)<|Rg.storeA Z Z Z Z Z Z Z Z<|aj Z<|nl ?_
   exact vr rfl (.cons (.cellA rfl rfl) (tz Z)) (⟨rfl,.slice (some ⟨b,0,none⟩) (xs.length-1) cap,[(b,rowS headE (xs.take (xs.length-1)) (flat headE (xs.drop (xs.length-1))++sp))],by have e:xs.length-1=0:=(by omega);rw [popL,if_pos (by omega),e];exact Own.blk (E:=headE) b cap [] _ (by simp only [List.drop_zero,ly,flat_length,List.length_nil];omega) hm,rfl⟩) pulled
 · simp only [beq_eq_false_iff_ne,ne_eq] at h41
   refine kj<|sj [.p] Z<|aj Z<|nl<|wj<|sj [.p,.p,.e,.p] Z<|mj Z<|mj Z<|Rg.callP Z Z Z (mz Z) (least_spec _ _ _ _ _ _ _ 0 hnp.symm (by omega) (by omega)) ?_
   rintro _ rfl
   refine aj Z<|nl<|bj ?_
   refine Vc.loop2 (fun (i:Nat) (ys:List Sr)=>i<ys.length∧ys.length=xs.length-1∧siftDown xs[xs.length-1]! ys i=siftDown xs[xs.length-1]! (xs.take (xs.length-1)) 0) (fun (i:Nat) (ys:List Sr)=>[(0,.pointer (some ⟨hb,0,none⟩)),(2,.pointer (some ⟨b2,0,none⟩)),(4,.pointer (some ⟨b4,0,none⟩)),(7,.pointer (some ⟨b7,0,none⟩)),(8,.int .i64 (i:Int)),(9,.int .i64 (leastI ys i))]) (fun (i:Nat) (ys:List Sr)=>[(hb,cellsO [.slice (some ⟨b,0,none⟩) (xs.length-1) cap] 371),(b,rowS headE ys (flat headE (xs.drop (xs.length-1))++sp)),(b2,cellsO (headC ⟨0,0,none⟩) 374),(b4,cellsO (headC xs[0]!) 374),(b7,cellsO (headC xs[xs.length-1]!) 374)]) (fun (i:Nat) (ys:List Sr)=>xs.length-i) 0 (xs.take (xs.length-1)) ⟨by omega,hnp,rfl⟩ (.cons rfl (.cons rfl (.cons rfl (.cons rfl (.cons rfl (.cons rfl .nil)))))) pulled ?_
   rintro i ys ⟨h1,h2,h3⟩
   refine wj<|wj ?_
   refine Vc.draw [] (sd [(0,.pure),(1,.pure),(2,.pure),(3,.pure),(4,.pure),(5,.pure),(6,.read),(7,.pure),(8,.pure),(9,.read),(10,.pure),(11,.read),(12,.eff),(13,.pure)]) mixed (by kernel_rfl)<|mj Z<|uj Z (Pv.geq Z Z)<|mj Z<|Rg.split (t:=48) Z (fun h48=>?_) (fun h48=>?_)
   · simp only [dt] at h48
     obtain ⟨k,hk⟩:=Int.eq_ofNat_of_zero_le h48
     have hlt:=leastI_lt h48
     rw [hk,Int.toNat_natCast] at hlt
     rw [hk]
     refine mj Z<|nj Z<|fj Z<|lj Z Z<|mj Z<|uj Z (Pv.ixA (k) rfl rfl (by omega) (by omega))<|rj Z (Ev.ldR (k) rfl (Nat.zero_add _) (by omega))<|uj Z (Pv.mkI Z)<|rj Z (Ev.ldA Z Z) ?_
     refine Rg.callP Z Z Z (run_callI Z Z) (before_spec _ _ _) ?_
     rintro _ rfl
     refine qj Z Z<|nl<|cj Z (fun h59=>?_) (fun h59=>?_)
     · refine kj<|wj<|bj<|wj ?_
       refine Vc.draw [13] (sd [(0,.pure),(1,.pure),(2,.pure),(3,.read),(4,.pure),(5,.pure),(6,.pure),(7,.pure),(8,.read),(9,.pure),(10,.pure),(11,.read),(12,.pure),(13,.eff)]) mixed (by kernel_rfl)<|mj Z<|nj Z<|fj Z<|lj Z Z<|mj Z<|mj Z<|nj Z<|fj Z<|lj Z Z<|mj Z<|uj Z (Pv.ixA (k) rfl rfl (by omega) (by omega))<|rj Z (Ev.ldR (k) rfl (Nat.zero_add _) (by omega))<|uj Z (Pv.ixA (i) rfl rfl (by omega) (by omega)) ?_
       refine Rg.storeR (i) rfl rfl rfl rfl rfl rfl (Nat.zero_add _) (by omega) rfl<|nl<|tj [.p,.p] Z<|mj Z<|aj Z<|nl<|dj<|tj [.p,.p,.e,.p] Z<|mj Z<|mj Z<|Rg.callP Z Z Z (mz Z) (least_spec _ _ _ _ _ (ys.set i ys[k]!) _ k (by rw [List.length_set,h2]) (by omega) (by rw [List.length_set];omega)) ?_
       rintro _ rfl
       refine aj Z<|nl<|Vc.inv2 k (ys.set i ys[k]!) ⟨⟨by rw [List.length_set];omega,by rw [List.length_set,h2],by rw [←h3,siftDown_go (i:=i) (by omega) (by rw [hk];exact h59),hk,Int.toNat_natCast]⟩,show xs.length-k<xs.length-i by omega⟩ (.cons rfl (.cons rfl (.cons rfl (.cons rfl (.cons rfl (.cons rfl .nil)))))) pulled
     · refine Vc.exit Z<|wj ?_
       refine Vc.draw [7] (sd [(0,.pure),(1,.pure),(2,.pure),(3,.read),(4,.pure),(5,.read),(6,.pure),(7,.eff)]) mixed (by kernel_rfl)<|mj Z<|nj Z<|fj Z<|lj Z Z<|mj Z<|rj Z (Ev.ldA Z Z)<|uj Z (Pv.ixA (i) rfl rfl (by omega) (by omega)) ?_
       refine Rg.storeR (i) rfl rfl rfl rfl rfl rfl (Nat.zero_add _) (by omega) rfl<|nl<|sj [.r,.e,.p] Z<|rj Z (Ev.ldA Z Z)<|Rg.storeA Z Z Z Z Z Z Z Z<|aj Z<|nl ?_
       exact vr rfl (.cons (.cellA rfl rfl) (tz Z)) (⟨rfl,_,_,by rw [popL,if_neg (by omega),←h3,siftDown_stop (fun hh=>by rw [hk,Int.toNat_natCast,h59] at hh;cases hh.2)];have:=Own.blk (E:=headE) b cap (ys.set i xs[xs.length-1]!) (flat headE (xs.drop (xs.length-1))++sp) (by rw [List.length_set,ly,flat_length,List.length_drop,h2];have:=headE.pos;rw [←hc,←Nat.add_assoc,←Nat.add_mul];congr 2;omega) hm;rwa [List.length_set,h2] at this,rfl⟩) pulled
   · simp only [df] at h48
     iterate 10 (first | refine Rg.skipP rfl rfl rfl ?_ | refine Rg.skipR rfl rfl rfl ?_ | refine Rg.skipE rfl rfl rfl ?_)
     refine pj Z Z<|nl<|Vc.condF Z<|Vc.exit Z<|wj ?_
     refine Vc.draw [7] (sd [(0,.pure),(1,.pure),(2,.pure),(3,.read),(4,.pure),(5,.read),(6,.pure),(7,.eff)]) mixed (by kernel_rfl)<|mj Z<|nj Z<|fj Z<|lj Z Z<|mj Z<|rj Z (Ev.ldA Z Z)<|uj Z (Pv.ixA (i) rfl rfl (by omega) (by omega)) ?_
     refine Rg.storeR (i) rfl rfl rfl rfl rfl rfl (Nat.zero_add _) (by omega) rfl<|nl<|sj [.r,.e,.p] Z<|rj Z (Ev.ldA Z Z)<|Rg.storeA Z Z Z Z Z Z Z Z<|aj Z<|nl ?_
     exact vr rfl (.cons (.cellA rfl rfl) (tz Z)) (⟨rfl,_,_,by rw [popL,if_neg (by omega),←h3,siftDown_stop (fun hh=>by omega)];have:=Own.blk (E:=headE) b cap (ys.set i xs[xs.length-1]!) (flat headE (xs.drop (xs.length-1))++sp) (by rw [List.length_set,ly,flat_length,List.length_drop,h2];have:=headE.pos;rw [←hc,←Nat.add_assoc,←Nat.add_mul];congr 2;omega) hm;rwa [List.length_set,h2] at this,rfl⟩) pulled
theorem pop_at (F:Fm) (hb:Nat) (xs:List Sr) (hl:Hl) (hh:HeapAt hb xs hl) (hn:xs.length<4294967296) :
 Spec Tryz.prog 270 #[.pointer (some ⟨hb,0,none⟩)] F hl fun v hl'=>v=peekV xs∧HeapAt hb (popL xs) hl':=by
 cases xs with
 | nil=>exact pop_nil F hb hl hh
 | cons x l=>exact pop_cons F hb _ hl hh (by simp) hn
def hd (xs:List Sr):Sr:=xs.headD ⟨0,0,none⟩
theorem peekV_eq (xs:List Sr):peekV xs=.tuple #[headV (hd xs),.bool (decide (0<xs.length))]:=by
 cases xs with
 | nil=>rfl
 | cons x l=>simp [peekV,hd]
theorem hd_get {xs:List Sr} (h:0<xs.length):hd xs=xs[0]! := by
 cases xs with
 | nil=>simp at h
 | cons x l=>rfl
theorem pop_hd (F:Fm) (hb:Nat) (xs:List Sr) (hl:Hl) (hh:HeapAt hb xs hl) (hn:xs.length<4294967296) :
 Spec Tryz.prog 270 #[.pointer (some ⟨hb,0,none⟩)] F hl fun v hl'=>v=.tuple #[headV (hd xs),.bool (decide (0<xs.length))]∧HeapAt hb (popL xs) hl':=by
 rw [←peekV_eq];exact pop_at F hb xs hl hh hn
def pushL (xs:List Sr) (x:Sr):List Sr:=siftUp x (xs++[x]) xs.length
theorem push_at (F:Fm) (hb:Nat) (xs:List Sr) (x:Sr) (hl:Hl) (hh:HeapAt hb xs hl) (hn:xs.length<4294967296) :
 Spec Tryz.prog 269 #[.pointer (some ⟨hb,0,none⟩),headV x] F hl fun _ hl'=>HeapAt hb (pushL xs x) hl':=push_spec F hb xs x hl hh hn
theorem popL_length (xs:List Sr):(popL xs).length=xs.length-1:=by
 by_cases h:0<xs.length
 · have:=(pop_perm xs h).length_eq
   simp only [List.length_cons] at this
   omega
 · rw [popL,if_pos (by omega)];simp;omega
theorem heap_nil (hb:Nat):HeapAt hb [] [(hb,cellsO [.slice none 0 0] 371)]:=⟨_,_,.nil,rfl⟩
end Go.Proofs.YtkpiakgmkpbikaaGreatDoor.SH
namespace Go.Proofs.YtkpiakgmkpbikaaGreatDoor
open Go.Proofs Go.Shelf Go.Sort
theorem hp_grown {W w':World} {hl:Hl} (h:Hp ⟨W.os,W.tape,W.output,fun b o=>W.heap[b]? = some o,W.drawn⟩ hl w'):∃q os',w'=grow (W.drewN q) os':=by
 have hb:∀k (hk:k<W.heap.size),w'.heap[k]? = some W.heap[k]:=fun k hk=>h.frame k _ (Array.getElem?_eq_getElem hk)
 have hsz:W.heap.size≤w'.heap.size:=by
  by_cases h0:W.heap.size=0
  · omega
  · have:=(Array.getElem?_eq_some_iff.1 (hb (W.heap.size-1) (by omega))).1
    omega
 refine ⟨w'.drawn-W.drawn,w'.heap.extract W.heap.size w'.heap.size,?_⟩
 have hd:=h.drawn
 simp only at hd
 have e1:w'.heap=W.heap++w'.heap.extract W.heap.size w'.heap.size:=by
  apply Array.ext_getElem?
  intro k
  by_cases hk:k<W.heap.size
  · rw [hb k hk,Array.getElem?_append_left hk,Array.getElem?_eq_getElem hk]
  · rw [Array.getElem?_append_right (by omega),Array.getElem?_extract]
    by_cases hk2:k<w'.heap.size
    · rw [if_pos (by omega)];congr 1;omega
    · rw [if_neg (by omega),Array.getElem?_eq_none (by omega)]
 obtain ⟨heap,tape,drawn,os,output⟩:=w'
 have h1:=h.os
 have h2:=h.tape
 have h3:=h.output
 simp only at h1 h2 h3 e1 hd
 subst h1 h2 h3
 simp only [grow,World.drewN]
 congr 1
 omega
end Go.Proofs.YtkpiakgmkpbikaaGreatDoor
