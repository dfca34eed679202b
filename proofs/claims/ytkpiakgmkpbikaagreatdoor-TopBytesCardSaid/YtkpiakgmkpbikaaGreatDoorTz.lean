/- Steps of the proof. -/
import Derived.Test.YtkpiakgmkpbikaaGreatDoorTs
import Derived.Test.YtkpiakgmkpbikaaGreatDoorSlN
import Derived.Laws.StructEq
set_option linter.unusedVariables false
namespace Go.Proofs.YtkpiakgmkpbikaaGreatDoor
def intE:Enc Int where
 k:=1
 tid:=3
 cells:=fun a=>[.int .i64 a]
 val:=fun a=>.int .i64 a
 pos:=by decide
 len:=fun _=>rfl
 one:=fun x v hv=>by simp at hv;subst hv;rfl
 vc:=fun _=>rfl
instance : RowTy Tryz.prog intE 3:=⟨Tryz.sizeOf3,.inr ⟨Tryz.isAgg3,rfl,fun _=>rfl⟩⟩
instance : TySl Tryz.prog 45 intE 8:=⟨Tryz.underlying45,Tryz.t3,.int .i64 0,by kernel_rfl,by kernel_rfl,rfl,rfl,rfl⟩
instance : TyZero Tryz.prog intE.tid (intE.val 0):=inferInstanceAs (TyZero Tryz.prog 3 (.int .i64 0))
def bnd (n sh i:Nat):Nat:=i*n / sh
def bndL (n sh:Nat):List Int:=(List.range (sh+1)).map fun i=>((bnd n sh i:Nat):Int)
theorem bnd_mono {n sh i j:Nat} (h:i≤j):bnd n sh i≤bnd n sh j:=Nat.div_le_div_right (Nat.mul_le_mul_right _ h)
theorem bnd_top {n sh:Nat} (h:0<sh):bnd n sh sh=n:=by unfold bnd;rw [Nat.mul_div_cancel_left _ h]
theorem bnd_zero (n sh:Nat):bnd n sh 0=0:=by unfold bnd;rw [Nat.zero_mul,Nat.zero_div]
theorem mul_small {i n:Nat} (hi:i≤4096) (hn:n≤1048576):i*n≤4294967296:=by
 have:=Nat.mul_le_mul hi hn
 omega
theorem pright_spec {F:Fm} (n sh:Nat) (hn:n≤1048576) (h1:1≤sh) (h2:sh≤4096):Spec Tryz.prog 149 #[.int .i64 (n:Int),.int .i64 (sh:Int)] F [] fun v _=>v=.bool true:=by
 refine Spec.of (n:=19) (vs:=[.int .i64 (n:Int),.int .i64 (sh:Int)]) Tryz.func149 rfl Tryz.ntmps149 rfl ?_
 refine sj [.p] Z<|aj Z<|nl<|sj [.p,.p,.p,.p,.p,.p,.p,.p,.p,.p,.p,.p,.p,.p,.p] Z<|mj Z<|uj Z (Pv.geq Z Z)<|mj Z<|Rg.split (t:=7) rfl (fun h7=>?_) (fun h7=>absurd h7 (by (simp only [df];omega)))
 refine mj Z<|uj Z (Pv.leq Z Z)<|qj Z Z<|mj Z<|Rg.split (t:=11) rfl (fun h11=>?_) (fun h11=>absurd h11 (by (simp only [df];omega)))
 refine mj Z<|uj Z (Pv.geq Z Z)<|qj Z Z<|mj Z<|Rg.split (t:=15) rfl (fun h15=>?_) (fun h15=>absurd h15 (by (simp only [df];omega)))
 refine mj Z<|uj Z (Pv.leq Z Z)<|qj Z Z<|aj Z<|nl<|vz Z (tz Z) ?_
 exact congrArg Value.bool (by rw [dt];omega)
theorem bound_spec {F:Fm} (n sh i:Nat) (hn:n≤1048576) (h1:1≤sh) (hi:i≤4096):Spec Tryz.prog 150 #[.int .i64 (n:Int),.int .i64 (sh:Int),.int .i64 (i:Int)] F [] fun v _=>v=.int .i64 ((bnd n sh i:Nat):Int):=by
 have hm:=mul_small hi hn
 obtain ⟨m,hmm⟩:∃m,m=i*n:=⟨_,rfl⟩
 have hmi:(i:Int)*(n:Int)=(m:Int):=by rw [hmm];exact (Int.natCast_mul i n).symm
 rw [←hmm] at hm
 refine Spec.of (n:=12) (vs:=[.int .i64 (n:Int),.int .i64 (sh:Int),.int .i64 (i:Int)]) Tryz.func150 rfl Tryz.ntmps150 rfl ?_
 refine sj [.p] Z<|aj Z<|nl<|sj [.p,.p,.p,.p,.p,.p] Z<|mj Z<|mj Z<|uj Z (Pv.asI m (Pv.mul rfl rfl (by rw [hmi];omega)) hmi)<|mj Z<|uj Z (Pv.asI (bnd n sh i) (Pv.quo rfl rfl (by omega)) (by unfold bnd;rw [←hmm];exact (Int.natCast_ediv m sh).symm))<|aj Z<|nl<|vz Z (tz Z) ?_
 rfl
theorem bndL_len (n sh:Nat):(bndL n sh).length=sh+1:=by simp [bndL]
theorem bndL_get {n sh i:Nat} (h:i≤sh):(bndL n sh)[i]! = ((bnd n sh i:Nat):Int):=by
 rw [getElem!_pos (bndL n sh) i (by rw [bndL_len];omega)]
 simp [bndL]
set_option maxHeartbeats 1000000 in
theorem bounds_spec {F:Fm} (n sh:Nat) (hn:n≤1048576) (h1:1≤sh) (h2:sh≤4095):Spec Tryz.prog 142 #[.int .i64 (n:Int),.int .i64 (sh:Int)] F [] fun v s=>∃u,v=.tuple #[u,.int .i64 0]∧Own intE u (bndL n sh) s:=by
 refine Spec.of (n:=29) (vs:=[.int .i64 (n:Int),.int .i64 (sh:Int)]) Tryz.func142 rfl Tryz.ntmps142 rfl ?_
 refine sj [.p,.p] Z<|aj Z<|aj Z<|nl<|wj<|sj [.p,.p,.e,.p] Z<|mj Z<|mj Z<|Rg.callP Z Z Z (mz Z) (pright_spec n sh hn h1 (by omega)) ?_
 rintro _ rfl
 refine uj Z (Pv.not Z)<|nl<|cj Z (fun h11=>absurd h11 (by decide)) (fun h11=>?_)
 refine kj<|sj [.p,.p,.e,.p] Z<|mj Z<|uj Z (Pv.asI (sh+1) (Pv.add rfl rfl (by omega)) (by omega))<|Rg.makeN intE 0 (m:=sh+1) rfl rfl rfl rfl rfl ⟨by omega,by (show sh+1≤9223372036854775807);omega⟩ (fun b14 own14=>?_)
 refine aj Z<|nl<|wj<|sj [.p,.p,.p] Z<|mj Z<|uj Z (Pv.lenS Z)<|mj Z<|nl<|bj ?_
 refine Vc.loop2 (fun (k:Nat) (ys:List Int)=>k≤sh+1∧ys.length=sh+1∧(∀j,j<k→ys[j]! = ((bnd n sh j:Nat):Int))) (fun k ys=>[(0,.int .i64 (n:Int)),(1,.int .i64 (sh:Int)),(6,.slice (some ⟨b14,0,none⟩) (sh+1) (sh+1)),(16,.int .i64 ((sh+1:Nat):Int)),(17,.int .i64 (k:Int))]) (fun k ys=>[(b14,rowS intE ys [])]) (fun k ys=>sh+1-k) 0 (List.replicate (sh+1) 0) ⟨Nat.zero_le _,by simp,fun j hj=>by omega⟩ (.cons rfl (.cons rfl (.cons rfl (.cons rfl (.cons rfl .nil))))) pulled ?_
 rintro k ys ⟨hk,hyl,hys⟩
 refine sj [.p] Z<|uj Z (Pv.lss Z Z)<|nl<|wj<|cj Z (fun h18=>?_) (fun h18=>?_)
 · simp only [dt] at h18
   refine kj<|wj<|bj<|sj [.p,.p] Z<|mj Z<|aj Z<|nl<|tj [.p,.p,.p,.p,.p,.e,.p,.e] Z<|mj Z<|mj Z<|mj Z<|mj Z<|mj Z<|Rg.callP Z Z Z (mz Z) (bound_spec n sh k hn h1 (by omega)) ?_
   rintro _ rfl
   refine uj Z (Pv.ixA (k) rfl rfl (by omega) (by omega))<|Rg.storeR (E:=intE) (z:=((bnd n sh k:Nat):Int)) k rfl rfl rfl rfl rfl rfl (Nat.zero_add _) (by omega) rfl<|nl<|dj<|tj [.p,.p] Z<|uj Z (Pv.asI (k+1) (Pv.add rfl rfl (by omega)) (by omega))<|mj Z<|nl ?_
   exact Vc.inv2 (k+1) (ys.set k ((bnd n sh k:Nat):Int)) ⟨⟨by omega,by rw [List.length_set,hyl],fun j hj=>by
    by_cases e:j=k
    · subst e;rw [getElem!_pos (ys.set j _) j (by rw [List.length_set];omega),List.getElem_set_self]
    · rw [getElem!_pos (ys.set k _) j (by rw [List.length_set];omega),List.getElem_set_ne (fun h=>e h.symm),←getElem!_pos ys j (by omega)]
      exact hys j (by omega)⟩,by omega⟩ (.cons rfl (.cons rfl (.cons rfl (.cons rfl (.cons rfl .nil))))) pulled
 · simp only [df] at h18
   obtain rfl:ys=bndL n sh:=by
    refine List.ext_getElem (by rw [hyl,bndL_len]) fun i h1 h2=>?_
    have:=hys i (by omega)
    rw [getElem!_pos ys i h1] at this
    have h3:=bndL_get (n:=n) (sh:=sh) (i:=i) (by omega)
    rw [getElem!_pos (bndL n sh) i h2] at h3
    rw [this,h3]
   refine Vc.exit Z<|sj [.p,.p,.p] Z<|mj Z<|aj Z<|aj Z<|nl ?_
   exact vr rfl (.cons (.tmp rfl) (tz Z)) (⟨_,rfl,Own.blk' b14 (sh+1) (sh+1) _ [] (by rw [bndL_len]) (by simp [intE]) (by (show sh+1≤9223372036854775807);omega)⟩) pulled
def ofN (n sh v:Nat):Nat:=((List.range sh).find? fun i=>decide (v<bnd n sh (i+1))).getD sh
theorem ofN_spec {n sh v r:Nat} (h0:0<sh) (hv:v<n) (hr:r≤sh) (hlt:∀k,k<r→¬v<bnd n sh (k+1)) (hge:∀k,r≤k→k<sh→v<bnd n sh (k+1)):r=ofN n sh v∧r<sh∧bnd n sh r≤v∧v<bnd n sh (r+1):=by
 have hrs:r<sh:=by
  rcases Nat.lt_or_ge r sh with h | h
  · exact h
  · have:=hlt (sh-1) (by omega)
    rw [show sh-1+1=sh by omega,bnd_top h0] at this
    omega
 refine ⟨?_,hrs,?_,hge r (Nat.le_refl _) hrs⟩
 · unfold ofN
   have h1:(List.range sh).find? (fun i=>decide (v<bnd n sh (i+1)))=some r:=by
    rw [List.find?_range_eq_some]
    refine ⟨by simpa using hge r (Nat.le_refl _) hrs,by simpa using hrs,fun j hj=>by simpa using hlt j hj⟩
   rw [h1];rfl
 · rcases Nat.eq_zero_or_pos r with h | h
   · rw [h,bnd_zero];omega
   · have:=hlt (r-1) (by omega)
     rw [show r-1+1=r by omega] at this
     omega
theorem of1_spec {F:Fm} {b3 b4 b5:Nat} (n sh v i:Nat) (hn:n≤1048576) (h1:1≤sh) (h2:sh≤4095) (hi:i<sh) (f3:F.at_ b3 (cellsO [.int .i64 (n:Int)] 3)) (f4:F.at_ b4 (cellsO [.int .i64 (sh:Int)] 3)) (f5:F.at_ b5 (cellsO [.int .i64 (v:Int)] 3)) :
 Spec Tryz.prog 245 #[.int .i64 (i:Int),.pointer (some ⟨b3,0,none⟩),.pointer (some ⟨b4,0,none⟩),.pointer (some ⟨b5,0,none⟩)] F [] fun u _=>u=.bool (decide (v<bnd n sh (i+1))):=by
 have:Fat F b3 (cellsO [.int .i64 (n:Int)] 3):=⟨f3⟩
 have:Fat F b4 (cellsO [.int .i64 (sh:Int)] 3):=⟨f4⟩
 have:Fat F b5 (cellsO [.int .i64 (v:Int)] 3):=⟨f5⟩
 refine Spec.of (n:=13) (vs:=[.int .i64 (i:Int),.pointer (some ⟨b3,0,none⟩),.pointer (some ⟨b4,0,none⟩),.pointer (some ⟨b5,0,none⟩)]) Tryz.func245 rfl Tryz.ntmps245 rfl ?_
 refine sj [.p] Z<|aj Z<|nl<|wj ?_
 refine Vc.draw [] (sd [(0,.read),(1,.read),(2,.pure),(3,.pure),(5,.read),(4,.eff),(6,.pure),(7,.pure)]) mixed (by kernel_rfl)<|lj Z Z<|lj Z Z<|mj Z<|uj Z (Pv.asI (i+1) (Pv.add rfl rfl (by omega)) (by omega))<|lj Z Z<|Rg.callP Z Z Z (mz Z) (bound_spec n sh (i+1) hn h1 (by omega)) ?_
 rintro _ rfl
 refine uj Z (Pv.gtr Z Z)<|aj Z<|nl<|vz Z (tz Z) ?_
 exact congrArg Value.bool (by rw [Bool.eq_iff_iff,dt,dt];omega)
set_option maxHeartbeats 1000000 in
theorem search_spec {F:Fm} {b3 b4 b5:Nat} (n sh v:Nat) (hn:n≤1048576) (h1:1≤sh) (h2:sh≤4095) (f3:F.at_ b3 (cellsO [.int .i64 (n:Int)] 3)) (f4:F.at_ b4 (cellsO [.int .i64 (sh:Int)] 3)) (f5:F.at_ b5 (cellsO [.int .i64 (v:Int)] 3)) :
 Spec Tryz.prog 244 #[.int .i64 (sh:Int),.func (.func 245) #[] #[.pointer (some ⟨b3,0,none⟩),.pointer (some ⟨b4,0,none⟩),.pointer (some ⟨b5,0,none⟩)]] F [] fun u _=>∃r:Nat,u=.int .i64 (r:Int)∧r≤sh∧(∀k,k<r→¬v<bnd n sh (k+1))∧∀k,r≤k→k<sh→v<bnd n sh (k+1):=by
 refine Spec.of (n:=26) (vs:=[.int .i64 (sh:Int),.func (.func 245) #[] #[.pointer (some ⟨b3,0,none⟩),.pointer (some ⟨b4,0,none⟩),.pointer (some ⟨b5,0,none⟩)]]) Tryz.func244 rfl Tryz.ntmps244 rfl ?_
 refine sj [.p] Z<|aj Z<|nl<|sj [.p,.p,.p] Z<|mj Z<|aj Z<|aj Z<|nl<|wj<|bj ?_
 refine Vc.loop2 (fun (i j:Nat)=>i≤j∧j≤sh∧(∀k,k<i→¬v<bnd n sh (k+1))∧∀k,j≤k→k<sh→v<bnd n sh (k+1)) (fun i j=>[(1,.func (.func 245) #[] #[.pointer (some ⟨b3,0,none⟩),.pointer (some ⟨b4,0,none⟩),.pointer (some ⟨b5,0,none⟩)]),(5,.int .i64 (i:Int)),(6,.int .i64 (j:Int))]) (fun i j=>[]) (fun i j=>j-i) 0 sh ⟨Nat.zero_le _,Nat.le_refl _,fun k hk=>by omega,fun k hk hk2=>by omega⟩ (.cons rfl (.cons rfl (.cons rfl .nil))) pulled ?_
 rintro i j ⟨hij,hj,hlo,hhi⟩
 refine wj<|sj [.p,.p,.p] Z<|mj Z<|mj Z<|uj Z (Pv.lss Z Z)<|nl<|cj Z (fun h11=>?_) (fun h11=>?_)
 · simp only [dt] at h11
   obtain ⟨m,hm⟩:∃m,m=(i+j) / 2:=⟨_,rfl⟩
   refine kj<|bj<|sj [.p,.p,.p,.p,.p,.p,.p] Z<|mj Z<|mj Z<|uj Z (Pv.asI (i+j) (Pv.add rfl rfl (by omega)) (by omega))<|uj Z (Pv.asI (i+j) (Pv.convI rfl) (wrap_ult rfl (by show i+j<2 ^ 64;omega)))<|uj Z (Pv.asI m (Pv.shrN (i+j) 1 rfl rfl (by decide)) (by rw [hm,Nat.pow_one]))<|uj Z (Pv.asI m (Pv.convI rfl) (i64_wrap (by omega)))<|aj Z<|nl<|sj [.p,.p,.e,.p] Z<|mj Z<|mj Z<|Rg.callP Z Z Z (run_callV rfl rfl) (of1_spec n sh v m hn h1 h2 (by omega) (.inr f3) (.inr f4) (.inr f5)) ?_
   rintro _ rfl
   refine uj Z (Pv.not Z)<|nl<|cj Z (fun h21=>?_) (fun h21=>?_)
   · simp only [Bool.not_eq_true',df] at h21
     refine tj [.p,.p,.p] Z<|mj Z<|uj Z (Pv.asI (m+1) (Pv.add rfl rfl (by omega)) (by omega))<|aj Z<|nl<|dj ?_
     exact Vc.inv2 (m+1) j ⟨⟨by omega,hj,fun k hk hv=>by
      have:=bnd_mono (n:=n) (sh:=sh) (show k+1≤m+1 by omega)
      omega,hhi⟩,by omega⟩ (.cons rfl (.cons rfl (.cons rfl .nil))) pulled
   · simp only [Bool.not_eq_false',dt] at h21
     refine tj [.p,.p] Z<|mj Z<|aj Z<|nl<|dj ?_
     exact Vc.inv2 i m ⟨⟨by omega,by omega,hlo,fun k hk hk2=>by
      have:=bnd_mono (n:=n) (sh:=sh) (show m+1≤k+1 by omega)
      omega⟩,by omega⟩ (.cons rfl (.cons rfl (.cons rfl .nil))) pulled
 · simp only [df] at h11
   obtain rfl:i=j:=by omega
   refine Vc.exit Z<|sj [.p,.p] Z<|mj Z<|aj Z<|nl<|vz Z (tz Z) ?_
   exact ⟨i,rfl,hj,hlo,hhi⟩
theorem of_spec {F:Fm} (n sh v:Nat) (hn:n≤1048576) (h1:1≤sh) (h2:sh≤4095) (hv:v<n):Spec Tryz.prog 217 #[.int .i64 (n:Int),.int .i64 (sh:Int),.int .i64 (v:Int)] F [] fun u _=>u=.tuple #[.int .i64 ((ofN n sh v:Nat):Int),.int .i64 0]:=by
 refine Spec.of (n:=24) (vs:=[.int .i64 (n:Int),.int .i64 (sh:Int),.int .i64 (v:Int)]) Tryz.func217 rfl Tryz.ntmps217 rfl ?_
 refine sj [.e,.e,.e,.p,.p] Z<|Rg.box Z Z Z Z Z (fun b3=>?_)
 refine Rg.box Z Z Z Z Z (fun b4=>?_)
 refine Rg.box Z Z Z Z Z (fun b5=>?_)
 refine aj Z<|aj Z<|nl<|wj<|sj [.r,.r,.e,.p,.p,.r,.p,.p,.p,.r,.r,.p,.p] Z<|lj Z Z<|lj Z Z<|Rg.callP Z Z Z (mz Z) (pright_spec n sh hn h1 (by omega)) ?_
 rintro _ rfl
 refine uj Z (Pv.not Z)<|mj Z<|Rg.split (t:=12) rfl (fun h12=>absurd h12 (by decide)) (fun h12=>?_)
 refine lj Z Z<|uj Z (Pv.lss Z Z)<|pj Z Z<|mj Z<|Rg.split (t:=16) rfl (fun h16=>absurd h16 (by (simp only [dt];omega))) (fun h16=>?_)
 refine lj Z Z<|lj Z Z<|uj Z (Pv.geq Z Z)<|pj Z Z<|nl<|cj Z (fun h20=>absurd h20 (by (simp only [dt];omega))) (fun h20=>?_)
 refine kj<|sj [.r,.p,.e,.p,.p] Z<|lj Z Z<|uj Z (Pv.mkF Z Z)<|Rg.callP Z Z Z (mz Z) (search_spec n sh v hn h1 h2 (.inl (by simp)) (.inl (by simp)) (.inl (by simp))) ?_
 rintro _ ⟨r,rfl,hr,hlt,hge⟩
 obtain ⟨rfl,_⟩:=ofN_spec (by omega) hv hr hlt hge
 refine aj Z<|aj Z<|nl<|Vc.ret (Vc.rets Z (.cons (.tmp Z) (tz Z)) ?_)
 rfl
namespace ED
structure Eg where
 f:Nat
 t:Nat
 w:Nat
 deriving DecidableEq
instance : Inhabited Eg:=⟨⟨0,0,0⟩⟩
def InE (e:Eg):Prop:=e.f<4294967296∧e.t<4294967296∧e.w<4294967296
abbrev egC (e:Eg):List Value:=[.int .u32 (e.f:Int),.int .u32 (e.t:Int),.int .u32 (e.w:Int)]
abbrev egV (e:Eg):Value:=.agg #[.int .u32 (e.f:Int),.int .u32 (e.t:Int),.int .u32 (e.w:Int)]
def edgeE:Enc Eg where
 k:=3
 tid:=79
 cells:=egC
 val:=egV
 pos:=by decide
 len:=fun _=>rfl
 one:=fun x v hv=>by simp [egC] at hv;rcases hv with rfl | rfl | rfl<;>rfl
 vc:=fun _=>rfl
instance : RowTy Tryz.prog edgeE 79:=⟨Tryz.sizeOf79,.inl ⟨Tryz.isAgg79,fun _=>rfl⟩⟩
instance : TySl Tryz.prog 25 edgeE 12:=⟨Tryz.underlying25,Tryz.t79,.agg #[.int .u32 0,.int .u32 0,.int .u32 0],by kernel_rfl,by kernel_rfl,rfl,rfl,rfl⟩
abbrev grV (N:Int) (v:Value):Value:=.agg #[.int .i64 N,v]
def rightG (N:Int) (es:List Eg):Bool:=decide (0≤N)&&decide (N≤1048576)&&decide (es.length≤1048576)&&!es.any fun e=>decide (N≤(e.f:Int))||decide (N≤(e.t:Int))
theorem right1_spec {F:Fm} {bg:Nat} {N:Int} {va:Value} [f1:Fat F bg (cellsO [.int .i64 N,va] 27)] (e:Eg) (he:InE e) :
 Spec Tryz.prog 198 #[egV e,.pointer (some ⟨bg,0,none⟩)] F [] fun v _=>v=.bool (decide (N≤(e.f:Int))||decide (N≤(e.t:Int))):=by
 refine Spec.of (n:=18) (vs:=[egV e,.pointer (some ⟨bg,0,none⟩)]) Tryz.func198 rfl Tryz.ntmps198 rfl ?_
 have h1:=he.1
 have h2:=he.2.1
 refine sj [.e,.p] Z<|Rg.box Z Z Z Z Z (fun b2=>?_)
 refine aj Z<|nl<|sj [.p,.r,.p,.p,.r,.p,.p,.p,.r,.p,.p,.r,.p,.p,.p] Z<|fj Z<|lj Z Z<|uj Z (Pv.asI e.f (Pv.convI rfl) (i64_wrap (by omega)))<|fj Z<|lj Z Z<|uj Z (Pv.geq Z Z)<|mj Z ?_
 refine Rg.split (t:=10) Z (fun h10=>?_) (fun h10=>?_)
 · simp only [dt] at h10
   iterate 6 (first | refine Rg.skipP rfl rfl rfl ?_ | refine Rg.skipR rfl rfl rfl ?_ | refine Rg.skipE rfl rfl rfl ?_)
   refine qj Z Z<|aj Z<|nl<|vz Z (tz Z) ?_
   exact congrArg Value.bool (by simp [*])
 · simp only [df] at h10
   refine fj Z<|lj Z Z<|uj Z (Pv.asI e.t (Pv.convI rfl) (i64_wrap (by omega)))<|fj Z<|lj Z Z<|uj Z (Pv.geq Z Z)<|pj Z Z<|aj Z<|nl<|vz Z (tz Z) ?_
   exact congrArg Value.bool (by simp [*])
theorem indexFunc_spec {F:Fm} {va:Value} {xs:List Eg} (ha:Arg edgeE F va xs) (hN:xs.length<1073741824) (p:Eg→Bool) (g:Nat) [TyCall Tryz.prog g] (cs:List Value)
 (hs:∀F',(∀b o,F.at_ b o→F'.at_ b o)→∀x∈xs,Spec Tryz.prog g (egV x::cs).toArray F' [] fun v _=>v=.bool (p x)) :
 Spec Tryz.prog 215 #[va,.func (.func g) #[] cs.toArray] F [] fun v _=>∃r:Int,v=.int .i64 r∧decide (0≤r)=xs.any p:=by
 obtain ⟨q,c,rfl⟩:=ha.shape
 refine Spec.of (n:=19) (vs:=[.slice q xs.length c,.func (.func g) #[] cs.toArray]) Tryz.func215 rfl Tryz.ntmps215 rfl ?_
 refine sj [.p] Z<|aj Z<|nl<|wj<|sj [.p,.p,.p] Z<|mj Z<|uj Z (Pv.lenS Z)<|mj Z<|nl<|bj ?_
 refine Vc.loop1 (fun (i:Nat)=>i≤xs.length∧(xs.take i).any p=false) (fun i=>[(0,.slice q xs.length c),(1,.func (.func g) #[] cs.toArray),(7,.int .i64 (xs.length:Int)),(8,.int .i64 (i:Int))]) (fun i=>[]) (fun i=>xs.length-i) 0 ⟨Nat.zero_le _,by simp⟩ (.cons rfl (.cons rfl (.cons rfl (.cons rfl .nil)))) pulled ?_
 rintro i ⟨h1,h2⟩
 refine sj [.p] Z<|uj Z (Pv.lss Z Z)<|nl<|wj<|cj Z (fun h9=>?_) (fun h9=>?_)
 · simp only [dt] at h9
   obtain ⟨b,off,c',e,_⟩:=ha.block (by omega)
   cases e
   have hsn:xs.take (i+1)=xs.take i++[xs[i]!]:=(take_snoc (by rw [getElem!_pos xs i (by omega)];exact List.getElem?_eq_getElem (by omega))).symm
   refine kj<|wj<|bj<|sj [.p,.p] Z<|mj Z<|aj Z<|nl<|sj [.p,.p,.p,.p,.r,.e] Z<|mj Z<|mj Z<|mj Z<|uj Z (Pv.ixA (i) rfl rfl (by omega) (by omega))<|rj Z (Ev.ldS (i) (ha.src) rfl rfl rfl (by omega))<|Rg.callP Z Z Z (run_callV rfl rfl) (hs _ (fun _ _ h=>Or.inr h) xs[i]! (by rw [getElem!_pos xs i (by omega)];exact List.getElem_mem _)) ?_
   rintro _ rfl
   refine nl<|cj Z (fun h16=>?_) (fun h16=>?_)
   · refine sj [.p,.p] Z<|mj Z<|aj Z<|nl<|vz Z (tz Z) ?_
     refine ⟨(i:Int),rfl,?_⟩
     rw [decide_eq_true (by omega),eq_comm,List.any_eq_true]
     exact ⟨xs[i]!,by rw [getElem!_pos xs i (by omega)];exact List.getElem_mem _,h16⟩
   · refine kj<|dj<|tj [.p,.p] Z<|uj Z (Pv.asI (i+1) (Pv.add rfl rfl (by omega)) (by omega))<|mj Z<|nl ?_
     exact Vc.inv1 (i+1) ⟨⟨by omega,by rw [hsn,List.any_append,h2];simpa using h16⟩,by omega⟩ (.cons rfl (.cons rfl (.cons rfl (.cons rfl .nil)))) pulled
 · simp only [df] at h9
   rw [List.take_of_length_le (by omega)] at h2
   refine Vc.exit Z<|sj [.p] Z<|aj Z<|nl<|vz Z (tz Z) ?_
   exact ⟨-1,rfl,by rw [h2];rfl⟩
theorem containsFunc_spec {F:Fm} {va:Value} {xs:List Eg} (ha:Arg edgeE F va xs) (hN:xs.length<1073741824) (p:Eg→Bool) (g:Nat) [TyCall Tryz.prog g] (cs:List Value)
 (hs:∀F',(∀b o,F.at_ b o→F'.at_ b o)→∀x∈xs,Spec Tryz.prog g (egV x::cs).toArray F' [] fun v _=>v=.bool (p x)) :
 Spec Tryz.prog 197 #[va,.func (.func g) #[] cs.toArray] F [] fun v _=>v=.bool (xs.any p):=by
 refine Spec.of (n:=9) (vs:=[va,.func (.func g) #[] cs.toArray]) Tryz.func197 rfl Tryz.ntmps197 rfl ?_
 refine sj [.p] Z<|aj Z<|nl<|sj [.p,.p,.e,.p,.p] Z<|mj Z<|mj Z<|Rg.callP Z Z Z (mz Z) (indexFunc_spec (ha.mono fun b o h=>Or.inr h) hN p g cs (fun F' hF'=>hs F' fun b o h=>hF' b o (Or.inr h))) ?_
 rintro _ ⟨r,rfl,hr⟩
 refine uj Z (Pv.geq Z Z)<|aj Z<|nl<|vz Z (tz Z) ?_
 exact congrArg Value.bool hr
theorem right_spec {F:Fm} {va:Value} {es:List Eg} (ha:Arg edgeE F va es) (hN:es.length<1073741824) (hE:∀e∈es,InE e) (N:Int) :
 Spec Tryz.prog 189 #[grV N va] F [] fun v _=>v=.bool (rightG N es):=by
 obtain ⟨p,c,rfl⟩:=ha.shape
 refine Spec.of (n:=22) (vs:=[grV N (.slice p es.length c)]) Tryz.func189 rfl Tryz.ntmps189 rfl ?_
 refine sj [.e,.p] Z<|Rg.box Z Z Z Z Z (fun b1=>?_)
 refine aj Z<|nl<|wj<|sj [.p,.r,.p,.p,.p,.r,.p,.p,.p,.p,.r,.p,.p,.p] Z<|fj Z<|lj Z Z<|uj Z (Pv.lss Z Z)<|mj Z ?_
 refine Rg.split (t:=6) Z (fun h6=>?_) (fun h6=>?_)
 · simp only [dt] at h6
   iterate 3 (first | refine Rg.skipP rfl rfl rfl ?_ | refine Rg.skipR rfl rfl rfl ?_ | refine Rg.skipE rfl rfl rfl ?_)
   refine qj Z Z<|mj Z ?_
   iterate 4 (first | refine Rg.skipP rfl rfl rfl ?_ | refine Rg.skipR rfl rfl rfl ?_ | refine Rg.skipE rfl rfl rfl ?_)
   refine qj Z Z<|nl<|Vc.condT Z<|sj [.p] Z<|aj Z<|nl<|vz Z (tz Z) ?_
   exact congrArg Value.bool (by unfold rightG;rw [decide_eq_false (show ¬0≤N by omega)];rfl)
 · simp only [df] at h6
   refine fj Z<|lj Z Z<|uj Z (Pv.gtr Z Z)<|pj Z Z<|mj Z ?_
   refine Rg.split (t:=11) Z (fun h11=>?_) (fun h11=>?_)
   · simp only [dt] at h11
     iterate 4 (first | refine Rg.skipP rfl rfl rfl ?_ | refine Rg.skipR rfl rfl rfl ?_ | refine Rg.skipE rfl rfl rfl ?_)
     refine qj Z Z<|nl<|Vc.condT Z<|sj [.p] Z<|aj Z<|nl<|vz Z (tz Z) ?_
     exact congrArg Value.bool (by unfold rightG;rw [decide_eq_false (show ¬N≤1048576 by omega)];simp)
   · simp only [df] at h11
     refine fj Z<|lj Z Z<|uj Z (Pv.lenS Z)<|uj Z (Pv.gtr Z Z)<|pj Z Z<|nl<|cj Z (fun h16=>?_) (fun h16=>?_)
     · simp only [dt] at h16
       refine sj [.p] Z<|aj Z<|nl<|vz Z (tz Z) ?_
       exact congrArg Value.bool (by unfold rightG;rw [decide_eq_false (show ¬es.length≤1048576 by omega)];simp)
     · simp only [df] at h16
       refine kj<|sj [.p,.r,.p,.e,.p,.p] Z<|fj Z<|lj Z Z<|uj Z (Pv.mkF Z Z) ?_
       refine Rg.callP Z Z Z (mz Z) (containsFunc_spec (ha.mono fun b o h=>Or.inr h) hN (fun e=>decide (N≤(e.f:Int))||decide (N≤(e.t:Int))) 198 [.pointer (some ⟨b1,0,none⟩)] (fun F' hF' x hx=>by have:Fat F' b1 (cellsO [.int .i64 N,.slice p es.length c] 27):=⟨hF' _ _ (.inl (by simp))⟩;exact right1_spec x (hE x hx))) ?_
       rintro _ rfl
       refine uj Z (Pv.not Z)<|aj Z<|nl<|vz Z (tz Z) ?_
       exact congrArg Value.bool (by unfold rightG;rw [decide_eq_true (show 0≤N by omega),decide_eq_true (show N≤1048576 by omega),decide_eq_true (show es.length≤1048576 by omega)];rfl)
def nums (e:Eg):List Nat:=[e.f,e.t,e.w]
def encE (e:Eg):List UInt8:=(nums e).flatMap (leBytes 4)
def encG (N:Nat) (es:List Eg):List UInt8:=leBytes 4 N++es.flatMap encE
@[simp] theorem encE_length (e:Eg):(encE e).length=12:=by simp [encE,nums]
@[simp] theorem encs_length:∀es:List Eg,(es.flatMap encE).length=12*es.length
 | []=>rfl
 | e::es=>by simp [encs_length es];omega
def egAt (bs:List UInt8) (i:Nat):Eg:=⟨getB bs (4+12*i) 4,getB bs (4+12*i+4) 4,getB bs (4+12*i+8) 4⟩
def scanE (n:Nat) (bs:List UInt8):Nat→Nat→Option Nat
 | _,0=>none
 | i,k+1=>if n≤(egAt bs i).f then some (4+12*i) else if n≤(egAt bs i).t then some (4+12*i+4) else scanE n bs (i+1) k
def decG (bs:List UInt8):Nat×List Eg×Nat×Nat :=
 if bs.length % 12≠4 then (0,[],bs.length,2)
 else if 1048576<getB bs 0 4 then (0,[],0,1)
 else if 1048576<bs.length / 12 then (0,[],4,1)
 else match scanE (getB bs 0 4) bs 0 (bs.length / 12) with
  | some place=>(0,[],place,1)
  | none=>(getB bs 0 4,(List.range (bs.length / 12)).map (egAt bs),0,0)
theorem getB_lt (bs:List UInt8) (at_:Nat):getB bs at_ 4<4294967296:=by
 have h:=leNum_lt ((bs.drop at_).take 4)
 have h2:((bs.drop at_).take 4).length≤4:=by simp;omega
 have h3:256 ^ ((bs.drop at_).take 4).length≤256 ^ 4:=Nat.pow_le_pow_right (by decide) h2
 unfold getB
 omega
theorem set_get {α:Type} [Inhabited α] (ys:List α) {i:Nat} (x:α) (h:i<ys.length):(ys.set i x)[i]! = x:=by
 rw [getElem!_pos _ _ (by simpa using h)];simp
theorem set_take {α:Type} [Inhabited α] (ys:List α) {i:Nat} (x:α) (h:i<ys.length):(ys.set i x).take (i+1)=ys.take i++[x]:=by
 rw [take_get _ (by simpa using h),set_get ys x h,List.take_set,List.set_eq_of_length_le (by simp;omega)]
theorem number_spec {F:Fm} {va:Value} {bs:List UInt8} (ha:Arg byteE F va bs) (hN:bs.length<1073741824) (at_:Nat) (hat:at_+4≤bs.length) :
 Spec Tryz.prog 188 #[va,.int .i64 (at_:Int)] F [] fun v _=>v=.int .u32 (getB bs at_ 4:Nat):=by
 have hlt:=getB_lt bs at_
 refine Spec.of (n:=15) (vs:=[va,.int .i64 (at_:Int)]) Tryz.func188 rfl Tryz.ntmps188 rfl ?_
 refine sj [.p] Z<|aj Z<|nl<|sj [.p,.p,.e,.p,.p,.p,.p,.p] Z<|mj Z<|mj Z<|Rg.callP Z Z Z (mz Z) (get_spec (ha.mono fun b o h=>Or.inr h) hN at_ 4 (by decide) (by decide) hat) ?_
 rintro _ rfl
 refine mj Z<|xj Z Z<|xj Z Z<|aj Z<|aj Z<|nl<|sj [.p,.p,.p] Z<|mj Z<|uj Z (Pv.asI (getB bs at_ 4) (Pv.convI rfl) (wrap_ult rfl (by show _<2 ^ 32;omega)))<|aj Z<|nl<|vz Z (tz Z) ?_
 rfl
theorem decode_spec {F:Fm} {va:Value} {bs:List UInt8} (ha:Arg byteE F va bs) (hN:bs.length<1073741824) :
 Spec Tryz.prog 182 #[va] F [] fun v s=>∃u,v=.tuple #[grV ((decG bs).1:Int) u,.int .i64 ((decG bs).2.2.1:Int),.int .i64 ((decG bs).2.2.2:Int)]∧Own edgeE u (decG bs).2.1 s:=by
 obtain ⟨p,c,rfl⟩:=ha.shape
 refine Spec.of (n:=81) (vs:=[.slice p bs.length c]) Tryz.func182 rfl Tryz.ntmps182 rfl ?_
 refine sj [.e,.p,.p] Z<|Rg.alloc Z Z Z Z (fun b2=>?_)
 refine aj Z<|aj Z<|nl<|wj<|sj [.p,.p,.p,.p] Z<|mj Z<|uj Z (Pv.lenS Z)<|uj Z (Pv.rem rfl rfl (by omega))<|uj Z (Pv.neq Z Z)<|nl<|cj Z (fun h13=>?_) (fun h13=>?_)
 · simp only [bne_iff_ne,ne_eq] at h13
   have hd:decG bs=(0,[],bs.length,2):=by
    have:bs.length % 12≠4:=by omega
    simp [decG,this]
   refine sj [.r,.p,.p,.e,.p,.p] Z<|rj Z (Ev.ldA Z Z)<|mj Z<|uj Z (Pv.lenS Z)<|Rg.storeA Z Z Z Z Z Z Z Z<|aj Z<|aj Z<|nl ?_
   exact vr (hl':=[]) rfl (.cons (.cellA rfl rfl) (.cons (.tmp rfl) (tz Z))) (by rw [hd];exact ⟨.slice none 0 0,rfl,Own.nil⟩) pulled
 · simp only [bne_eq_false_iff_eq] at h13
   have hm:bs.length % 12=4:=by omega
   have hlt:=getB_lt bs 0
   generalize hn:getB bs 0 4=n at hlt
   refine kj<|sj [.p,.e,.p,.p,.p,.p,.p] Z<|mj Z<|Rg.callP Z Z Z (mz Z) (number_spec (ha.mono fun b o h=>Or.inr h) hN 0 (by omega)) ?_
   rintro _ rfl
   rw [hn]
   refine mj Z<|uj Z (Pv.lenS Z)<|uj Z (Pv.asI (bs.length / 12) (Pv.quo rfl rfl (by omega)) (by omega))<|aj Z<|aj Z<|nl<|wj<|bj<|sj [.p,.p,.p] Z<|mj Z<|uj Z (Pv.gtr Z Z)<|aj Z<|nl<|cj Z (fun h22=>?_) (fun h22=>?_)
   · simp only [dt] at h22
     have hd:decG bs=(0,[],0,1):=by
      have:1048576<n:=by omega
      simp [decG,hm,hn,this]
     refine sj [.r,.e,.p,.p] Z<|rj Z (Ev.ldA Z Z)<|Rg.storeA Z Z Z Z Z Z Z Z<|aj Z<|aj Z<|nl ?_
     exact vr (hl':=[]) rfl (.cons (.cellA rfl rfl) (.cons (.tmp rfl) (tz Z))) (by rw [hd];exact ⟨.slice none 0 0,rfl,Own.nil⟩) pulled
   · simp only [df] at h22
     have hnb : ¬1048576<n:=by omega
     refine sj [.p,.p,.p] Z<|mj Z<|uj Z (Pv.gtr Z Z)<|aj Z<|nl<|cj Z (fun h26=>?_) (fun h26=>?_)
     · simp only [dt] at h26
       have hd:decG bs=(0,[],4,1):=by
        have:1048576<bs.length / 12:=by omega
        simp [decG,hm,hn,this,hnb]
       refine sj [.r,.e,.p,.p] Z<|rj Z (Ev.ldA Z Z)<|Rg.storeA Z Z Z Z Z Z Z Z<|aj Z<|aj Z<|nl ?_
       exact vr (hl':=[]) rfl (.cons (.cellA rfl rfl) (.cons (.tmp rfl) (tz Z))) (by rw [hd];exact ⟨.slice none 0 0,rfl,Own.nil⟩) pulled
     · simp only [df] at h26
       have hmb : ¬1048576<bs.length / 12:=by omega
       have hlen12:bs.length=12*(bs.length / 12)+4:=by omega
       generalize hk:bs.length / 12=many at hmb hlen12
       refine kj<|dj<|sj [.p,.e,.p] Z<|mj Z<|Rg.makeN edgeE ⟨0,0,0⟩ (hz:=⟨Tryz.zeroValue79⟩) rfl rfl rfl rfl rfl (by simp [maxLen]<;>omega) (fun b31 own31=>?_)
       refine aj Z<|nl<|wj<|sj [.p,.p,.p] Z<|mj Z<|uj Z (Pv.lenS Z)<|mj Z<|nl<|bj ?_
       refine Vc.loop2 (fun (i:Nat) (ys:List Eg)=>i≤many∧ys.length=many∧ys.take i=(List.range i).map (egAt bs)∧scanE n bs 0 many=scanE n bs i (many-i)) (fun i ys=>[(0,.slice p bs.length c),(2,.pointer (some ⟨b2,0,none⟩)),(5,.int .u32 (n:Int)),(7,.slice (some ⟨b31,0,none⟩) many many),(33,.int .i64 (many:Int)),(34,.int .i64 (i:Int))]) (fun i ys=>[(b31,rowS edgeE ys []),(b2,cellsO [.int .i64 0,.slice none 0 0] 27)]) (fun i ys=>many-i) 0 (List.replicate many ⟨0,0,0⟩) ⟨Nat.zero_le _,by simp,by simp,rfl⟩ (.cons rfl (.cons rfl (.cons rfl (.cons rfl (.cons rfl (.cons rfl .nil)))))) pulled ?_
       rintro i ys ⟨h1,h2,h3,h4⟩
       refine sj [.p] Z<|uj Z (Pv.lss Z Z)<|nl<|wj<|cj Z (fun h35=>?_) (fun h35=>?_)
       · simp only [dt] at h35
         have hiy:i<ys.length:=by omega
         have hg:=set_get ys (egAt bs i) hiy
         have hst:=set_take ys (egAt bs i) hiy
         rw [show many-i=(many-(i+1))+1 by omega,scanE] at h4
         refine kj<|wj<|bj<|sj [.p,.p] Z<|mj Z<|aj Z<|nl<|sj [.p,.p,.p,.p] Z<|mj Z<|uj Z (Pv.asI (12*i) (Pv.mul rfl rfl (by omega)) (by omega))<|uj Z (Pv.asI (4+12*i) (Pv.add rfl rfl (by omega)) (by omega))<|aj Z<|nl<|sj [.p,.p,.p,.p,.e,.p,.p,.p,.e,.p,.p,.p,.e,.p,.p,.e] Z<|mj Z ?_
         refine mj Z<|mj Z<|mj Z<|Rg.callP Z Z Z (mz Z) (number_spec (ha.mono fun b o h=>Or.inr h) hN (4+12*i) (by omega)) ?_
         rintro _ rfl
         refine mj Z<|mj Z<|uj Z (Pv.asI (4+12*i+4) (Pv.add rfl rfl (by omega)) (by omega))<|Rg.callP Z Z Z (mz Z) (number_spec (ha.mono fun b o h=>Or.inr h) hN (4+12*i+4) (by omega)) ?_
         rintro _ rfl
         refine mj Z<|mj Z<|uj Z (Pv.asI (4+12*i+8) (Pv.add rfl rfl (by omega)) (by omega))<|Rg.callP Z Z Z (mz Z) (number_spec (ha.mono fun b o h=>Or.inr h) hN (4+12*i+8) (by omega)) ?_
         rintro _ rfl
         refine uj Z (Pv.build Z Z)<|uj Z (Pv.ixA (i) rfl rfl (by omega) (by omega))<|Rg.storeR (z:=egAt bs i) (i) Z Z Z Z Z Z (Nat.zero_add _) hiy Z<|nl<|bj<|sj [.p,.p,.p,.p,.r,.p,.p,.p] Z<|mj Z<|mj Z<|uj Z (Pv.ixA (i) rfl rfl (by omega) (by omega))<|fj Z<|rj Z (Ev.ldRf (E:=edgeE) (u:=.int .u32 ((egAt bs i).f:Int)) i 0 rfl (by rw [Nat.zero_add];rfl) (by simpa using hiy) (by rw [hg];rfl))<|mj Z<|uj Z (Pv.geq Z Z)<|aj Z<|nl ?_
         refine cj Z (fun h55=>?_) (fun h55=>?_)
         · simp only [dt] at h55
           rw [if_pos (by omega)] at h4
           have hd:decG bs=(0,[],4+12*i,1):=by
            simp [decG,hm,hn,hnb,hk,hmb,h4]
           refine sj [.r,.p,.e,.p,.p] Z<|rj Z (Ev.ldA Z Z)<|mj Z<|Rg.storeA Z Z Z Z Z Z Z Z<|aj Z<|aj Z<|nl ?_
           exact vr (hl':=[]) rfl (.cons (.cellA rfl rfl) (.cons (.tmp rfl) (tz Z))) (by rw [hd];exact ⟨.slice none 0 0,rfl,Own.nil⟩) pulled
         · simp only [df] at h55
           rw [if_neg (by omega)] at h4
           refine sj [.p,.p,.p,.p,.r,.p,.p,.p] Z<|mj Z<|mj Z<|uj Z (Pv.ixA (i) rfl rfl (by omega) (by omega))<|fj Z<|rj Z (Ev.ldRf (E:=edgeE) (u:=.int .u32 ((egAt bs i).t:Int)) i 1 rfl (by rw [Nat.zero_add];rfl) (by simpa using hiy) (by rw [hg];rfl))<|mj Z<|uj Z (Pv.geq Z Z)<|aj Z<|nl<|cj Z (fun h65=>?_) (fun h65=>?_)
           · simp only [dt] at h65
             rw [if_pos (by omega)] at h4
             have hd:decG bs=(0,[],4+12*i+4,1):=by
              simp [decG,hm,hn,hnb,hk,hmb,h4]
             refine sj [.r,.p,.p,.e,.p,.p] Z<|rj Z (Ev.ldA Z Z)<|mj Z<|uj Z (Pv.asI (4+12*i+4) (Pv.add rfl rfl (by omega)) (by omega))<|Rg.storeA Z Z Z Z Z Z Z Z<|aj Z<|aj Z<|nl ?_
             exact vr (hl':=[]) rfl (.cons (.cellA rfl rfl) (.cons (.tmp rfl) (tz Z))) (by rw [hd];exact ⟨.slice none 0 0,rfl,Own.nil⟩) pulled
           · simp only [df] at h65
             rw [if_neg (by omega)] at h4
             refine kj<|dj<|dj<|tj [.p,.p] Z<|uj Z (Pv.asI (i+1) (Pv.add rfl rfl (by omega)) (by omega))<|mj Z<|nl ?_
             exact Vc.inv2 (i+1) (ys.set i (egAt bs i)) ⟨⟨by omega,by simpa using h2,by rw [hst,h3,List.range_succ,List.map_append];rfl,h4⟩,by omega⟩ (.cons rfl (.cons rfl (.cons rfl (.cons rfl (.cons rfl (.cons rfl .nil)))))) pulled
       · simp only [df] at h35
         obtain rfl:i=many:=by omega
         rw [List.take_of_length_le (by omega)] at h3
         rw [Nat.sub_self,scanE] at h4
         have hd:decG bs=(n,ys,0,0):=by
          simp [decG,hm,hn,hnb,hk,hmb,h4,h3]
         refine Vc.exit Z<|sj [.p,.p,.p,.p,.e,.p,.p] Z<|mj Z<|uj Z (Pv.asI n (Pv.convI rfl) (i64_wrap (by omega)))<|mj Z<|uj Z (Pv.build Z Z)<|Rg.storeA Z Z Z Z Z Z Z Z<|aj Z<|aj Z<|nl ?_
         exact vr (hl':=[(b31,rowS edgeE ys [])]) rfl (.cons (.cellA rfl rfl) (.cons (.tmp rfl) (tz Z))) (by rw [hd];exact ⟨_,rfl,Own.blk' b31 i i ys [] h2.symm (by simp) (by simp [maxLen];omega)⟩) pulled
theorem rdecode_spec {F:Fm} {va:Value} {bs:List UInt8} (ha:Arg byteE F va bs) (hN:bs.length<1073741824) :
 Spec Tryz.prog 14 #[va] F [] fun v s=>∃u,v=.tuple #[grV ((decG bs).1:Int) u,.int .i64 ((decG bs).2.2.1:Int),.int .i64 ((decG bs).2.2.2:Int)]∧Own edgeE u (decG bs).2.1 s:=by
 obtain ⟨p,c,rfl⟩:=ha.shape
 refine Spec.of (n:=93) (vs:=[.slice p bs.length c]) Tryz.func14 rfl Tryz.ntmps14 rfl ?_
 refine sj [.e,.p,.p] Z<|Rg.alloc Z Z Z Z (fun b2=>?_)
 refine aj Z<|aj Z<|nl<|wj<|sj [.p,.p,.p,.p,.p,.p,.p,.p,.p] Z<|mj Z<|uj Z (Pv.lenS Z)<|uj Z (Pv.lss Z Z)<|mj Z<|Rg.split (t:=18) Z (fun h18=>?_) (fun h18=>?_)
 · simp only [dt] at h18
   have hm : ¬bs.length % 12=4:=by omega
   have hd:decG bs=(0,[],bs.length,2):=by simp [decG,hm]
   iterate 4 (first | refine Rg.skipP rfl rfl rfl ?_ | refine Rg.skipR rfl rfl rfl ?_ | refine Rg.skipE rfl rfl rfl ?_)
   refine qj Z Z<|nl<|Vc.condT Z<|sj [.p,.p,.p,.e,.p,.p] Z<|uj Z (Pv.build Z Z)<|mj Z<|uj Z (Pv.lenS Z)<|Rg.storeA Z Z Z Z Z Z Z Z<|aj Z<|aj Z<|nl ?_
   exact vr (hl':=[]) rfl (.cons (.cellA rfl rfl) (.cons (.tmp rfl) (tz Z))) (by rw [hd];exact ⟨.slice none 0 0,rfl,Own.nil⟩) pulled
 · simp only [df] at h18
   refine mj Z<|uj Z (Pv.lenS Z)<|uj Z (Pv.rem rfl rfl (by omega))<|uj Z (Pv.neq Z Z)<|pj Z Z<|nl<|cj Z (fun h23=>?_) (fun h23=>?_)
   · simp only [bne_iff_ne,ne_eq] at h23
     have hd:decG bs=(0,[],bs.length,2):=by
      have:bs.length % 12≠4:=by omega
      simp [decG,this]
     refine sj [.p,.p,.p,.e,.p,.p] Z<|uj Z (Pv.build Z Z)<|mj Z<|uj Z (Pv.lenS Z)<|Rg.storeA Z Z Z Z Z Z Z Z<|aj Z<|aj Z<|nl ?_
     exact vr (hl':=[]) rfl (.cons (.cellA rfl rfl) (.cons (.tmp rfl) (tz Z))) (by rw [hd];exact ⟨.slice none 0 0,rfl,Own.nil⟩) pulled
   · simp only [bne_eq_false_iff_eq] at h23
     have hm:bs.length % 12=4:=by omega
     have hlt:=getB_lt bs 0
     generalize hn:getB bs 0 4=n at hlt
     refine kj<|sj [.p,.e,.p,.p,.p,.p,.p] Z<|mj Z<|Rg.callP Z Z Z (mz Z) (rget_spec (ha.mono fun b o h=>Or.inr h) hN 0 4 (by decide) (by decide) (by omega)) ?_
     rintro _ rfl
     rw [hn]
     refine mj Z<|xj Z Z<|xj Z Z<|aj Z<|aj Z<|nl<|wj<|sj [.p,.p] Z<|mj Z<|uj Z (Pv.gtr Z Z)<|nl<|cj Z (fun h33=>?_) (fun h33=>?_)
     · simp only [dt] at h33
       have hd:decG bs=(0,[],0,1):=by
        have:1048576<n:=by omega
        simp [decG,hm,hn,this]
       refine sj [.p,.e,.p,.p] Z<|uj Z (Pv.build Z Z)<|Rg.storeA Z Z Z Z Z Z Z Z<|aj Z<|aj Z<|nl ?_
       exact vr (hl':=[]) rfl (.cons (.cellA rfl rfl) (.cons (.tmp rfl) (tz Z))) (by rw [hd];exact ⟨.slice none 0 0,rfl,Own.nil⟩) pulled
     · simp only [df] at h33
       have hnb : ¬1048576<n:=by omega
       refine kj<|wj<|sj [.p,.p,.p,.p] Z<|mj Z<|uj Z (Pv.lenS Z)<|uj Z (Pv.asI (bs.length / 12) (Pv.quo rfl rfl (by omega)) (by omega))<|uj Z (Pv.gtr Z Z)<|nl<|cj Z (fun h38=>?_) (fun h38=>?_)
       · simp only [dt] at h38
         have hd:decG bs=(0,[],4,1):=by
          have:1048576<bs.length / 12:=by omega
          simp [decG,hm,hn,this,hnb]
         refine sj [.p,.e,.p,.p] Z<|uj Z (Pv.build Z Z)<|Rg.storeA Z Z Z Z Z Z Z Z<|aj Z<|aj Z<|nl ?_
         exact vr (hl':=[]) rfl (.cons (.cellA rfl rfl) (.cons (.tmp rfl) (tz Z))) (by rw [hd];exact ⟨.slice none 0 0,rfl,Own.nil⟩) pulled
       · simp only [df] at h38
         have hmb : ¬1048576<bs.length / 12:=by omega
         have hlen12:bs.length=12*(bs.length / 12)+4:=by omega
         generalize hk:bs.length / 12=many at hmb hlen12
         refine kj<|sj [.p,.p,.p,.e,.e] Z<|mj Z<|uj Z (Pv.asI n (Pv.convI rfl) (i64_wrap (by omega)))<|uj Z (Pv.build (c:=#[.int .i64 (n:Int),.slice none 0 0]) Z Z)<|Rg.alloc Z Z Z Z (fun b7=>?_)
         refine Rg.storeA Z Z Z Z Z Z Z Z<|nl<|wj<|sj [.p] Z<|aj Z<|nl<|bj ?_
         refine Vc.loop3 (fun (i:Nat) (v:Value) (sg:Hl)=>i≤many∧Own edgeE v ((List.range i).map (egAt bs)) sg∧scanE n bs 0 many=scanE n bs i (many-i)) (fun i v sg=>[(0,.slice p bs.length c),(2,.pointer (some ⟨b2,0,none⟩)),(5,.int .u64 (n:Int)),(7,.pointer (some ⟨b7,0,none⟩)),(8,.int .i64 ((4+12*i:Nat):Int))]) (fun i v sg=>(b7,cellsO [.int .i64 (n:Int),v] 27)::(b2,cellsO [.int .i64 0,.slice none 0 0] 27)::sg) (fun i v sg=>many-i) 0 (.slice none 0 0) [] ⟨Nat.zero_le _,Own.nil,Z⟩ (.cons Z (.cons Z (.cons Z (.cons Z (.cons Z .nil))))) pulled ?_
         rintro i v sg ⟨h1,own,h4⟩
         refine wj<|sj [.p,.p,.p,.p] Z<|mj Z<|mj Z<|uj Z (Pv.lenS Z)<|uj Z (Pv.lss Z Z)<|nl<|cj Z (fun h46=>?_) (fun h46=>?_)
         · simp only [dt] at h46
           rw [show many-i=(many-(i+1))+1 by omega,scanE] at h4
           have hl1:=getB_lt bs (4+12*i)
           have hl2:=getB_lt bs (4+12*i+4)
           have hl3:=getB_lt bs (4+12*i+8)
           refine kj<|wj<|bj<|sj [.p,.p,.e,.p,.p,.p,.p,.p] Z<|mj Z<|mj Z<|Rg.callP Z Z Z (mz Z) (rget_spec (ha.mono fun b o h=>Or.inr h) hN (4+12*i) 4 (by decide) (by decide) (by omega)) ?_
           rintro _ rfl
           refine mj Z<|xj Z Z<|xj Z Z<|aj Z<|aj Z<|nl<|sj [.p,.p,.p,.e,.p,.p,.p,.p,.p] Z<|mj Z<|mj Z<|uj Z (Pv.asI (4+12*i+4) (Pv.add rfl rfl (by omega)) (by omega))<|Rg.callP Z Z Z (mz Z) (rget_spec (ha.mono fun b o h=>Or.inr h) hN (4+12*i+4) 4 (by decide) (by decide) (by omega)) ?_
           rintro _ rfl
           refine mj Z<|xj Z Z<|xj Z Z<|aj Z<|aj Z<|nl<|sj [.p,.p,.p,.e,.p,.p,.p,.p,.p] Z<|mj Z<|mj Z<|uj Z (Pv.asI (4+12*i+8) (Pv.add rfl rfl (by omega)) (by omega))<|Rg.callP Z Z Z (mz Z) (rget_spec (ha.mono fun b o h=>Or.inr h) hN (4+12*i+8) 4 (by decide) (by decide) (by omega)) ?_
           rintro _ rfl
           refine mj Z<|xj Z Z<|xj Z Z<|aj Z<|aj Z<|nl<|wj<|sj [.p,.p,.p] Z<|mj Z<|mj Z<|uj Z (Pv.geq Z Z)<|nl<|cj Z (fun h71=>?_) (fun h71=>?_)
           · simp only [dt] at h71
             rw [if_pos (show n≤(egAt bs i).f by show n≤getB bs (4+12*i) 4;omega)] at h4
             have hd:decG bs=(0,[],4+12*i,1):=by
              simp [decG,hm,hn,hnb,hk,hmb,h4]
             refine sj [.p,.p,.e,.p,.p] Z<|uj Z (Pv.build Z Z)<|mj Z<|Rg.storeA Z Z Z Z Z Z Z Z<|aj Z<|aj Z<|nl ?_
             exact vr (hl':=[]) rfl (.cons (.cellA rfl rfl) (.cons (.tmp rfl) (tz Z))) (by rw [hd];exact ⟨.slice none 0 0,rfl,Own.nil⟩) pulled
           · simp only [df] at h71
             rw [if_neg (show ¬n≤(egAt bs i).f by show ¬n≤getB bs (4+12*i) 4;omega)] at h4
             refine kj<|wj<|sj [.p,.p,.p] Z<|mj Z<|mj Z<|uj Z (Pv.geq Z Z)<|nl<|cj Z (fun h76=>?_) (fun h76=>?_)
             · simp only [dt] at h76
               rw [if_pos (show n≤(egAt bs i).t by show n≤getB bs (4+12*i+4) 4;omega)] at h4
               have hd:decG bs=(0,[],4+12*i+4,1):=by
                simp [decG,hm,hn,hnb,hk,hmb,h4]
               refine sj [.p,.p,.p,.e,.p,.p] Z<|uj Z (Pv.build Z Z)<|mj Z<|uj Z (Pv.asI (4+12*i+4) (Pv.add rfl rfl (by omega)) (by omega))<|Rg.storeA Z Z Z Z Z Z Z Z<|aj Z<|aj Z<|nl ?_
               exact vr (hl':=[]) rfl (.cons (.cellA rfl rfl) (.cons (.tmp rfl) (tz Z))) (by rw [hd];exact ⟨.slice none 0 0,rfl,Own.nil⟩) pulled
             · simp only [df] at h76
               rw [if_neg (show ¬n≤(egAt bs i).t by show ¬n≤getB bs (4+12*i+4) 4;omega)] at h4
               refine kj<|tj [.p,.r,.p,.p,.p,.p,.p,.p,.p,.e,.e,.p,.e] Z<|fj Z<|lj Z Z<|mj Z<|uj Z (Pv.asI (egAt bs i).f (Pv.convI rfl) (wrap_ult rfl (by show _<2 ^ 32;omega)))<|mj Z<|uj Z (Pv.asI (egAt bs i).t (Pv.convI rfl) (wrap_ult rfl (by show _<2 ^ 32;omega)))<|mj Z<|uj Z (Pv.asI (egAt bs i).w (Pv.convI rfl) (wrap_ult rfl (by show _<2 ^ 32;omega)))<|uj Z (Pv.build Z Z) ?_
               refine Rg.bslice1 Z Z Z Z Z Z Z (fun b89=>?_)
               refine Rg.append Z Z Z Z Z own (Src.one (y:=egAt bs i) rfl) (by simp<;>omega) (by simp [maxLen]<;>omega) rfl (fun v90 s90 own90=>?_)
               refine fj Z ?_
               refine Rg.store Z Z Z Z Z own90.one Z Z<|nl<|dj<|tj [.p,.p,.p] Z<|mj Z<|uj Z (Pv.asI (4+12*(i+1)) (Pv.add rfl rfl (by omega)) (by omega))<|aj Z<|nl ?_
               exact Vc.inv3 (i+1) v90 s90 ⟨⟨by omega,by rw [List.range_succ,List.map_append];exact own90,h4⟩,by omega⟩ (.cons rfl (.cons rfl (.cons rfl (.cons rfl (.cons rfl .nil))))) pulled
         · simp only [df] at h46
           obtain rfl:i=many:=by omega
           rw [Nat.sub_self,scanE] at h4
           obtain ⟨qv,cv,rfl⟩:=own.shape
           have hd:decG bs=(n,(List.range i).map (egAt bs),0,0):=by
            simp [decG,hm,hn,hnb,hk,hmb,h4]
           refine Vc.exit Z<|sj [.r,.e,.p,.p] Z<|rj Z (Ev.ldA Z Z)<|Rg.storeA Z Z Z Z Z Z Z Z<|aj Z<|aj Z<|nl ?_
           exact vr (hl':=sg) rfl (.cons (.cellA rfl rfl) (.cons (.tmp rfl) (tz Z))) (by rw [hd];exact ⟨_,rfl,own⟩) pulled
end ED
structure Prg where
 kind:Int
 start:Nat
abbrev prV (p:Prg):Value:=.agg #[.int .i64 p.kind,.int .u32 (p.start:Int)]
abbrev prC (p:Prg):List Value:=[.int .i64 p.kind,.int .u32 (p.start:Int)]
structure Cf where
 vals:List Int
 live:List Bool
abbrev cfV (a b:Value):Value:=.agg #[a,b]
def rightP (p:Prg) (n:Int):Bool:=decide (1≤p.kind)&&(decide (p.kind≤5)&&(decide (0≤n)&&(decide (n≤1048576)&&(decide (p.kind≠1∧p.kind≠3)||decide ((p.start:Int)<n)))))
theorem rightP_iff {p:Prg} {n:Int}:rightP p n=true↔1≤p.kind∧p.kind≤5∧0≤n∧n≤1048576∧((p.kind≠1∧p.kind≠3)∨(p.start:Int)<n):=by simp [rightP]
def howP (p:Prg):Int:=if p.kind=4∨p.kind=5 then 1 else 2
def msgP (p:Prg) (val:Int) (out w:Int):Int:=if p.kind=1 then comb 1 val 1 else if p.kind=3 then comb 1 val w else if p.kind=4 then (if out<1 then 0 else val / out) else if p.kind=5 then 1 else val
def lessN (val:Int):Option Int→Int×Bool
 | some s=>if s<val then (s,true) else (val,false)
 | none=>(val,false)
def nextP (p:Prg) (val:Int) (o:Option Int):Int×Bool :=
 if p.kind=4 then (157284+o.getD 0 / 20*17,decide (157284+o.getD 0 / 20*17≠val)) else if p.kind=5 then (o.getD 0,false) else lessN val o
def quietC (c:Cf):Bool:=!c.live.any id
def sA (p:Prg) (v:Nat):Int:=if p.kind=2 then v else if p.kind=4 then 1048576 else if p.kind=1∨p.kind=3 then (if v=p.start then 0 else 18446744073709551615) else 0
def sB (p:Prg) (v:Nat):Bool:=if p.kind=1∨p.kind=3 then decide (v=p.start) else true
def startC (p:Prg) (n:Nat):Cf:=⟨(List.range n).map (sA p),(List.range n).map (sB p)⟩
def InU (x:Int):Prop:=0≤x∧x<18446744073709551616
def u64E:Enc Int where
 k:=1
 tid:=36
 cells:=fun a=>[.int .u64 a]
 val:=fun a=>.int .u64 a
 pos:=by decide
 len:=fun _=>rfl
 one:=fun x v hv=>by simp at hv;subst hv;rfl
 vc:=fun _=>rfl
instance : RowTy Tryz.prog u64E 36:=⟨Tryz.sizeOf36,.inr ⟨Tryz.isAgg36,rfl,fun _=>rfl⟩⟩
instance : TySl Tryz.prog 82 u64E 8:=⟨Tryz.underlying82,Tryz.t36,.int .u64 0,by kernel_rfl,by kernel_rfl,rfl,rfl,rfl⟩
instance : TyZero Tryz.prog u64E.tid (u64E.val 0):=inferInstanceAs (TyZero Tryz.prog 36 (.int .u64 0))
instance : TyZero Tryz.prog boolE.tid (boolE.val false):=inferInstanceAs (TyZero Tryz.prog 4 (.bool false))
theorem list_of {α:Type} [Inhabited α] {ys:List α} {n:Nat} {f:Nat→α} (hl:ys.length=n) (h:∀j,j<n→ys[j]! = f j):ys=(List.range n).map f:=by
 refine List.ext_getElem (by simp [hl]) fun i h1 h2=>?_
 have:=h i (by omega)
 rw [getElem!_pos ys i h1] at this
 simp [this]
theorem get_set2 {α:Type} [Inhabited α] (l:List α) (i j:Nat) (x:α) (hj:j<l.length):(l.set i x)[j]! = if i=j then x else l[j]! := by
 rw [getElem!_pos (l.set i x) j (by rw [List.length_set];exact hj),List.getElem_set,getElem!_pos l j hj]
theorem rep_at {α:Type} [Inhabited α] (n j:Nat) (x:α) (h:j<n):(List.replicate n x)[j]! = x:=by
 rw [getElem!_pos (List.replicate n x) j (by simpa using h)];simp
section
variable {P : Program} {n : Nf} {F : Fm} {l : Env} {hl : Hl} {d : Option Tmp} {ty : TypeId} {pos : String} {af : Array Edge} {g : Option (Nat × Bool)}
variable {Qf : Exit → Act → World → Prop} {ks : List KItem} {ops : List Oper} {clr : List Nat} {hs : Hl} {r : Sd} {i : Nat}
theorem Pv.ixK {t e k b off m c:Nat} {kd:IntKind} {x y:Operand} {z:Int} (j:Nat) [ht:TyUnder P t (.slice e)] [hs:TySize P e k] (hx:ev l x=some (.slice (some ⟨b,off,none⟩) m c)) (hy:ev l y=some (.int kd z)) (hij:z=(j:Int)) (hj:j<m) :
 Pv P n l ⟨d,.indexAddr t x y,ty,pos,af,g⟩ (.pointer (some ⟨b,off+j*k,none⟩)):=fun a w hf=>by
 subst hij
 have h2:((⟨b,off,none⟩:Addr).add (j*k))=⟨b,off+j*k,none⟩:=by unfold Addr.add;split<;>simp_all
 simp [execOp,Instr.indexAt,run_underlying ht.under,hf.ev hx,hf.ev hy,asIntOf,hs.size,hj,h2,Int.toNat_natCast]
theorem Rg.storeRN {α:Type} {E:Enc α} [Inhabited α] {t b off:Nat} {x y:Operand} {d:Option Tmp} {z:α} {v:Value} {ys:List α} {sp:List Value} {rest q2:Hl} (j:Nat) (ho:nth ops i=some ⟨d,.store t x y,ty,pos,af,g⟩) (hg:wantB ops l g=some true) (hd:d=none)
 (hx:ev l x=some (.pointer (some ⟨b,off,none⟩))) (hy:ev l y=some v) [hb:Pull1 hl b (rowS E ys sp) rest] [ht:RowTy P E t] (hv:v=E.val z) (hoff:off=j*E.k) (hj:j<ys.length) [hr:PullL rest hs q2]
 (h:Rg P Qf n F ks ops clr hs r l ((b,rowS E (ys.set j z) sp)::rest)):Rg P Qf n F ks ops clr hs (.st i .eff r) l hl :=
 Rg.run ho hg fun a w hf hh=>by
  subst hd;subst hv;subst hoff
  have hlen:=flat_lt E ys (i:=E.k-1) hj (by have:=E.pos;omega)
  have hpos:=E.pos
  have hq:setsL (flat E ys++sp) (j*E.k) (E.cells z)=some (flat E (ys.set j z)++sp):=by
   rw [setsL_mk _ _ _ (by rw [E.len,ly];omega),flat_set ys j z hj,E.len]
   congr 1
   rw [List.take_append_of_le_length (by omega),List.drop_append_of_le_length (by omega)]
   simp
  have hc:(E.val z).cells=(E.cells z).toArray:=by rw [←E.vc]
  have hh':=hh.perm hb.perm
  have hrun:=run_storeAt (P:=P) (t:=t) ht.size hc (E.len z) (E.one z) (hh'.own b _ List.mem_cons_self) hq
  have hh2:=Lens.putB (put:=fun o'=>(b,o')::rest) ⟨[],rest,rfl,fun _=>rfl⟩ hh' (rowS E (ys.set j z) sp)
  exact ⟨_,l,_,hs,.inr ⟨by simp [execOp,hf.ev hx,hf.ev hy,hrun,rowS],hf⟩,hh2,⟨(b,rowS E (ys.set j z) sp)::q2,hh2.perm ((hr.perm.trans List.perm_append_comm).cons _)⟩,.same,h⟩
end
theorem cloneU_spec {F:Fm} {va:Value} {xs:List Int} (ha:Arg u64E F va xs) (hN:xs.length<4294967296) :
 Spec Tryz.prog 207 #[va] F [] fun v s=>Own u64E v xs s:=by
 obtain ⟨p,c,rfl⟩:=ha.shape
 refine Spec.of (n:=8) (vs:=[.slice p xs.length c]) Tryz.func207 rfl Tryz.ntmps207 rfl ?_
 refine sj [.p] Z<|aj Z<|nl<|wj<|sj [.p,.p] Z<|mj Z<|uj Z (Pv.eqlNilS Z Z)<|nl<|cj Z (fun h4=>?_) (fun h4=>?_)
 · obtain rfl:p=none:=by cases p with | none=>rfl | some a=>cases h4
   obtain rfl:xs=[]:=by
    rcases ha with ⟨_,e⟩ | ⟨_,_,_,e,_⟩
    · exact e
    · cases e
   refine sj [.p] Z<|aj Z<|nl<|vz Z (tz Z) ?_
   exact Own.nil
 · refine kj<|sj [.e,.p,.e,.p] Z<|Rg.bslice0 (E:=u64E) Z Z Z (fun b5 own5=>?_)
   refine mj Z<|Rg.append Z Z Z Z Z own5 ha.src (by simp<;>omega) (by simp [maxLen]<;>omega) rfl (fun v7 s7 own7=>?_)
   refine aj Z<|nl ?_
   exact vr rfl (tz Z) (own7) pulled
theorem indexT_spec {F:Fm} {va:Value} {xs:List Bool} (ha:Arg boolE F va xs) (hN:xs.length<4294967296) :
 Spec Tryz.prog 236 #[va,.bool true] F [] fun v _=>∃z:Int,v=.int .i64 z∧(0≤z↔xs.any id=true):=by
 obtain ⟨p,c,rfl⟩:=ha.shape
 refine Spec.of (n:=19) (vs:=[.slice p xs.length c,.bool true]) Tryz.func236 rfl Tryz.ntmps236 rfl ?_
 refine sj [.p] Z<|aj Z<|nl<|wj<|sj [.p,.p,.p] Z<|mj Z<|uj Z (Pv.lenS Z)<|mj Z<|nl<|bj ?_
 refine Vc.loop1 (fun (k:Nat)=>k≤xs.length∧(xs.take k).any id=false) (fun k=>[(0,.slice p xs.length c),(1,.bool true),(7,.int .i64 (xs.length:Int)),(8,.int .i64 (k:Int))]) (fun k=>[]) (fun k=>xs.length-k) 0 ⟨Nat.zero_le _,Z⟩ (.cons Z (.cons Z (.cons Z (.cons Z .nil)))) pulled ?_
 rintro k ⟨hk,hno⟩
 refine sj [.p] Z<|uj Z (Pv.lss Z Z)<|nl<|wj<|cj Z (fun h9=>?_) (fun h9=>?_)
 · simp only [dt] at h9
   have hk1:k<xs.length:=by omega
   obtain ⟨b,off,c',e,_⟩:=ha.block (by omega)
   cases e
   refine kj<|wj<|bj<|sj [.p,.p] Z<|mj Z<|aj Z<|nl<|sj [.p,.p,.p,.p,.r,.p] Z<|mj Z<|mj Z<|mj Z<|uj Z (Pv.ixA (k) rfl rfl (by omega) (by omega))<|rj Z (Ev.ldS (k) (ha.src) rfl rfl rfl (by omega))<|uj Z (Pv.eqlB Z Z)<|nl ?_
   refine cj Z (fun h16=>?_) (fun h16=>?_)
   · refine sj [.p,.p] Z<|mj Z<|aj Z<|nl<|vz Z (tz Z) ?_
     exact ⟨_,rfl,by
      have h1:xs[k]! = true:=by simpa using h16
      refine ⟨fun _=>?_,fun _=>by omega⟩
      rw [List.any_eq_true]
      exact ⟨xs[k]!,by rw [getElem!_pos xs k hk1];exact List.getElem_mem _,by simp [h1]⟩⟩
   · refine kj<|dj<|tj [.p,.p] Z<|uj Z (Pv.asI (k+1) (Pv.add rfl rfl (by omega)) (by omega))<|mj Z<|nl ?_
     exact Vc.inv1 (k+1) ⟨⟨by omega,by
      have h1:xs[k]! = false:=by simpa using h16
      rw [List.take_succ_eq_append_getElem hk1,List.any_append,hno,←getElem!_pos xs k hk1,h1];rfl⟩,by omega⟩ (.cons rfl (.cons rfl (.cons rfl (.cons rfl .nil)))) pulled
 · simp only [df] at h9
   rw [List.take_of_length_le (by omega)] at hno
   refine Vc.exit Z<|sj [.p] Z<|aj Z<|nl<|vz Z (tz Z) ?_
   exact ⟨_,rfl,by rw [hno];simp⟩
theorem containsT_spec {F:Fm} {va:Value} {xs:List Bool} (ha:Arg boolE F va xs) (hN:xs.length<4294967296) :
 Spec Tryz.prog 204 #[va,.bool true] F [] fun v _=>v=.bool (xs.any id):=by
 obtain ⟨p,c,rfl⟩:=ha.shape
 refine Spec.of (n:=9) (vs:=[.slice p xs.length c,.bool true]) Tryz.func204 rfl Tryz.ntmps204 rfl ?_
 refine sj [.p] Z<|aj Z<|nl<|sj [.p,.p,.e,.p,.p] Z<|mj Z<|mj Z<|Rg.callP Z Z Z (mz Z) (indexT_spec (ha.mono fun b o h=>Or.inr h) hN) ?_
 rintro _ ⟨z,rfl,hz⟩
 refine uj Z (Pv.geq Z Z)<|aj Z<|nl<|vz Z (tz Z) ?_
 exact congrArg Value.bool (by rw [Bool.eq_iff_iff,dt];exact hz)
theorem mul64_spec {F:Fm} (n:Nat) (hn:n≤1048576):Spec Tryz.prog 274 #[.int .u64 1,.int .u64 (n:Int)] F [] fun v _=>v=.tuple #[.int .u64 0,.int .u64 (n:Int)]:=by
 have hand:∀a b:Nat,a<4294967296→a &&& 4294967295=a:=fun a b h=>by
  rw [show (4294967295:Nat)=2 ^ 32-1 by decide,Nat.and_two_pow_sub_one_eq_mod,Nat.mod_eq_of_lt (by omega)]
 have hsh:∀a:Nat,a<4294967296→a / 2 ^ 32=0:=fun a h=>Nat.div_eq_of_lt (by omega)
 refine Spec.of (n:=51) (vs:=[.int .u64 ((1:Nat):Int),.int .u64 (n:Int)]) Tryz.func274 rfl Tryz.ntmps274 rfl ?_
 refine sj [.p,.p] Z<|aj Z<|aj Z<|nl<|sj [.p,.p,.p] Z<|mj Z<|uj Z (Pv.asI 1 (Pv.andN' 1 4294967295 rfl rfl rfl (by show (1:Nat)<2 ^ 64;omega) (by show (4294967295:Nat)<2 ^ 64;omega)) (by rw [hand 1 0 (by omega)]))<|aj Z<|nl<|sj [.p,.p,.p] Z<|mj Z<|uj Z (Pv.asI 0 (Pv.shrN 1 32 rfl rfl (by decide)) (by decide))<|aj Z<|nl<|sj [.p,.p,.p] Z ?_
 refine mj Z<|uj Z (Pv.asI n (Pv.andN' n 4294967295 rfl rfl rfl (by show n<2 ^ 64;omega) (by show (4294967295:Nat)<2 ^ 64;omega)) (by rw [hand n 0 (by omega)]))<|aj Z<|nl<|sj [.p,.p,.p] Z<|mj Z<|uj Z (Pv.asI 0 (Pv.shrN n 32 rfl rfl (by decide)) (by rw [hsh n (by omega)]))<|aj Z<|nl<|sj [.p,.p,.p,.p] Z<|mj Z<|mj Z<|uj Z (Pv.asI n (Pv.mulW rfl rfl) (by rw [wrap_u64i (by omega)];omega))<|aj Z<|nl ?_
 refine sj [.p,.p,.p,.p,.p,.p,.p] Z<|mj Z<|mj Z<|uj Z (Pv.asI 0 (Pv.mulW rfl rfl) (by rw [wrap_u64i (by omega)];omega))<|mj Z<|uj Z (Pv.asI 0 (Pv.shrN n 32 rfl rfl (by decide)) (by rw [hsh n (by omega)]))<|uj Z (Pv.asI 0 (Pv.addW rfl rfl) (by decide))<|aj Z<|nl<|sj [.p,.p,.p] Z<|mj Z<|uj Z (Pv.asI 0 (Pv.andN' 0 4294967295 rfl rfl rfl (by show (0:Nat)<2 ^ 64;omega) (by show (4294967295:Nat)<2 ^ 64;omega)) (by decide))<|aj Z<|nl<|sj [.p,.p,.p] Z ?_
 refine mj Z<|uj Z (Pv.asI 0 (Pv.shrN 0 32 rfl rfl (by decide)) (by decide))<|aj Z<|nl<|sj [.p,.p,.p,.p,.p,.p] Z<|mj Z<|mj Z<|mj Z<|uj Z (Pv.asI 0 (Pv.mulW rfl rfl) (by decide))<|uj Z (Pv.asI 0 (Pv.addW rfl rfl) (by decide))<|aj Z<|nl<|sj [.p,.p,.p,.p,.p,.p,.p,.p,.p] Z<|mj Z<|mj Z ?_
 refine uj Z (Pv.asI 0 (Pv.mulW rfl rfl) (by decide))<|mj Z<|uj Z (Pv.asI 0 (Pv.addW rfl rfl) (by decide))<|mj Z<|uj Z (Pv.asI 0 (Pv.shrN 0 32 rfl rfl (by decide)) (by decide))<|uj Z (Pv.asI 0 (Pv.addW rfl rfl) (by decide))<|aj Z<|nl<|sj [.p,.p,.p,.p] Z<|mj Z<|mj Z<|uj Z (Pv.asI n (Pv.mulW rfl rfl) (by rw [wrap_u64i (by omega)];omega))<|aj Z<|nl<|Vc.ret (Vc.rets Z (.cons (.tmp Z) (tz Z)) ?_)
 rfl
theorem mul_spec {F:Fm} (n:Nat) (hn:n≤1048576):Spec Tryz.prog 257 #[.int .u64 1,.int .u64 (n:Int)] F [] fun v _=>v=.tuple #[.int .u64 0,.int .u64 (n:Int)]:=by
 refine Spec.of (n:=30) (vs:=[.int .u64 1,.int .u64 (n:Int)]) Tryz.func257 rfl Tryz.ntmps257 rfl ?_
 refine sj [.p,.p] Z<|aj Z<|aj Z<|nl<|wj<|Vc.condF Z<|kj<|sj [.p,.p,.e,.p,.p,.p,.p,.p] Z<|mj Z<|mj Z<|Rg.callP Z Z Z (mz Z) (mul64_spec n hn) ?_
 rintro _ rfl
 refine mj Z<|xj Z Z<|xj Z Z<|aj Z<|aj Z<|nl<|sj [.p,.p,.p,.p] Z<|mj Z<|mj Z<|aj Z<|aj Z<|nl<|Vc.ret (Vc.rets Z (.cons (.tmp Z) (tz Z)) ?_)
 rfl
theorem rep_step {n k:Nat} (hk:k≤n):(List.replicate k true++List.replicate (n-k) false).take k++(List.replicate k true).take (min k (n-k))++(List.replicate k true++List.replicate (n-k) false).drop (k+min k (n-k))=List.replicate (k+min k (n-k)) true++List.replicate (n-(k+min k (n-k))) false:=by
 rw [List.take_left' (by simp),List.take_replicate,List.drop_append,List.drop_replicate,List.drop_replicate,←lx]
 simp only [List.length_replicate]
 rw [show k-(k+min k (n-k))=0 by omega,List.replicate_zero,List.append_nil,List.replicate_append_replicate,show min (min k (n-k)) k=min k (n-k) by omega,show n-k-(k+min k (n-k)-k)=n-(k+min k (n-k)) by omega]
theorem rep_one (n:Nat):List.take (min 1 n) [true]++List.drop (min 1 n) (List.replicate n false)=List.replicate (min 1 n) true++List.replicate (n-min 1 n) false:=by
 rw [List.drop_replicate]
 rcases Nat.eq_zero_or_pos n with h | h
 · subst h;rfl
 · rw [show min 1 n=1 by omega];rfl
set_option maxHeartbeats 1000000 in
theorem repeatT_spec {F:Fm} {va:Value} (ha:Arg boolE F va [true]) (n:Nat) (hn:n≤1048576) :
 Spec Tryz.prog 235 #[va,.int .i64 (n:Int)] F [] fun v s=>Own boolE v (List.replicate n true) s:=by
 obtain ⟨p,c,rfl⟩:=ha.shape
 refine Spec.of (n:=48) (vs:=[.slice p 1 c,.int .i64 (n:Int)]) Tryz.func235 rfl Tryz.ntmps235 rfl ?_
 refine sj [.p] Z<|aj Z<|nl<|wj<|sj [.p,.p] Z<|mj Z<|uj Z (Pv.lss Z Z)<|nl<|cj Z (fun h10=>absurd h10 (by (simp only [dt];omega))) (fun h10=>?_)
 refine kj<|sj [.p,.p,.p,.p,.p,.e,.p,.p,.p,.p,.p] Z<|mj Z<|uj Z (Pv.lenS Z)<|uj Z (Pv.as (.int .u64 1) (Pv.convI Z) Z)<|mj Z<|uj Z (Pv.asI n (Pv.convI rfl) (wrap_ult rfl (by show n<2 ^ 64;omega)))<|Rg.callP Z Z Z (mz Z) (mul_spec n hn) ?_
 rintro _ rfl
 refine mj Z<|xj Z Z<|xj Z Z<|aj Z<|aj Z<|nl<|wj<|sj [.p,.p,.p,.p,.p,.p] Z<|mj Z<|uj Z (Pv.gtr Z Z)<|mj Z<|Rg.split (t:=23) rfl (fun h23=>absurd h23 (by decide)) (fun h23=>?_)
 refine mj Z<|uj Z (Pv.gtr Z Z)<|pj Z Z<|nl<|cj Z (fun h26=>absurd h26 (by (simp only [dt];omega))) (fun h26=>?_)
 refine kj<|sj [.p,.p,.e,.p] Z<|mj Z<|uj Z (Pv.asI n (Pv.convI rfl) (i64_wrap (by omega)))<|Rg.makeN boolE false (m:=n) rfl rfl rfl rfl rfl ⟨by omega,by (show n≤9223372036854775807);omega⟩ (fun b30 own30=>?_)
 refine aj Z<|nl<|sj [.p,.p,.e,.p] Z<|mj Z<|mj Z<|Rg.copy (E:=boolE) (ys:=List.replicate n false) (sp:=[]) (zs:=[true]) 0 rfl rfl rfl rfl rfl ha.src (.inr rfl) (by simp) rfl ?_
 simp only [List.take_zero,List.nil_append,Nat.zero_add,List.length_singleton]
 rw [rep_one]
 refine aj Z<|nl<|wj<|bj ?_
 refine Vc.loop1 (fun (k:Nat)=>k≤n∧(0<n→0<k)) (fun k=>[(7,.slice (some ⟨b30,0,none⟩) n n),(8,.int .i64 (k:Int))]) (fun k=>[(b30,rowS boolE (List.replicate k true++List.replicate (n-k) false) [])]) (fun k=>n-k) (min 1 n) ⟨by omega,by omega⟩ (.cons rfl (.cons rfl .nil)) pulled ?_
 rintro k ⟨hk,hk0⟩
 have hlen:(List.replicate k true++List.replicate (n-k) false).length=n:=by simp;omega
 refine wj<|sj [.p,.p,.p,.p] Z<|mj Z<|mj Z<|uj Z (Pv.lenS Z)<|uj Z (Pv.lss Z Z)<|nl<|cj Z (fun h37=>?_) (fun h37=>?_)
 · simp only [dt] at h37
   refine kj<|bj ?_
   refine Vc.draw [7] (sd [(0,.pure),(1,.pure),(2,.pure),(3,.pure),(4,.pure),(5,.pure),(6,.pure),(7,.eff),(8,.pure),(9,.pure)]) mixed (by kernel_rfl)<|mj Z<|mj Z<|mj Z<|uj Z (Pv.slFrom (k) rfl rfl (by omega) (by omega))<|mj Z<|mj Z<|uj Z (Pv.slTo (k) rfl rfl (by omega))<|Rg.copy (E:=boolE) (ys:=List.replicate k true++List.replicate (n-k) false) (sp:=[]) (zs:=List.replicate k true) k rfl rfl rfl rfl rfl (by
    have h:=Arg.own (F:=frz F [(b30,rowS boolE (List.replicate k true++List.replicate (n-k) false) [])]) (Own.blk' b30 n n _ [] hlen.symm rfl (by (show n≤9223372036854775807);omega)) fun b o hb=>Or.inl hb
    have h2:=h.take (k:=k) (by omega)
    rw [List.take_left' (by simp)] at h2
    exact h2.srcF) (by
    by_cases e:n=k
    · left;omega
    · right;rw [if_neg e,Nat.zero_add];rfl) (by omega) rfl ?_
   simp only [List.length_replicate]
   rw [rep_step hk]
   refine uj Z (Pv.asI (k+min k (n-k)) (Pv.add rfl rfl (by omega)) (by omega))<|aj Z<|nl<|dj ?_
   exact Vc.inv1 (k+min k (n-k)) ⟨⟨by omega,by omega⟩,by omega⟩ (.cons rfl (.cons rfl .nil)) pulled
 · simp only [df] at h37
   obtain rfl:k=n:=by omega
   refine Vc.exit Z<|sj [.p,.p] Z<|mj Z<|aj Z<|nl ?_
   exact Vc.ret (Vc.retsH rfl (tz Z) ((by
    have h:Own boolE (.slice (some ⟨b30,0,none⟩) k k) (List.replicate k true) [(b30,rowS boolE (List.replicate k true++List.replicate (k-k) false) [])]:=by
     rw [Nat.sub_self,List.replicate_zero,List.append_nil]
     exact Own.blk' b30 k k _ [] (by simp) rfl (by (show k≤9223372036854775807);omega)
    exact h)) pulled)
section
variable {F : Fm} {p : Prg}
theorem tright_spec (hp:p.start<4294967296) (n:Int):Spec Tryz.prog 143 #[prV p,.int .i64 n] F [] fun v _=>v=.bool (rightP p n):=by
 refine Spec.of (n:=41) (vs:=[prV p,.int .i64 n]) Tryz.func143 rfl Tryz.ntmps143 rfl ?_
 refine sj [.e,.p] Z<|Rg.box Z Z Z Z Z (fun b2=>?_)
 refine aj Z<|nl<|wj<|Vc.cut1 (fun (bb:Bool)=>bb = !decide (p.kind≠1∧p.kind≠3)) (fun bb=>[(5,.bool bb),(1,.int .i64 n),(2,.pointer (some ⟨b2,0,none⟩))]) (fun bb=>[(b2,cellsO (prC p) 24)]) ?_ ?_
 · refine tj [.p,.r,.p,.p,.p,.r,.p,.p,.p] Z<|fj Z<|lj Z Z<|uj Z (Pv.eql Z Z)<|mj Z ?_
   refine Rg.split (t:=9) Z (fun h9=>?_) (fun h9=>?_)
   · iterate 3 (first | refine Rg.skipP rfl rfl rfl ?_ | refine Rg.skipR rfl rfl rfl ?_ | refine Rg.skipE rfl rfl rfl ?_)
     refine qj Z Z<|aj Z<|nl ?_
     exact Vc.inv1 _ (by
      have h:p.kind=1:=by simpa using h9
      simp [h]) (.cons rfl (.cons rfl (.cons rfl .nil))) pulled
   · refine fj Z<|lj Z Z<|uj Z (Pv.eql Z Z)<|pj Z Z<|aj Z<|nl ?_
     exact Vc.inv1 _ (by
      have h : ¬p.kind=1:=by simpa using h9
      by_cases h3:p.kind=3<;>simp [h,h3]) (.cons rfl (.cons rfl (.cons rfl .nil))) pulled
 · rintro bb rfl
   refine sj [.p,.r,.p,.p,.p,.r,.p,.p,.p,.p,.p,.p,.p,.p,.p,.p,.p,.p,.p,.p,.p,.r,.p,.p,.p,.p,.p,.p] Z<|fj Z<|lj Z Z<|uj Z (Pv.geq Z Z)<|mj Z ?_
   refine Rg.split (t:=17) Z (fun h17=>?_) (fun h17=>?_)
   · simp only [dt] at h17
     refine fj Z<|lj Z Z<|uj Z (Pv.leq Z Z)<|qj Z Z<|mj Z ?_
     refine Rg.split (t:=22) Z (fun h22=>?_) (fun h22=>?_)
     · simp only [dt] at h22
       refine mj Z<|uj Z (Pv.geq Z Z)<|qj Z Z<|mj Z<|Rg.split (t:=26) Z (fun h26=>?_) (fun h26=>?_)
       · simp only [dt] at h26
         refine mj Z<|uj Z (Pv.leq Z Z)<|qj Z Z<|mj Z<|Rg.split (t:=30) Z (fun h30=>?_) (fun h30=>?_)
         · simp only [dt] at h30
           refine mj Z<|uj Z (Pv.not Z)<|mj Z<|Rg.split (t:=33) Z (fun h33=>?_) (fun h33=>?_)
           · iterate 5 (first | refine Rg.skipP rfl rfl rfl ?_ | refine Rg.skipR rfl rfl rfl ?_ | refine Rg.skipE rfl rfl rfl ?_)
             refine qj Z Z<|qj Z Z<|aj Z<|nl<|vz Z (tz Z) ?_
             exact congrArg Value.bool (by
              unfold rightP
              simp_all<;>(intros;exfalso;omega))
           · refine fj Z<|lj Z Z<|uj Z (Pv.asI p.start (Pv.convI rfl) (i64_wrap (by omega)))<|mj Z<|uj Z (Pv.lss Z Z)<|pj Z Z<|qj Z Z<|aj Z<|nl<|vz Z (tz Z) ?_
             exact congrArg Value.bool (by
              unfold rightP
              simp_all<;>(intros;exfalso;omega))
         · simp only [df] at h30
           iterate 9 (first | refine Rg.skipP rfl rfl rfl ?_ | refine Rg.skipR rfl rfl rfl ?_ | refine Rg.skipE rfl rfl rfl ?_)
           refine pj Z Z<|aj Z<|nl<|vz Z (tz Z) ?_
           exact congrArg Value.bool (by
            unfold rightP
            simp_all<;>(intros;exfalso;omega))
       · simp only [df] at h26
         iterate 2 (first | refine Rg.skipP rfl rfl rfl ?_ | refine Rg.skipR rfl rfl rfl ?_ | refine Rg.skipE rfl rfl rfl ?_)
         refine pj Z Z<|mj Z ?_
         iterate 9 (first | refine Rg.skipP rfl rfl rfl ?_ | refine Rg.skipR rfl rfl rfl ?_ | refine Rg.skipE rfl rfl rfl ?_)
         refine pj Z Z<|aj Z<|nl<|vz Z (tz Z) ?_
         exact congrArg Value.bool (by
          unfold rightP
          simp_all<;>(intros;exfalso;omega))
     · simp only [df] at h22
       iterate 2 (first | refine Rg.skipP rfl rfl rfl ?_ | refine Rg.skipR rfl rfl rfl ?_ | refine Rg.skipE rfl rfl rfl ?_)
       refine pj Z Z<|mj Z ?_
       iterate 2 (first | refine Rg.skipP rfl rfl rfl ?_ | refine Rg.skipR rfl rfl rfl ?_ | refine Rg.skipE rfl rfl rfl ?_)
       refine pj Z Z<|mj Z ?_
       iterate 9 (first | refine Rg.skipP rfl rfl rfl ?_ | refine Rg.skipR rfl rfl rfl ?_ | refine Rg.skipE rfl rfl rfl ?_)
       refine pj Z Z<|aj Z<|nl<|vz Z (tz Z) ?_
       exact congrArg Value.bool (by
        unfold rightP
        simp_all<;>(intros;exfalso;omega))
   · simp only [df] at h17
     iterate 3 (first | refine Rg.skipP rfl rfl rfl ?_ | refine Rg.skipR rfl rfl rfl ?_ | refine Rg.skipE rfl rfl rfl ?_)
     refine pj Z Z<|mj Z ?_
     iterate 2 (first | refine Rg.skipP rfl rfl rfl ?_ | refine Rg.skipR rfl rfl rfl ?_ | refine Rg.skipE rfl rfl rfl ?_)
     refine pj Z Z<|mj Z ?_
     iterate 2 (first | refine Rg.skipP rfl rfl rfl ?_ | refine Rg.skipR rfl rfl rfl ?_ | refine Rg.skipE rfl rfl rfl ?_)
     refine pj Z Z<|mj Z ?_
     iterate 9 (first | refine Rg.skipP rfl rfl rfl ?_ | refine Rg.skipR rfl rfl rfl ?_ | refine Rg.skipE rfl rfl rfl ?_)
     refine pj Z Z<|aj Z<|nl<|vz Z (tz Z) ?_
     exact congrArg Value.bool (by
      unfold rightP
      simp_all<;>(intros;exfalso;omega))
theorem how_spec:Spec Tryz.prog 206 #[prV p] F [] fun v _=>v=.int .i64 (howP p):=by
 refine Spec.of (n:=11) (vs:=[prV p]) Tryz.func206 rfl Tryz.ntmps206 rfl ?_
 refine sj [.e,.p] Z<|Rg.box Z Z Z Z Z (fun b1=>?_)
 refine aj Z<|nl<|wj<|sj [.p,.r,.p,.p,.p,.r,.p,.p] Z<|fj Z<|lj Z Z<|uj Z (Pv.eql Z Z)<|mj Z ?_
 refine Rg.split (t:=6) Z (fun h6=>?_) (fun h6=>?_)
 · iterate 3 (first | refine Rg.skipP rfl rfl rfl ?_ | refine Rg.skipR rfl rfl rfl ?_ | refine Rg.skipE rfl rfl rfl ?_)
   refine qj Z Z<|nl<|Vc.condT Z<|sj [.p] Z<|aj Z<|nl<|vz Z (tz Z) ?_
   exact congrArg (Value.int .i64) (by unfold howP;simp_all)
 · refine fj Z<|lj Z Z<|uj Z (Pv.eql Z Z)<|pj Z Z<|nl<|cj Z (fun h10=>?_) (fun h10=>?_)
   · refine sj [.p] Z<|aj Z<|nl<|vz Z (tz Z) ?_
     exact congrArg (Value.int .i64) (by unfold howP;simp_all)
   · refine kj<|sj [.p] Z<|aj Z<|nl<|vz Z (tz Z) ?_
     exact congrArg (Value.int .i64) (by unfold howP;simp_all)
end
def IterE (P:Program) (gf:Nat) (lb:List Value) (F:Fm) {α:Type} (enc:α→List Value) (Sp S:List α→Prop) (hi:Hl):Prop :=
 ∀(lr:Nat) (J:List α→Hl→Prop) (X:Hl→Prop) (F1:Fm),(∀b o,F.at_ b o→F1.at_ b o) →
  (∀pre x,Sp (pre++[x])→∀hc,J pre hc→∀F2,(∀b o,F1.at_ b o→F2.at_ b o)→YSpec P lr (enc x).toArray F2 hc fun v hc'=>(v=.bool true∧J (pre++[x]) hc')∨(v=.bool false∧X hc')) →
  ∀hc,J [] hc→Spec P gf (.func (.yield lr) #[] #[]::lb).toArray F1 (hi++hc) fun _ s=>(∃xs,S xs∧J xs s)∨X s
def QRdE (F:Fm) (lr:Nat) (rc:Loop) (I E:Hl→Prop):Exit→Act→World→Prop
 | .normal,_,w=>∃hc,I hc∧Hp F ((lr,.loop { rc with state:=.busy })::hc) w
 | .ret,_,w=>∃hc,E hc∧Hp F ((lr,.loop { rc with state:=.busy })::hc) w
 | _,_,_=>False
section
variable {P : Program} {n : Nf} {F : Fm} {l : Env} {hl : Hl} {ty : TypeId} {pos : String} {af : Array Edge} {g : Option (Nat × Bool)}
variable {Qf : Exit → Act → World → Prop} {ks : List KItem} {ops : List Oper} {clr : List Nat} {hs : Hl} {r : Sd} {i : Nat}
theorem Vc.finE {lr:Nat} {rc:Loop} {I E:Hl→Prop} (hc:Hl) {rest:Hl} (hI:I hc) (hp:hl.Perm (((lr,.loop { rc with state:=.busy })::hc)++rest)):Vc P (QRdE F lr rc I E) n F [] l hl:=fun a w hf hh =>
 ⟨hc,hI,(hh.perm hp).forget⟩
theorem Vc.retE {lr:Nat} {rc:Loop} {I E:Hl→Prop} (hc:Hl) {rest:Hl} (hE:E hc) (hp:hl.Perm (((lr,.loop { rc with state:=.busy })::hc)++rest)):Vc P (QRdE F lr rc I E) n F (.code .ret::ks) l hl :=
 fun a w hf hh=>wpIn_ret (postK_ret (show QRdE F lr rc I E .ret a w from ⟨hc,hE,(hh.perm hp).forget⟩) ks)
abbrev rndK (P:Program) (F:Fm) (lr:Nat) (rc:Loop) (I E:Hl→Prop) (assign body:Code):List KItem:=[.code assign,.inv (fun a w=>postK P (some lr) (QRdE F lr rc I E) [.begin lr rc,.code body] .normal a w)]
theorem Vc.beginE {lr:Nat} {rc:Loop} {I E:Hl→Prop} {body:Code} {put:Obj→Hl} {Qn:Exit→Act→World→Prop} {F2:Fm} (hro:n.ro=some lr) [hb:Lens hl lr (.loop rc) put] (h:Vc P (QRdE F2 lr rc I E) n F [.code body] l (put (.loop { rc with state:=.busy }))):Vc P Qn n F [.inv (fun a w=>postK P (some lr) (QRdE F2 lr rc I E) [.begin lr rc,.code body] .normal a w)] l hl:=fun a w hf hh=>by
 have:=(Vc.begin (ks:=[.code body]) h:Vc P (QRdE F2 lr rc I E) n F (.begin lr rc::[.code body]) l hl) a w hf hh
 rw [hro] at this
 exact this
theorem wp_roundE {P:Program} {lr fn:Nat} {tmps:Array Value} {assign body:Code} {rc:Loop} {w:World} {F:Fm} {hc:Hl} {m:Nat} {l:Env} {I E:Hl→Prop} (hl:w.heap[lr]? = some (.loop rc)) (hr:rc.state=.ready) (hpe:rc.pending=none)
 (hsz:tmps.size=m) (hf:Fr ⟨m,some lr,[],[]⟩ l { tmps:=tmps,defers:=[] }) (hh:Hp F ((lr,.loop rc)::hc) w) (h:Vc P (fun _ _ _=>False) ⟨m,some lr,[],[]⟩ F (rndK P F lr rc I E assign body) l ((lr,.loop rc)::hc)) :
 RoundIn (Fe none) 0 P lr fn tmps assign body w fun e w'=>∃v hl',e=.returned v∧((v=.bool true∧∃hc',I hc'∧hl'=(lr,.loop rc)::hc')∨(v=.bool false∧∃hc',E hc'∧hl'=(lr,.loop { rc with state:=.done,pending:=some .ret })::hc'))∧Hp F hl' w':=by
 refine roundIn_of_wpIn (F:=Fe none) trivial ?_
 refine wpIn_mono (F:=Fe (some lr)) (h _ w hf hh) fun e a₁ w₁ q=>?_
 cases e with
 | normal =>
  obtain ⟨h1,h2⟩:=q
  refine ⟨_,run_beginRound h1 hr,wpIn_mono (F:=Fe (some lr)) h2 fun e a₂ w₂ q=>?_⟩
  cases e with
  | normal =>
   obtain ⟨hc',hI,hh'⟩:=q
   have hl2:=hh'.own lr _ List.mem_cons_self
   refine ⟨_,_,run_endRound none hl2,_,(lr,.loop rc)::hc',rfl,.inl ⟨rfl,hc',hI,rfl⟩,?_⟩
   have e1:({ { rc with state:=.busy } with state:=(if (none:Option Code).isNone then .ready else .done),pending:=none }:Loop)=rc:=by
    cases rc;simp_all
   rw [e1]
   exact Lens.putB (put:=fun o'=>(lr,o')::hc') ⟨[],hc',rfl,fun _=>rfl⟩ hh' _
  | ret =>
   obtain ⟨hc',hI,hh'⟩:=q
   have hl2:=hh'.own lr _ List.mem_cons_self
   refine ⟨_,_,run_endRound (some .ret) hl2,_,(lr,.loop { rc with state:=.done,pending:=some .ret })::hc',rfl,.inr ⟨rfl,hc',hI,rfl⟩,?_⟩
   exact Lens.putB (put:=fun o'=>(lr,o')::hc') ⟨[],hc',rfl,fun _=>rfl⟩ hh' _
  | exit _=>exact (q:False).elim
  | goto _=>exact (q:False).elim
  | panic _=>exact (q:False).elim
  | outgrown=>exact (q:False).elim
 | ret=>exact (q:False).elim
 | exit id=>exact (q:False).elim
 | goto id=>exact (q:False).elim
 | panic c=>exact (q:False).elim
 | outgrown=>exact (q:False).elim
theorem Vc.rangeFuncE {α:Type} {gv:Operand} {ps:List Nat} {assign body:Code} {gf:Nat} {lb:List Value} {enc:α→List Value} {Sp S:List α→Prop} {hi rest:Hl} (I:List α→Hl→Prop) (E:Hl→Prop) (hc0:Hl)
 (hro:n.ro=none) (hg:ev l gv=some (.func (.func gf) #[] lb.toArray)) [hcf:TyCall P gf] (hps:∀x,(enc x).length=ps.length) (hbl:(ps.all fun p=>Nat.blt p n.n)=true)
 (hp:hl.Perm ((hi++hc0)++rest)) (hit:∀F1,(∀b o,(b,o)∈rest∨F.at_ b o→F1.at_ b o)→IterE P gf lb F1 enc Sp S hi) (h0:I [] hc0)
 (left:∀(D:Nat) (hc:Hl),(∀o,¬F.at_ D o)→E hc→Vc P Qf ⟨n.n,n.ro,D::n.ds,n.dx⟩ (frz F [(D,markO)]) (.code .ret::ks) l (hc++rest))
 (round:∀(lr:Nat) (rc:Loop) (pre:List α) (x:α) (hc:Hl) (F1:Fm),(∀b o,(b,o)∈rest∨F.at_ b o→F1.at_ b o)→Sp (pre++[x])→I pre hc →
  Vc P (fun _ _ _=>False) ⟨n.n,some lr,[],[]⟩ F1 (rndK P F1 lr rc (I (pre++[x])) E assign body) (envZ l ps (enc x)) ((lr,.loop rc)::hc))
 (done:∀(D:Nat) (xs:List α) (hc:Hl),(∀o,¬F.at_ D o)→S xs→I xs hc→Vc P Qf ⟨n.n,n.ro,D::n.ds,n.dx⟩ (frz F [(D,markO)]) ks l (hc++rest)) :
 Vc P Qf n F (.code (.rangeFunc gv ps.toArray assign body)::ks) l hl:=fun a w hf hh=>by
 show (Code.rangeFunc gv ps.toArray assign body).wpIn (Fe n.ro) 0 P (postK P n.ro Qf ks) a w
 refine wpIn_rangeFunc ?_
 intro fn hfn
 rw [show (Fe n.ro).round=none from hro]
 obtain ⟨rec,hrec⟩:∃rec:Loop,rec={ state:=.ready,pending:=none,fn,tmps:=a.tmps,params:=ps.toArray,assign,body,defers:=w.heap.size }:=⟨_,rfl⟩
 have hh1:Hp F ((w.heap.size+1,.loop rec)::(w.heap.size,markO)::hl) ((w.alloc markO).alloc (.loop rec)):=by
  have h:=(hh.alloc markO).alloc (.loop rec)
  rw [show ({ w with heap:=w.heap.push markO }:World).heap.size=w.heap.size+1 by simp] at h
  exact h
 have hpm:((w.heap.size+1,Obj.loop rec)::(w.heap.size,markO)::hl).Perm ((hi++((w.heap.size+1,Obj.loop rec)::hc0))++(rest++[(w.heap.size,markO)])):=by
  have e1:((w.heap.size+1,Obj.loop rec)::(w.heap.size,markO)::hl).Perm ((w.heap.size+1,Obj.loop rec)::(w.heap.size,markO)::((hi++hc0)++rest)):=(hp.cons _).cons _
  refine e1.trans ?_
  have e2:((w.heap.size,markO)::((hi++hc0)++rest)).Perm ((hi++hc0)++(rest++[(w.heap.size,markO)])):=by
   rw [←lx]
   exact (List.perm_append_comm (l₁:=[(w.heap.size,markO)]))
  refine (e2.cons _).trans ?_
  rw [lx,lx,List.cons_append]
  exact List.perm_middle.symm
 obtain ⟨k1,k2,k3⟩:=Hp.frz_iff.1 (hh1.perm hpm)
 have hF1:∀b o,(b,o)∈rest∨F.at_ b o→(frz F (rest++[(w.heap.size,markO)])).at_ b o:=fun b o h=>h.imp (fun h=>List.mem_append_left _ h) id
 have hsp:=hit (frz F (rest++[(w.heap.size,markO)])) hF1 (w.heap.size+1) (fun pre h=>∃hc,I pre hc∧h=(w.heap.size+1,Obj.loop rec)::hc) (fun h=>∃hc,E hc∧h=(w.heap.size+1,Obj.loop { rec with state:=.done,pending:=some .ret })::hc) (frz F (rest++[(w.heap.size,markO)])) (fun _ _ h=>h)
  (fun pre x hx hc ⟨hc',hI,e⟩ F2 hF2=>by
   subst e
   intro W hW
   have hlr:=hW.own (w.heap.size+1) _ List.mem_cons_self
   have hy:=run_yield (P:=P) (args:=(enc x).toArray) hlr (by rw [hrec];simpa using hps x)
   refine ⟨_,_,_,_,hy,?_⟩
   rw [show rec.fn=fn by rw [hrec],show rec.tmps=a.tmps by rw [hrec],show rec.params=ps.toArray by rw [hrec],show rec.assign=assign by rw [hrec],show rec.body=body by rw [hrec]]
   have hfr:Fr ⟨n.n,some (w.heap.size+1),[],[]⟩ (envZ l ps (enc x)) { tmps:=(ps.zip (enc x)).foldl (fun t (p,v)=>t.setIfInBounds p v) a.tmps,defers:=[] }:=by
    have h1:Fr ⟨n.n,some (w.heap.size+1),[],[]⟩ l { tmps:=a.tmps,defers:=[] }:=⟨rfl,hf.size,hf.has⟩
    exact fr_zip (l:=l) ps (enc x) h1 hbl
   have hz:=zip_list ps (enc x) a.tmps
   have:=wp_roundE (fn:=fn) (tmps:=(ps.zip (enc x)).foldl (fun t (p,v)=>t.setIfInBounds p v) a.tmps) (assign:=assign) (body:=body) (m:=n.n) hlr (by rw [hrec]) (by rw [hrec]) hfr.size hfr hW
    (round (w.heap.size+1) rec pre x hc' F2 (fun b o h=>hF2 b o (hF1 b o h)) hx hI)
   rw [←hz] at this
   exact this.mono fun e w' ⟨v,hl',h1,h2,h5⟩=>⟨v,hl',h1,h2.imp (fun ⟨h2,hc',h3,h4⟩=>⟨h2,hc',h3,h4⟩) (fun ⟨h2,hc',h3,h4⟩=>⟨h2,hc',h3,by rw [h4,hrec]⟩),h5⟩)
  ((w.heap.size+1,Obj.loop rec)::hc0) ⟨hc0,h0,rfl⟩
 refine ⟨w.heap.size+1,[markD w.heap.size],(w.alloc markO).alloc (.loop rec),{ target:=.fn (.func gf) lb.toArray,args:=#[.func (.yield (w.heap.size+1)) #[] #[]] },(w.alloc markO).alloc (.loop rec),gf,
  (.func (.yield (w.heap.size+1)) #[] #[]::lb).toArray,(w.alloc markO).alloc (.loop rec),?_,?_,fun _ _=>trivial,?_,(by intro h;cases h),fe_calls ?_⟩
 · rw [hrec];exact run_enterLoop_outer _ _ _ _ _
 · simp only [resolve,hf.ev hg]
   simp [go_sem,Deferred.ofValue]
 · simp [invoke,hcf.call]
 · refine (hsp _ k1).mono fun e w' ⟨v,s,he,hor,hh'⟩=>?_
   subst he
   have hfd:Fr ⟨n.n,n.ro,w.heap.size::n.ds,n.dx⟩ l { a with defers:=[markD w.heap.size]++a.defers }:=⟨by simp [hf.dfr],hf.size,hf.has⟩
   rcases hor with ⟨xs,hS,hc,hI,es⟩ | ⟨hc,hE,es⟩
   · subst es
     have hlr:=hh'.own (w.heap.size+1) _ List.mem_cons_self
     refine ⟨rec.pending,_,run_endLoop (P:=P) hlr (by rw [hrec];simp),?_⟩
     have h4:Hp (frz F (rest++[(w.heap.size,markO)])) hc (w'.putObj (w.heap.size+1) (.loop { rec with state:=.exhausted })) :=
      Hp.tail (Lens.putB (put:=fun o'=>(w.heap.size+1,o')::hc) ⟨[],hc,rfl,fun _=>rfl⟩ hh' _)
     have h5:Hp F (hc++(rest++[(w.heap.size,markO)])) _:=Hp.frz_iff.2 ⟨h4,k2,k3⟩
     rw [←lx] at h5
     have h6:=(Hp.frz_iff.1 h5).1
     split
     · exact done w.heap.size xs hc (fun o=>k3 w.heap.size markO o (by simp)) hS hI _ _ hfd h6
     · rename_i hc;rw [hrec] at hc;cases hc
   · subst es
     have hlr:=hh'.own (w.heap.size+1) _ List.mem_cons_self
     refine ⟨some .ret,_,run_endLoop (P:=P) hlr (by simp),?_⟩
     have h4:Hp (frz F (rest++[(w.heap.size,markO)])) hc (w'.putObj (w.heap.size+1) (.loop { { rec with state:=.done,pending:=some .ret } with state:=.exhausted })) :=
      Hp.tail (Lens.putB (put:=fun o'=>(w.heap.size+1,o')::hc) ⟨[],hc,rfl,fun _=>rfl⟩ hh' _)
     have h5:Hp F (hc++(rest++[(w.heap.size,markO)])) _:=Hp.frz_iff.2 ⟨h4,k2,k3⟩
     rw [←lx] at h5
     have h6:=(Hp.frz_iff.1 h5).1
     exact left w.heap.size hc (fun o=>k3 w.heap.size markO o (by simp)) hE _ _ hfd h6
theorem Rg.storeN {t b off:Nat} {e:TypeId} {x y:Operand} {d:Option Tmp} {v:Value} {vs q:List Value} {rest q2:Hl} [hs0:TyOne P t] (ho:nth ops i=some ⟨d,.store t x y,ty,pos,af,g⟩) (hg:wantB ops l g=some true) (hd:d=none)
 (hx:ev l x=some (.pointer (some ⟨b,off,none⟩))) (hy:ev l y=some v) [hb:Pull1 hl b (cellsO vs e) rest] (hc:v.oneCell'=true) (hq:setL vs off v=some q) [hr:PullL rest hs q2]
 (h:Rg P Qf n F ks ops clr hs r l ((b,cellsO q e)::rest)):Rg P Qf n F ks ops clr hs (.st i .eff r) l hl :=
 Rg.run ho hg fun a w hf hh=>by
  subst hd
  have hh':=hh.perm hb.perm
  have hrun:=run_storeAt (P:=P) (t:=t) (us:=[v]) (off:=off) hs0.size (cells_one hc) rfl (by simpa using hc) (hh'.own b _ List.mem_cons_self) (q:=q) (by simp [setsL,hq])
  have hh2:=Lens.putB (put:=fun o'=>(b,o')::rest) ⟨[],rest,rfl,fun _=>rfl⟩ hh' (cellsO q e)
  exact ⟨_,l,_,hs,.inr ⟨by simp [execOp,hf.ev hx,hf.ev hy,hrun],hf⟩,hh2,⟨(b,cellsO q e)::q2,hh2.perm ((hr.perm.trans List.perm_append_comm).cons _)⟩,.same,h⟩
def InStD {X:Type} (m:Nat) (ro:Option Nat) (F:Fm) (φ:X→Prop) (li:X→Env) (hi:X→Hl) (a:Act) (w:World):Prop:=∃ds F1 x,Mk ds F F1∧φ x∧Fr ⟨m,ro,ds,[]⟩ (li x) a∧Hp F1 (hi x) w
theorem Vc.invD {X:Type} {m:Nat} {ro:Option Nat} {ds:List Nat} {F1:Fm} {φ:X→Prop} {li:X→Env} {hi:X→Hl} {rest:Hl} (hm:Mk ds F F1) (x:X) (hφ:φ x) (hle:Le l (li x)) (hp:hl.Perm (hi x++rest)):Vc P Qf ⟨m,ro,ds,[]⟩ F1 (.inv (InStD m ro F φ li hi)::ks) l hl :=
 fun _ _ hf hh=>⟨ds,F1,x,hm,hφ,hf.le hle,(hh.perm hp).forget⟩
theorem Vc.loopD {X:Type} (φ:X→Prop) (li:X→Env) (hi:X→Hl) (μ:X→Nat) (x0:X) {c:Code} {rest:Hl} (hds:n.ds=[]) (h0:φ x0) (hle:Le l (li x0)) (hp:hl.Perm (hi x0++rest))
 (round:∀ds F1,Mk ds F F1→∀x,φ x→Vc P Qf ⟨n.n,n.ro,ds,[]⟩ F1 (.code c::.inv (InStD n.n n.ro F (fun y=>φ y∧μ y<μ x) li hi)::ks) (li x) (hi x)) (hdx:n.dx=[]:=by rfl):Vc P Qf n F (.code (.loop c)::ks) l hl:=by
 intro a w hf hh
 show (Code.loop c).wpIn (Fe n.ro) 0 P (postK P n.ro Qf ks) a w
 intro b k cs hro hb hr
 have key:∀m ds F1,Mk ds F F1→∀x a w,μ x=m→φ x→Fr ⟨n.n,n.ro,ds,[]⟩ (li x) a→Hp F1 (hi x) w→∃e a' w',postK P n.ro Qf ks e a' w'∧ArrivesIn (Machine.fenced P (Fe n.ro)) P (lone (b.atR a (.code c::.inLoop c::k)) cs w) b k cs e a' w':=by
  intro m
  induction m using Nat.strongRecOn with
  | _ m ih =>
   intro ds F1 hmk x a w hm hx hf hh
   obtain ⟨e,a₁,w₁,hq,harr⟩:=round ds F1 hmk x hx a w hf hh b (.inLoop c::k) cs hro hb hr
   cases e with
   | normal =>
    obtain ⟨ds2,F2,y,hmk2,⟨hy,hlt⟩,hf',hh'⟩:=hq
    obtain ⟨e₂,a₂,w₂,hq₂,harr₂⟩:=ih (μ y) (hm▸hlt) ds2 F2 hmk2 y a₁ w₁ rfl hy hf' hh'
    exact ⟨e₂,a₂,w₂,hq₂,.of_steps (StepsIn.trans harr (.one (fenced_calm hb hr rfl) stepR_inLoop)) harr₂⟩
   | exit id=>exact ⟨_,a₁,w₁,hq,.pass (x:=.inLoop c) rfl (fun _ _=>.inl (by simp)) harr⟩
   | goto l=>exact ⟨_,a₁,w₁,hq,.pass (x:=.inLoop c) rfl (fun _ _=>.inl (by simp)) harr⟩
   | ret=>exact ⟨_,a₁,w₁,hq,.pass (x:=.inLoop c) rfl (fun _ _=>.inl (by simp)) harr⟩
   | panic ch=>exact ⟨_,a₁,w₁,hq,.pass (x:=.inLoop c) rfl (fun _ _=>.inl (by simp)) harr⟩
   | outgrown=>exact ⟨_,a₁,w₁,hq,.pass (x:=.inLoop c) rfl (fun _ _=>.inl (by simp)) harr⟩
 obtain ⟨e,a',w',hq,harr⟩:=key _ [] F Mk.nil x0 a w rfl h0 (by have:=hf.le hle;obtain ⟨nn,nr,nd,nx⟩:=n;simp only at hds hdx;subst hds;subst hdx;exact this) (hh.perm hp).forget
 exact ⟨e,a',w',hq,.of_steps (.one (fenced_calm hb hr rfl) stepR_loop) harr⟩
end
end Go.Proofs.YtkpiakgmkpbikaaGreatDoor
