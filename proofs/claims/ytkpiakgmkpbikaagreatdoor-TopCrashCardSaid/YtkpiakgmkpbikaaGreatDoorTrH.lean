/- Steps of the proof. -/
import Derived.Test.YtkpiakgmkpbikaaGreatDoorSlK
import Derived.Test.YtkpiakgmkpbikaaGreatDoorSlS
import Derived.Test.YtkpiakgmkpbikaaGreatDoorRuShelf
import Derived.Test.YtkpiakgmkpbikaaGreatDoorHpP
import Derived.Laws.Externs
set_option linter.unusedVariables false
namespace Go.Proofs.YtkpiakgmkpbikaaGreatDoor
abbrev sqr:Enc Rc:=recE
abbrev Tqr:Type:=Rc
theorem sortLr:Go.Proofs.SlLaysF0.n6 Tryz.prog Tryz.sortR_ren:=Tryz.sortR
theorem values_specr {F:Fm} {p:Option Addr} {m c:Nat} :
 Spec Tryz.prog 281 #[.slice p m c] F [] fun v s=>∃bs,v=.func (.func 293) #[] #[.pointer (some ⟨bs,0,none⟩)]∧s=[(bs,cellsO [.slice p m c] 289)]:=by
 refine Spec.of (n:=4) (vs:=[.slice p m c]) Tryz.func281 rfl Tryz.ntmps281 rfl ?_
 refine sj [.e,.p] Z<|Rg.box Z Z Z Z Z (fun b1=>?_)
 refine aj Z<|nl<|sj [.p,.p] Z<|uj Z (Pv.mkF Z Z)<|aj Z<|nl ?_
 exact vr rfl (tz Z) (⟨b1,rfl,rfl⟩) pulled
theorem values_iterr {F:Fm} {va:Value} {xs:List Tqr} (ha:Arg sqr F va xs) (hN:xs.length<1073741824) (bs:Nat) :
 Iter Tryz.prog 293 [.pointer (some ⟨bs,0,none⟩)] F (fun x=>[sqr.val x]) (fun p=>p <+: xs) (fun p=>p=xs) [(bs,cellsO [va] 289)]:=by
 intro lr J F1 hF1 hY hc0 hJ0
 obtain ⟨p,c,rfl⟩:=ha.shape
 have ha1:=ha.mono hF1
 refine Spec.of (n:=16) (vs:=[.func (.yield lr) #[] #[],.pointer (some ⟨bs,0,none⟩)]) Tryz.func293 rfl Tryz.ntmps293 rfl ?_
 refine sj [.r,.p,.p] Z<|lj Z Z<|uj Z (Pv.lenS Z)<|mj Z<|nl<|bj ?_
 refine Vc.loop2 (fun (k:Nat) (hc:Hl)=>k≤xs.length∧J (xs.take k) hc) (fun k hc=>[(0,.func (.yield lr) #[] #[]),(1,.pointer (some ⟨bs,0,none⟩)),(5,.slice p xs.length c),(6,.int .i64 (xs.length:Int)),(7,.int .i64 (k:Int))]) (fun k hc=>(bs,cellsO [.slice p xs.length c] 289)::hc) (fun k hc=>xs.length-k) 0 hc0 ⟨Nat.zero_le _,by simpa using hJ0⟩ (.cons rfl (.cons rfl (.cons rfl (.cons rfl (.cons rfl .nil))))) pulled ?_
 rintro k hc ⟨hk,hJ⟩
 refine sj [.p] Z<|uj Z (Pv.lss Z Z)<|nl<|wj<|cj Z (fun h8=>?_) (fun h8=>?_)
 · simp only [dt] at h8
   have hk1:k<xs.length:=by omega
   obtain ⟨b,off,c',e,hcc⟩:=ha1.block (by omega)
   cases e
   have hsn:xs.take k++[xs[k]!]=xs.take (k+1):=take_snoc (by rw [getElem!_pos xs k hk1];exact List.getElem?_eq_getElem hk1)
   have hpre:xs.take k++[xs[k]!] <+: xs:=by rw [hsn];exact List.take_prefix _ _
   refine kj<|wj<|bj<|sj [.p,.r,.e,.e] Z<|uj Z (Pv.ixA (k) rfl rfl (by omega) (by omega))<|rj Z (Ev.ldS (k) (ha1.src) rfl rfl rfl (by omega))<|Rg.alloc Z Z Z Z (fun b4=>?_)
   refine Rg.storeA (us:=sqr.cells xs[k]!) Z Z Z Z Z Z Z Z<|nl<|sj [.p,.r,.e,.p] Z<|mj Z<|rj Z (Ev.as (sqr.val xs[k]!) (Ev.ldA Z Z) Z)<|Rg.yieldH Z Z Z Z Z (fun F' hF'=>hY _ xs[k]! hpre hc hJ F' (fun b o h=>hF' b o (.inr h))) Z ?_
   rintro _ hc' ⟨rfl,hJ'⟩
   rw [hsn] at hJ'
   refine uj Z (Pv.not Z)<|nl<|cj Z (fun h14=>absurd h14 (by simp)) (fun h14=>?_)
   refine kj<|dj<|tj [.p,.p] Z<|uj Z (Pv.asI (k+1) (Pv.add rfl rfl (by omega)) (by omega))<|mj Z<|nl ?_
   exact Vc.inv2 (k+1) hc' ⟨⟨by omega,hJ'⟩,by omega⟩ (.cons rfl (.cons rfl (.cons rfl (.cons rfl (.cons rfl .nil))))) pulled
 · simp only [df] at h8
   have hJf:J xs hc:=by rwa [List.take_of_length_le (by omega)] at hJ
   refine Vc.exit Z ?_
   exact Vc.fin (Vc.retsH rfl .nil (⟨xs,rfl,hJf⟩) pulled)
theorem appendSeq_specr {F:Fm} {gf:Nat} [TyCall Tryz.prog gf] {lb:List Value} {Sp S:List Tqr→Prop} {hi:Hl} (hit:∀F',(∀b o,F.at_ b o→F'.at_ b o)→Iter Tryz.prog gf lb F' (fun x=>[sqr.val x]) Sp S hi) (hS:∀pre x,Sp (pre++[x])→pre.length<1073741824) :
 Spec Tryz.prog 297 #[.slice none 0 0,.func (.func gf) #[] lb.toArray] F hi fun v s=>∃ys,S ys∧Own sqr v ys s:=by
 refine Spec.of (n:=13) (vs:=[.slice none 0 0,.func (.func gf) #[] lb.toArray]) Tryz.func297 rfl Tryz.ntmps297 rfl ?_
 refine sj [.e,.p] Z<|Rg.box Z Z Z Z Z (fun b2=>?_)
 refine aj Z<|nl<|wj<|sj [.p] Z<|mj Z<|nl<|bj ?_
 refine Vc.rangeFunc (enc:=fun x=>[sqr.val x]) (Sp:=Sp) (S:=S) (hi:=hi) (rest:=[]) (fun pre hc=>∃v sg,Own sqr v pre sg∧hc=(b2,cellsO [v] 289)::sg) [(b2,cellsO [.slice none 0 0] 289)] Z Z (fun _=>Z) Z pulled (fun F1 hF1=>hit F1 fun b o h=>hF1 b o (.inr h)) ⟨_,[],Own.nil,Z⟩ ?_ ?_
 · rintro lr rc pre x hc F1 hF1 hpre ⟨v,sg,own,rfl⟩
   have hpl:=hS pre x hpre
   refine tj [.e,.e] Z<|Rg.alloc Z Z Z Z (fun b5=>?_)
   refine Rg.storeA (us:=sqr.cells x) Z Z Z Z Z Z Z Z<|nl<|Vc.begin<|bj<|tj [.r,.r,.e,.e,.e] Z<|lj Z Z<|rj Z (Ev.ldA Z Z)<|Rg.bslice1 Z Z Z Z Z Z Z (fun b10=>?_)
   refine Rg.append Z Z Z Z Z own (Src.one (y:=x) rfl) (by simp<;>omega) (by simp [maxLen]<;>omega) rfl (fun v11 s11 own11=>?_)
   refine Rg.store Z Z Z Z Z own11.one Z Z<|nl<|dj ?_
   exact Vc.finR ((b2,cellsO [v11] 289)::s11) ⟨v11,s11,own11,rfl⟩ pulled
 · rintro D ys hc hD hSy ⟨v,sg,own,rfl⟩
   refine dj<|sj [.r,.p] Z<|lj Z Z<|aj Z<|nl ?_
   exact Vc.ret (Vc.retsM (hl':=sg) (Mk.one hD) rfl (tz Z) ⟨ys,hSy,own⟩ pulled)
theorem collect_specr {F:Fm} {gf:Nat} [TyCall Tryz.prog gf] {lb:List Value} {Sp S:List Tqr→Prop} {hi:Hl} (hit:∀F',(∀b o,F.at_ b o→F'.at_ b o)→Iter Tryz.prog gf lb F' (fun x=>[sqr.val x]) Sp S hi) (hS:∀pre x,Sp (pre++[x])→pre.length<1073741824) :
 Spec Tryz.prog 291 #[.func (.func gf) #[] lb.toArray] F hi fun v s=>∃ys,S ys∧Own sqr v ys s:=by
 refine Spec.of (n:=5) (vs:=[.func (.func gf) #[] lb.toArray]) Tryz.func291 rfl Tryz.ntmps291 rfl ?_
 refine sj [.p] Z<|aj Z<|nl<|sj [.p,.e,.p] Z<|mj Z<|Rg.callH Z Z Z (mz Z) (fun F' hF'=>appendSeq_specr (F:=F') (Sp:=Sp) (S:=S) (fun F'' h=>hit F'' fun b o hb=>h b o (hF' b o (.inr hb))) hS) Z ?_
 rintro v4 s4 ⟨ys,hSy,own⟩
 refine aj Z<|nl ?_
 exact vr rfl (tz Z) (⟨ys,hSy,own⟩) pulled
theorem sortFunc_specr {F:Fm} (cf:Tqr→Tqr→Int) (hO:Go.Sort.SWO (Go.Proofs.ltOf cf)) (g:Nat) (cb:Array Value) [tc:TyCall Tryz.prog g] {v:Value} {xs:List Tqr} {sg:Hl} (own:Own sqr v xs sg) (hsz:xs.length<4611686018427387904)
 (hcmp:∀F':Fm,(∀b o,F.at_ b o→F'.at_ b o)→∀x∈xs,∀y∈xs,Spec Tryz.prog g (#[sqr.val x,sqr.val y]++cb) F' [] fun v _=>v=.int .i64 (cf x y)) :
 Spec Tryz.prog 292 #[v,.func (.func g) #[] cb] F sg fun _ s=>∃ys,Own sqr v ys s∧ys.Perm xs∧ys.Pairwise fun x y=>¬cf y x<0:=by
 cases own with
 | nil=>exact fun w hw=>(AnyF.slices_SortFunc_none { sortLr with } none 0 (.func (.func g) #[] cb) w).mono fun e w' ⟨he,hw'⟩=>⟨_,_,he,⟨[],.nil,.refl _,.nil⟩,by rw [hw'];exact hw⟩
 | blk b cap _ sp hc hm =>
  refine (sort_genK sortLr sqr (Tryz.isAgg293) (Tryz.sizeOf293) (fun _=>rfl) cf hO g cb (fun args w=>tc.call args w) F b cap xs sp hsz hcmp).mono fun u s ⟨ys,e,hp,hs⟩=>⟨ys,?_,hp,hs⟩
  subst e
  have hl:=hp.length_eq
  have:=Own.blk' (E:=sqr) b cap xs.length ys sp hl.symm hc hm
  exact this
theorem sortedFunc_specr {F:Fm} (cf:Tqr→Tqr→Int) (hO:Go.Sort.SWO (Go.Proofs.ltOf cf)) (g:Nat) [tc:TyCall Tryz.prog g] {gf:Nat} [TyCall Tryz.prog gf] {lb:List Value} {Sp S:List Tqr→Prop} {hi:Hl} (hit:∀F',(∀b o,F.at_ b o→F'.at_ b o)→Iter Tryz.prog gf lb F' (fun x=>[sqr.val x]) Sp S hi) (hS:∀pre x,Sp (pre++[x])→pre.length<1073741824) (hSl:∀ys,S ys→ys.length<1073741824)
 (hcmp:∀F':Fm,(∀b o,F.at_ b o→F'.at_ b o)→∀ys,S ys→∀x∈ys,∀y∈ys,Spec Tryz.prog g #[sqr.val x,sqr.val y] F' [] fun v _=>v=.int .i64 (cf x y)) :
 Spec Tryz.prog 280 #[.func (.func gf) #[] lb.toArray,.func (.func g) #[] #[]] F hi fun v s=>∃ys zs,S ys∧Own sqr v zs s∧zs.Perm ys∧zs.Pairwise fun x y=>¬cf y x<0:=by
 refine Spec.of (n:=12) (vs:=[.func (.func gf) #[] lb.toArray,.func (.func g) #[] #[]]) Tryz.func280 rfl Tryz.ntmps280 rfl ?_
 refine sj [.p] Z<|aj Z<|nl<|sj [.p,.e,.p] Z<|mj Z<|Rg.callH Z Z Z (mz Z) (fun F' hF'=>collect_specr (F:=F') (Sp:=Sp) (S:=S) (fun F'' h=>hit F'' fun b o hb=>h b o (hF' b o (.inr hb))) hS) Z ?_
 rintro v7 s7 ⟨ys,hSy,own⟩
 refine aj Z<|nl<|sj [.p,.p,.e] Z<|mj Z<|mj Z<|Rg.callH Z Z Z (mz Z) (fun F' hF'=>sortFunc_specr (F:=F') cf hO g #[] own (by have:=hSl ys hSy;omega) (fun F'' h x hx y hy=>hcmp F'' (fun b o hb=>h b o (hF' b o (.inr hb))) ys hSy x hx y hy)) rfl ?_
 rintro v10 s10 ⟨zs,own2,hp,hs⟩
 refine nl<|sj [.p,.p] Z<|mj Z<|aj Z<|nl ?_
 exact vr rfl (tz Z) (⟨ys,zs,hSy,own2,hp,hs⟩) pulled
end Go.Proofs.YtkpiakgmkpbikaaGreatDoor
namespace Go.Proofs.YtkpiakgmkpbikaaGreatDoor
theorem eq_nil_or_snoc {α:Type}:∀l:List α,l=[]∨∃m x,l=m++[x]:=fun l=>by
 rcases List.eq_nil_or_concat l with h | ⟨m,x,h⟩
 · exact .inl h
 · exact .inr ⟨m,x,by simpa using h⟩
theorem snocRec {α:Type} {motive:List α→Prop} (l:List α) (nil:motive []) (snoc:∀(l:List α) (r:α),motive l→motive (l++[r])):motive l:=by
 rw [←List.reverse_reverse l]
 induction l.reverse with
 | nil=>exact nil
 | cons x m ih=>rw [List.reverse_cons]; exact snoc _ _ ih
def InR (r:Rc):Prop:=(0≤r.key∧r.key<18446744073709551616)∧(0≤r.val∧r.val<18446744073709551616)
def comb (how a b:Int):Int:=if how=1 then (if a+b<18446744073709551616 then a+b else 18446744073709551615) else min a b
theorem comb_in {how a b:Int} (ha:0≤a∧a<18446744073709551616) (hb:0≤b∧b<18446744073709551616):0≤comb how a b∧comb how a b<18446744073709551616:=by
 unfold comb; split<;>(try split)<;>omega
theorem comb_comm (how a b:Int):comb how a b=comb how b a:=by
 unfold comb; split
 · rw [Int.add_comm]
 · omega
theorem comb_assoc {how a b c:Int} (ha:0≤a) (hb:0≤b) (hc:0≤c):comb how (comb how a b) c=comb how a (comb how b c):=by
 unfold comb; split
 · split<;>split<;>(try split)<;>(try split)<;>omega
 · omega
def stepC (how:Int) (out:List Rc) (r:Rc):List Rc :=
 if how≠0∧0<out.length∧out[out.length-1]!.key=r.key then out.set (out.length-1) ⟨r.key,comb how out[out.length-1]!.val r.val⟩ else out++[r]
def foldC (how:Int) (l:List Rc):List Rc:=l.foldl (stepC how) []
def sortedG (how:Int) (l:List Rc):List Rc:=foldC how (sortL l)
theorem foldC_snoc (how:Int) (l:List Rc) (r:Rc):foldC how (l++[r])=stepC how (foldC how l) r:=by simp [foldC]
theorem stepC_length (how:Int) (out:List Rc) (r:Rc):(stepC how out r).length≤out.length+1:=by unfold stepC; split<;>simp
theorem foldC_length (how:Int) (l:List Rc):(foldC how l).length≤l.length:=by
 induction l using snocRec with
 | nil=>simp [foldC]
 | snoc l r ih=>rw [foldC_snoc]; have:=stepC_length how (foldC how l) r; simp; omega
theorem rises_unique:∀{a b:List Rc},Rises a→Rises b→a.Perm b→a=b
 | [],b,_,_,hp=>(List.nil_perm.1 hp).symm
 | x::a,[],_,_,hp=>List.perm_nil.1 hp
 | x::a,y::b,ha,hb,hp=>by
  have hx:x∈y::b:=hp.mem_iff.1 List.mem_cons_self
  have hy:y∈x::a:=hp.mem_iff.2 List.mem_cons_self
  have e:x=y:=by
   rcases List.mem_cons.1 hx with h | h
   · exact h
   · rcases List.mem_cons.1 hy with h2 | h2
     · exact h2.symm
     · exact geR_antisymm ((List.pairwise_cons.1 hb).1 x h) ((List.pairwise_cons.1 ha).1 y h2)
  subst e
  rw [rises_unique (List.pairwise_cons.1 ha).2 (List.pairwise_cons.1 hb).2 (List.Perm.cons_inv hp)]
theorem sortL_perm (l:List Rc):(sortL l).Perm l:=sort_perm l []
theorem sortL_rises (l:List Rc):Rises (sortL l):=sort_rises l [] .nil
theorem sortL_of {l zs:List Rc} (hp:zs.Perm l) (hr:Rises zs):zs=sortL l:=rises_unique hr (sortL_rises l) (hp.trans (sortL_perm l).symm)
theorem sortL_congr {l m:List Rc} (h:l.Perm m):sortL l=sortL m:=sortL_of ((sortL_perm l).trans h) (sortL_rises l)
theorem sortedG_congr {how:Int} {l m:List Rc} (h:l.Perm m):sortedG how l=sortedG how m:=by rw [sortedG,sortedG,sortL_congr h]
theorem foldC_zero (l:List Rc):foldC 0 l=l:=by
 induction l using snocRec with
 | nil=>rfl
 | snoc l r ih=>rw [foldC_snoc,ih]; simp [stepC]
theorem sortedG_zero (l:List Rc):sortedG 0 l=sortL l:=foldC_zero _
def addO (how:Int):Option Int→Int→Option Int
 | none,v=>some v
 | some a,v=>some (comb how a v)
def tot (how k:Int) (l:List Rc):Option Int:=l.foldl (fun acc r=>if r.key=k then addO how acc r.val else acc) none
theorem tot_snoc (how k:Int) (l:List Rc) (r:Rc):tot how k (l++[r])=if r.key=k then addO how (tot how k l) r.val else tot how k l:=by simp [tot]
def joinO (how:Int):Option Int→Option Int→Option Int
 | none,b=>b
 | some a,none=>some a
 | some a,some b=>some (comb how a b)
def NN (l:List Rc):Prop:=∀r∈l,0≤r.val
theorem comb_nn {how a b:Int} (ha:0≤a) (hb:0≤b):0≤comb how a b:=by unfold comb; split<;>(try split)<;>omega
theorem tot_nn {how k:Int} {l:List Rc} (h:NN l):∀v,tot how k l=some v→0≤v:=by
 induction l using snocRec with
 | nil=>intro v hv; simp [tot] at hv
 | snoc l r ih =>
  intro v hv
  have hl:=ih fun x hx=>h x (List.mem_append_left _ hx)
  have hr:=h r (by simp)
  rw [tot_snoc] at hv
  split at hv
  · cases ht:tot how k l with
    | none=>rw [ht] at hv; cases hv; exact hr
    | some a=>rw [ht] at hv; cases hv; exact comb_nn (hl a ht) hr
  · exact hl v hv
theorem tot_append {how k:Int} {l m:List Rc} (hl:NN l) (hm:NN m):tot how k (l++m)=joinO how (tot how k l) (tot how k m):=by
 induction m using snocRec with
 | nil=>simp [tot,joinO]; cases (List.foldl _ none l)<;>rfl
 | snoc m r ih =>
  have hm':NN m:=fun x hx=>hm x (List.mem_append_left _ hx)
  have hr:=hm r (by simp)
  rw [←List.append_assoc,tot_snoc,tot_snoc,ih hm']
  split
  · cases h1:tot how k l with
    | none=>rfl
    | some a =>
     cases h2:tot how k m with
     | none=>rfl
     | some b=>simp only [joinO,addO]; rw [comb_assoc (tot_nn hl a h1) (tot_nn hm' b h2) hr]
  · rfl
theorem tot_one (how k:Int) (r:Rc):tot how k [r]=if r.key=k then some r.val else none:=by simp [tot,addO]
theorem joinO_comm (how:Int) (a b:Option Int):joinO how a b=joinO how b a:=by
 cases a<;>cases b<;>simp [joinO,comb_comm]
theorem NN.app {l m:List Rc} (hl:NN l) (hm:NN m):NN (l++m):=fun x hx=>(List.mem_append.1 hx).elim (hl x) (hm x)
theorem tot_perm {how k:Int} {l m:List Rc} (h:l.Perm m):NN l→tot how k l=tot how k m:=by
 induction h with
 | nil=>intro _; rfl
 | cons x hp ih =>
  intro hn
  have h1:NN [x]:=fun y hy=>hn y (by simp at hy; simp [hy])
  have h2:=fun y hy=>hn y (List.mem_cons_of_mem x hy)
  have e1:=tot_append (how:=how) (k:=k) h1 h2
  have e2:=tot_append (how:=how) (k:=k) h1 (fun y hy=>h2 y (hp.mem_iff.2 hy))
  rw [←ih h2,←e1] at e2
  exact e2.symm
 | swap x y l =>
  intro hn
  have hx:NN [x]:=fun z hz=>hn z (by simp at hz; simp [hz])
  have hy:NN [y]:=fun z hz=>hn z (by simp at hz; simp [hz])
  have hl:NN l:=fun z hz=>hn z (by simp [hz])
  rw [show y::x::l=([y]++[x])++l from rfl,show x::y::l=([x]++[y])++l from rfl,tot_append (hy.app hx) hl,tot_append (hx.app hy) hl,tot_append hy hx,tot_append hx hy,joinO_comm how (tot how k [y])]
 | trans h1 h2 ih1 ih2 =>
  intro hn
  rw [ih1 hn,ih2 fun y hy=>hn y (h1.mem_iff.2 hy)]
def KeysUp (l:List Rc):Prop:=l.Pairwise fun a b=>a.key<b.key
theorem snoc_last (l:List Rc) (r:Rc):(l++[r])[(l++[r]).length-1]! = r:=by
 rw [getElem!_pos _ _ (by simp)]; simp
theorem snoc_set (l:List Rc) (r x:Rc):(l++[r]).set ((l++[r]).length-1) x=l++[x]:=by simp
theorem stepC_snoc (how:Int) (l:List Rc) (x r:Rc):stepC how (l++[x]) r=if how≠0∧x.key=r.key then l++[⟨r.key,comb how x.val r.val⟩] else l++[x]++[r]:=by
 unfold stepC
 rw [snoc_last,snoc_set]
 by_cases h:how≠0∧x.key=r.key
 · rw [if_pos h,if_pos ⟨h.1,by simp,h.2⟩]
 · rw [if_neg h,if_neg (fun h'=>h ⟨h'.1,h'.2.2⟩)]
theorem stepC_nil (how:Int) (r:Rc):stepC how [] r=[r]:=by simp [stepC]
theorem fold_spec {how:Int} (h0:how≠0) (l:List Rc):(l.Pairwise fun a b=>a.key≤b.key)→NN l →
 KeysUp (foldC how l)∧(∀k,tot how k (foldC how l)=tot how k l)∧NN (foldC how l)∧(∀x∈foldC how l,∃y∈l,y.key=x.key):=by
 induction l using snocRec with
 | nil=>intro _ _; exact ⟨.nil,fun _=>rfl,fun _ h=>absurd h List.not_mem_nil,fun _ h=>absurd h List.not_mem_nil⟩
 | snoc l r ih =>
  intro hs hn
  rw [List.pairwise_append] at hs
  have hn':NN l:=fun x hx=>hn x (List.mem_append_left _ hx)
  have hr:=hn r (by simp)
  obtain ⟨h1,h2,h3,h4⟩:=ih hs.1 hn'
  have hle:∀x∈foldC how l,x.key≤r.key:=fun x hx=>by
   obtain ⟨y,hy,e⟩:=h4 x hx
   rw [←e]
   exact hs.2.2 y hy r (by simp)
  rw [foldC_snoc]
  rcases eq_nil_or_snoc (foldC how l) with hf | ⟨m,x,hf⟩
  · rw [hf] at h2 ⊢
    rw [stepC_nil]
    refine ⟨by simp [KeysUp],fun k => ?_,fun y hy=>by simp at hy; rw [hy]; exact hr,fun y hy=>⟨r,by simp,by simp at hy; rw [hy]⟩⟩
    rw [tot_snoc,←h2 k,tot_one]
    rfl
  · rw [hf] at h1 h2 h3 h4 hle ⊢
    rw [stepC_snoc]
    have hxle:=hle x (by simp)
    have hxn:0≤x.val:=h3 x (by simp)
    have hmn:NN m:=fun y hy=>h3 y (List.mem_append_left _ hy)
    rw [KeysUp,List.pairwise_append] at h1
    by_cases he:x.key=r.key
    · rw [if_pos ⟨h0,he⟩]
      refine ⟨?_,fun k => ?_,?_,?_⟩
      · rw [KeysUp,List.pairwise_append]
        exact ⟨h1.1,by simp,fun a ha b hb=>by simp at hb; rw [hb,←he]; exact h1.2.2 a ha x (by simp)⟩
      · rw [tot_snoc,tot_snoc,←h2 k,tot_snoc]
        simp only [he]
        by_cases hk:r.key=k
        · rw [if_pos hk,if_pos hk,if_pos hk]
          cases ht:tot how k m with
          | none=>rfl
          | some a=>simp only [addO]; rw [comb_assoc (tot_nn hmn a ht) hxn hr]
        · rw [if_neg hk,if_neg hk,if_neg hk]
      · exact hmn.app fun y hy=>by simp at hy; rw [hy]; exact comb_nn hxn hr
      · intro y hy
        rcases List.mem_append.1 hy with hy | hy
        · obtain ⟨z,hz,e⟩:=h4 y (List.mem_append_left _ hy)
          exact ⟨z,List.mem_append_left _ hz,e⟩
        · simp at hy; exact ⟨r,by simp,by rw [hy]⟩
    · rw [if_neg (fun h=>he h.2)]
      refine ⟨?_,fun k => ?_,?_,?_⟩
      · rw [KeysUp,List.pairwise_append]
        refine ⟨by rw [List.pairwise_append]; exact h1,by simp,fun a ha b hb => ?_⟩
        simp at hb
        rw [hb]
        rcases List.mem_append.1 ha with ha | ha
        · have:=h1.2.2 a ha x (by simp); omega
        · simp at ha; rw [ha]; omega
      · rw [tot_snoc,tot_snoc how k l,h2 k]
      · exact h3.app fun y hy=>by simp at hy; rw [hy]; exact hr
      · intro y hy
        rcases List.mem_append.1 hy with hy | hy
        · obtain ⟨z,hz,e⟩:=h4 y hy
          exact ⟨z,List.mem_append_left _ hz,e⟩
        · simp at hy; exact ⟨r,by simp,by rw [hy]⟩
theorem tot_none {how k:Int} {l:List Rc}:(∀x∈l,x.key≠k)→tot how k l=none:=by
 induction l using snocRec with
 | nil=>intro _; rfl
 | snoc l r ih =>
  intro h
  rw [tot_snoc,if_neg (h r (by simp)),ih fun x hx=>h x (List.mem_append_left _ hx)]
theorem tot_cons {how k:Int} {x:Rc} {l:List Rc} (hn:NN (x::l)):tot how k (x::l)=joinO how (if x.key=k then some x.val else none) (tot how k l):=by
 rw [←List.singleton_append,tot_append (fun y hy=>hn y (by simp at hy; simp [hy])) (fun y hy=>hn y (by simp [hy])),tot_one]
theorem keys_unique {how:Int}:∀{a b:List Rc},KeysUp a→KeysUp b→NN a→NN b→(∀k,tot how k a=tot how k b)→a=b
 | [],[],_,_,_,_,_=>rfl
 | [],y::b,_,hb,_,nb,h=>by
  have:=h y.key
  rw [tot_cons nb,if_pos rfl] at this
  cases ht:tot how y.key b<;>rw [ht] at this<;>simp [tot,joinO] at this
 | x::a,[],ha,_,na,_,h=>by
  have:=h x.key
  rw [tot_cons na,if_pos rfl] at this
  cases ht:tot how x.key a<;>rw [ht] at this<;>simp [tot,joinO] at this
 | x::a,y::b,ha,hb,na,nb,h=>by
  have hax:=List.pairwise_cons.1 ha
  have hby:=List.pairwise_cons.1 hb
  have na':NN a:=fun z hz=>na z (by simp [hz])
  have nb':NN b:=fun z hz=>nb z (by simp [hz])
  have n1:∀k,k≤x.key→tot how k a=none:=fun k hk=>tot_none fun z hz=>by have:=hax.1 z hz; omega
  have n2:∀k,k≤y.key→tot how k b=none:=fun k hk=>tot_none fun z hz=>by have:=hby.1 z hz; omega
  have hkey:x.key=y.key:=by
   rcases Int.lt_trichotomy x.key y.key with hlt | he | hlt
   · have:=h x.key
     rw [tot_cons na,tot_cons nb,if_pos rfl,if_neg (by omega),n1 _ (Int.le_refl _),n2 _ (by omega)] at this
     cases this
   · exact he
   · have:=h y.key
     rw [tot_cons na,tot_cons nb,if_pos rfl,if_neg (by omega),n1 _ (by omega),n2 _ (Int.le_refl _)] at this
     cases this
  have hval:x.val=y.val:=by
   have:=h x.key
   rw [tot_cons na,tot_cons nb,if_pos rfl,if_pos hkey.symm,n1 _ (Int.le_refl _),n2 _ (by omega)] at this
   simpa [joinO] using this
  have hxy:x=y:=by cases x; cases y; simp at hkey hval; simp [hkey,hval]
  subst hxy
  have hk:∀k,tot how k a=tot how k b:=fun k=>by
   have hk:=h k
   rw [tot_cons na,tot_cons nb] at hk
   by_cases e:x.key=k
   · rw [n1 k (by omega),n2 k (by omega)]
   · rw [if_neg e] at hk
     cases h1:tot how k a<;>cases h2:tot how k b<;>rw [h1,h2] at hk<;>first | rfl | exact hk
  rw [keys_unique hax.2 hby.2 na' nb' hk]
theorem rises_keys {l:List Rc} (h:Rises l):l.Pairwise fun a b=>a.key≤b.key:=h.imp fun {a b} h=>by
 rw [←Bool.not_eq_true,ltR_iff] at h
 omega
theorem NN.perm {l m:List Rc} (h:l.Perm m) (hn:NN l):NN m:=fun x hx=>hn x (h.mem_iff.2 hx)
theorem sortedG_spec {how:Int} (h0:how≠0) {l:List Rc} (hn:NN l) :
 KeysUp (sortedG how l)∧(∀k,tot how k (sortedG how l)=tot how k l)∧NN (sortedG how l)∧(∀x∈sortedG how l,∃y∈l,y.key=x.key):=by
 obtain ⟨h1,h2,h3,h4⟩:=fold_spec h0 (sortL l) (rises_keys (sortL_rises l)) (hn.perm (sortL_perm l).symm)
 exact ⟨h1,fun k=>(h2 k).trans (tot_perm (sortL_perm l) (hn.perm (sortL_perm l).symm)),h3,fun x hx=>(h4 x hx).imp fun y hy=>⟨(sortL_perm l).mem_iff.1 hy.1,hy.2⟩⟩
end Go.Proofs.YtkpiakgmkpbikaaGreatDoor
namespace Go.Proofs.YtkpiakgmkpbikaaGreatDoor
theorem run_Add64 (x y:Int) (hx:0≤x) (hy:0≤y) (w:World):(callFunc 289 #[.int .u64 x,.int .u64 y,.int .u64 0]).run Tryz.prog w=.ok (.value (.tuple #[.int .u64 ((x+y) % 18446744073709551616),.int .u64 ((x+y) / 18446744073709551616)])) w:=by
 rw [run_callFunc_extern Tryz.func289 (by kernel_rfl) (by kernel_rfl) (by kernel_rfl) (e:=add64Entry) (by kernel_rfl),run_add64 x y 0 hx hy (by omega) (by omega)]
 simp only [Result.andThen,Int.add_zero]
theorem combine_spec (F:Fm) (how a b:Int) (ha:0≤a) (hb:0≤b) :
 Spec Tryz.prog 271 #[.int .i64 how,.int .u64 a,.int .u64 b] F [] fun v _=>v=.int .u64 (comb how a b):=by
 refine Spec.of (n:=23) (vs:=[.int .i64 how,.int .u64 a,.int .u64 b]) Tryz.func271 rfl Tryz.ntmps271 rfl ?_
 refine sj [.p] Z<|aj Z<|nl<|wj<|sj [.p,.p] Z<|mj Z<|uj Z (Pv.neq Z Z)<|nl<|cj Z (fun h10=>?_) (fun h10=>?_)
 · simp only [bne_iff_ne,ne_eq] at h10
   refine sj [.p,.p,.p,.p] Z<|mj Z<|mj Z<|uj Z (Pv.min Z Z)<|aj Z<|nl<|vz Z (tz Z) ?_
   exact congrArg (Value.int .u64) (by rw [comb,if_neg h10])
 · simp only [bne_eq_false_iff_eq] at h10
   refine kj<|wj<|sj [.p,.p,.e,.p,.p,.p,.p,.p] Z<|mj Z<|mj Z<|Rg.ext Z Z Z Z (run_Add64 a b ha hb)<|mj Z<|xj Z Z<|xj Z Z<|aj Z<|aj Z<|nl<|sj [.p,.p] Z<|mj Z<|uj Z (Pv.eql Z Z) ?_
   refine nl<|cj Z (fun h21=>?_) (fun h21=>?_)
   · simp only [beq_iff_eq] at h21
     refine sj [.p,.p] Z<|mj Z<|aj Z<|nl<|vz Z (tz Z) ?_
     exact congrArg (Value.int .u64) (by rw [comb,if_pos h10,if_pos (by omega)];omega)
   · simp only [beq_eq_false_iff_ne,ne_eq] at h21
     refine kj<|sj [.p] Z<|aj Z<|nl<|vz Z (tz Z) ?_
     exact congrArg (Value.int .u64) (by rw [comb,if_pos h10,if_neg (by omega)])
theorem wrap_u64i {z:Int} (h:0≤z):IntKind.u64.wrap z=z % 18446744073709551616:=by
 simp [IntKind.wrap,IntKind.bits,IntKind.signed]
theorem rcombine_spec (F:Fm) (how a b:Int) (ha:0≤a∧a<18446744073709551616) (hb:0≤b∧b<18446744073709551616) :
 Spec Tryz.prog 41 #[.int .i64 how,.int .u64 a,.int .u64 b] F [] fun v _=>v=.int .u64 (comb how a b):=by
 refine Spec.of (n:=20) (vs:=[.int .i64 how,.int .u64 a,.int .u64 b]) Tryz.func41 rfl Tryz.ntmps41 rfl ?_
 refine sj [.p] Z<|aj Z<|nl<|wj<|sj [.p,.p] Z<|mj Z<|uj Z (Pv.neq Z Z)<|nl<|cj Z (fun h8=>?_) (fun h8=>?_)
 · simp only [bne_iff_ne,ne_eq] at h8
   refine sj [.p,.p,.p,.p] Z<|mj Z<|mj Z<|uj Z (Pv.min Z Z)<|aj Z<|nl<|vz Z (tz Z) ?_
   exact congrArg (Value.int .u64) (by rw [comb,if_neg h8])
 · simp only [bne_eq_false_iff_eq] at h8
   refine kj<|wj<|sj [.p,.p,.p,.p,.p] Z<|mj Z<|mj Z<|uj Z (Pv.as (.int .u64 ((a+b) % 18446744073709551616)) (Pv.addW rfl rfl) (by rw [wrap_u64i (by omega)]))<|mj Z<|uj Z (Pv.lss Z Z)<|nl<|cj Z (fun h16=>?_) (fun h16=>?_)
   · simp only [dt] at h16
     refine sj [.p] Z<|aj Z<|nl<|vz Z (tz Z) ?_
     exact congrArg (Value.int .u64) (by rw [comb,if_pos h8,if_neg (by omega)])
   · simp only [df] at h16
     refine kj<|sj [.p,.p,.p,.p] Z<|mj Z<|mj Z<|uj Z (Pv.as (.int .u64 ((a+b) % 18446744073709551616)) (Pv.addW rfl rfl) (by rw [wrap_u64i (by omega)]))<|aj Z<|nl<|vz Z (tz Z) ?_
     exact congrArg (Value.int .u64) (by rw [comb,if_pos h8,if_pos (by omega)];omega)
theorem right_spec (F:Fm) (how:Int):Spec Tryz.prog 277 #[.int .i64 how] F [] fun v _=>v=.bool (decide (0≤how)&&decide (how≤2)):=by
 refine Spec.of (n:=9) (vs:=[.int .i64 how]) Tryz.func277 rfl Tryz.ntmps277 rfl ?_
 refine sj [.p] Z<|aj Z<|nl<|sj [.p,.p,.p,.p,.p,.p,.p] Z<|mj Z<|uj Z (Pv.geq Z Z)<|mj Z<|Rg.split (t:=5) Z (fun h5=>?_) (fun h5=>?_)
 · refine mj Z<|uj Z (Pv.leq Z Z)<|qj Z Z<|aj Z<|nl<|vz Z (tz Z) ?_
   exact congrArg Value.bool (by simp [*])
 · iterate 2 (first | refine Rg.skipP rfl rfl rfl ?_ | refine Rg.skipR rfl rfl rfl ?_ | refine Rg.skipE rfl rfl rfl ?_)
   refine pj Z Z<|aj Z<|nl<|vz Z (tz Z) ?_
   exact congrArg Value.bool (by simp [*])
def cfR (a b:Rc):Int:=if ltR a b=true then -1 else if ltR b a=true then 1 else 0
theorem compare_spec (F:Fm) (a b:Rc):Spec Tryz.prog 282 #[recV a,recV b] F [] fun v _=>v=.int .i64 (cfR a b):=by
 refine Spec.of (n:=13) (vs:=[recV a,recV b]) Tryz.func282 rfl Tryz.ntmps282 rfl ?_
 refine sj [.e,.e,.p] Z<|Rg.box Z Z Z Z Z (fun b2=>?_)
 refine Rg.box Z Z Z Z Z (fun b3=>?_)
 refine aj Z<|nl<|wj<|bj<|sj [.r,.r,.e,.p] Z<|rj Z (Ev.ldA Z Z)<|rj Z (Ev.ldA Z Z)<|Rg.callP Z Z Z (mz Z) (before_spec _ _ _) ?_
 rintro _ rfl
 refine aj Z<|nl<|cj Z (fun h5=>?_) (fun h5=>?_)
 · refine sj [.p] Z<|aj Z<|nl<|vz Z (tz Z) ?_
   exact congrArg (Value.int .i64) (by rw [cfR,if_pos h5])
 · refine sj [.r,.r,.e,.p] Z<|rj Z (Ev.ldA Z Z)<|rj Z (Ev.ldA Z Z)<|Rg.callP Z Z Z (mz Z) (before_spec _ _ _) ?_
   rintro _ rfl
   refine aj Z<|nl<|cj Z (fun h9=>?_) (fun h9=>?_)
   · refine sj [.p] Z<|aj Z<|nl<|vz Z (tz Z) ?_
     exact congrArg (Value.int .i64) (by rw [cfR,if_neg (by simpa using h5),if_pos h9])
   · refine kj<|dj<|sj [.p] Z<|aj Z<|nl<|vz Z (tz Z) ?_
     exact congrArg (Value.int .i64) (by rw [cfR,if_neg (by simpa using h5),if_neg (by simpa using h9)])
theorem cfR_lt {a b:Rc}:cfR a b<0↔ltR a b=true:=by unfold cfR;split<;>(try split)<;>simp_all
theorem cfR_swo:Go.Sort.SWO (Go.Proofs.ltOf cfR):=⟨fun x=>by simp only [Go.Proofs.ltOf,df,cfR_lt,ltR_iff];omega,fun x y z=>by simp only [Go.Proofs.ltOf,dt,cfR_lt,ltR_iff];omega,fun x y z=>by simp only [Go.Proofs.ltOf,df,cfR_lt,ltR_iff];omega⟩
def FoldAt (fb:Nat) (how:Int) (out:List Rc) (hl:Hl):Prop:=∃v sg,Own recE v out sg∧hl=(fb,cellsO [.int .i64 how,v] 398)::sg
theorem last_cells (x:Rc) (k v:Int) (h:x.key=k):recE.cells ⟨k,v⟩=(recE.cells x).set 1 (.int .u64 v):=by subst h;rfl
theorem putF_spec (F:Fm) (fb:Nat) (how:Int) (out:List Rc) (r:Rc) (hl:Hl) (hh:FoldAt fb how out hl) (hn:out.length<4294967296) (hnn:NN out) (hr:0≤r.val) :
 Spec Tryz.prog 284 #[.pointer (some ⟨fb,0,none⟩),recV r] F hl fun _ hl'=>FoldAt fb how (stepC how out r) hl':=by
 obtain ⟨v,seg,own,rfl⟩:=hh
 obtain ⟨p,cap0,rfl⟩:=own.shape
 refine Spec.of (n:=67) (vs:=[.pointer (some ⟨fb,0,none⟩),recV r]) Tryz.func284 rfl Tryz.ntmps284 rfl ?_
 refine sj [.e] Z<|Rg.box Z Z Z Z Z (fun b3=>?_)
 refine nl<|wj<|sj [.p,.p,.p,.r,.p,.p] Z<|mj Z<|nj Z<|fj Z<|lj Z Z<|uj Z (Pv.lenS Z)<|aj Z<|nl<|wj ?_
 refine Vc.draw [] (sd [(0,.pure),(1,.pure),(2,.pure),(3,.read),(4,.pure),(5,.pure),(6,.pure),(7,.pure),(8,.pure),(9,.pure),(10,.pure),(11,.pure),(12,.pure),(13,.read),(14,.pure),(15,.pure),(16,.pure),(17,.pure),(18,.read),(19,.pure),(20,.read),(21,.pure),(22,.pure)]) mixed (by kernel_rfl)<|mj Z<|nj Z<|fj Z<|lj Z Z<|uj Z (Pv.neq Z Z)<|mj Z ?_
 refine Rg.split (t:=15) Z (fun h15=>?_) (fun h15=>?_)
 · simp only [bne_iff_ne,ne_eq] at h15
   refine mj Z<|uj Z (Pv.gtr Z Z)<|qj Z Z<|mj Z<|Rg.split (t:=19) Z (fun h19=>?_) (fun h19=>?_)
   · simp only [dt] at h19
     obtain ⟨b,cap,sp,e,rfl,hc,hm⟩:=own.block (by omega)
     cases e
     generalize hx:out[out.length-1]! = x
     refine mj Z<|nj Z<|fj Z<|lj Z Z<|mj Z<|uj Z (Pv.asI (out.length-1) (Pv.sub rfl rfl (by omega)) (by omega))<|uj Z (Pv.ixA (out.length-1) rfl rfl (by omega) (by omega))<|fj Z<|rj Z (Ev.ldRf (E:=recE) (u:=.int .u64 x.key) (out.length-1) 0 rfl (by rw [show recE.k=2 from rfl];omega) (by omega) (by rw [hx];rfl))<|fj Z<|lj Z Z<|uj Z (Pv.eql Z Z)<|qj Z Z<|nl<|cj Z (fun h32=>?_) (fun h32=>?_)
     · simp only [beq_iff_eq] at h32
       have hxv:0≤x.val:=by rw [←hx];exact hnn _ (by rw [getElem!_pos out _ (by omega)];exact List.getElem_mem _)
       refine wj ?_
       refine Vc.draw [24] (sd [(0,.pure),(1,.pure),(2,.pure),(3,.read),(4,.pure),(5,.pure),(6,.pure),(7,.pure),(8,.pure),(9,.read),(10,.pure),(11,.pure),(12,.pure),(13,.read),(14,.pure),(15,.pure),(16,.pure),(17,.pure),(18,.read),(19,.pure),(20,.read),(21,.eff),(22,.pure),(23,.pure),(24,.eff)]) mixed (by kernel_rfl)<|mj Z<|nj Z<|fj Z<|lj Z Z<|mj Z<|uj Z (Pv.asI (out.length-1) (Pv.sub rfl rfl (by omega)) (by omega))<|mj Z<|nj Z<|fj Z<|lj Z Z<|mj Z<|nj Z<|fj Z<|lj Z Z ?_
       refine mj Z<|uj Z (Pv.asI (out.length-1) (Pv.sub rfl rfl (by omega)) (by omega))<|uj Z (Pv.ixA (out.length-1) rfl rfl (by omega) (by omega))<|fj Z<|rj Z (Ev.ldRf (E:=recE) (u:=.int .u64 x.val) (out.length-1) 1 rfl (by rw [show recE.k=2 from rfl];omega) (by omega) (by rw [hx];rfl))<|fj Z<|lj Z Z ?_
       refine Rg.callP Z Z Z (mz Z) (combine_spec _ _ _ _ hxv hr) ?_
       rintro _ rfl
       refine uj Z (Pv.ixA (out.length-1) rfl rfl (by omega) (by omega))<|fj Z ?_
       refine Rg.storeRf (E:=recE) (z:=⟨r.key,comb how x.val r.val⟩) (out.length-1) 1 rfl rfl rfl rfl rfl rfl (by rw [hx];exact last_cells x _ _ h32) (by decide) (by rw [show recE.k=2 from rfl];omega) (by omega) rfl<|nl ?_
       exact vr rfl (.nil) (⟨_,_,(show Own recE _ (stepC how out r) _ from by rw [stepC,if_pos ⟨h15,by omega,by rw [hx];exact h32⟩,hx];exact Own.blk' b cap0 out.length (out.set (out.length-1) ⟨r.key,comb how x.val r.val⟩) sp (by simp) hc hm),rfl⟩) pulled
     · simp only [beq_eq_false_iff_ne,ne_eq] at h32
       refine kj ?_
       refine Vc.draw [7,10] (sd [(0,.pure),(1,.pure),(2,.pure),(3,.pure),(4,.read),(5,.read),(6,.eff),(7,.eff),(8,.pure),(9,.pure),(10,.eff)]) mixed (by kernel_rfl)<|mj Z<|mj Z<|nj Z<|fj Z<|lj Z Z<|rj Z (Ev.ldA Z Z) ?_
       refine Rg.bslice1 Z Z Z Z Z Z Z (fun b63=>?_)
       refine Rg.append Z Z Z Z Z own (Src.one (y:=r) rfl) (by simp<;>omega) (by simp [maxLen]<;>omega) rfl (fun v64 s64 own64=>?_)
       refine nj Z<|fj Z ?_
       refine Rg.store Z Z Z Z Z own64.one Z Z<|nl ?_
       exact Vc.fin (Vc.retsH rfl .nil (⟨_,_,(show Own recE _ (stepC how out r) _ from by rw [stepC,if_neg (by rintro ⟨h1,h2,h3⟩;first | omega | (rw [hx] at h3;exact h32 h3))];exact own64),rfl⟩) pulled)
   · simp only [df] at h19
     iterate 12 (first | refine Rg.skipP rfl rfl rfl ?_ | refine Rg.skipR rfl rfl rfl ?_ | refine Rg.skipE rfl rfl rfl ?_)
     refine pj Z Z<|nl<|Vc.condF Z<|kj ?_
     refine Vc.draw [7,10] (sd [(0,.pure),(1,.pure),(2,.pure),(3,.pure),(4,.read),(5,.read),(6,.eff),(7,.eff),(8,.pure),(9,.pure),(10,.eff)]) mixed (by kernel_rfl)<|mj Z<|mj Z<|nj Z<|fj Z<|lj Z Z<|rj Z (Ev.ldA Z Z) ?_
     refine Rg.bslice1 Z Z Z Z Z Z Z (fun b63=>?_)
     refine Rg.append Z Z Z Z Z own (Src.one (y:=r) rfl) (by simp<;>omega) (by simp [maxLen]<;>omega) rfl (fun v64 s64 own64=>?_)
     refine nj Z<|fj Z ?_
     refine Rg.store Z Z Z Z Z own64.one Z Z<|nl ?_
     exact Vc.fin (Vc.retsH rfl .nil (⟨_,_,(show Own recE _ (stepC how out r) _ from by rw [stepC,if_neg (by rintro ⟨h1,h2,h3⟩;first | omega | (rw [hx] at h3;exact h32 h3))];exact own64),rfl⟩) pulled)
 · simp only [bne_eq_false_iff_eq] at h15
   iterate 2 (first | refine Rg.skipP rfl rfl rfl ?_ | refine Rg.skipR rfl rfl rfl ?_ | refine Rg.skipE rfl rfl rfl ?_)
   refine pj Z Z<|mj Z ?_
   iterate 12 (first | refine Rg.skipP rfl rfl rfl ?_ | refine Rg.skipR rfl rfl rfl ?_ | refine Rg.skipE rfl rfl rfl ?_)
   refine pj Z Z<|nl<|Vc.condF Z<|kj ?_
   refine Vc.draw [7,10] (sd [(0,.pure),(1,.pure),(2,.pure),(3,.pure),(4,.read),(5,.read),(6,.eff),(7,.eff),(8,.pure),(9,.pure),(10,.eff)]) mixed (by kernel_rfl)<|mj Z<|mj Z<|nj Z<|fj Z<|lj Z Z<|rj Z (Ev.ldA Z Z) ?_
   refine Rg.bslice1 Z Z Z Z Z Z Z (fun b63=>?_)
   refine Rg.append Z Z Z Z Z own (Src.one (y:=r) rfl) (by simp<;>omega) (by simp [maxLen]<;>omega) rfl (fun v64 s64 own64=>?_)
   refine nj Z<|fj Z ?_
   refine Rg.store Z Z Z Z Z own64.one Z Z<|nl ?_
   exact Vc.fin (Vc.retsH rfl .nil (⟨_,_,(show Own recE _ (stepC how out r) _ from by rw [stepC,if_neg (by rintro ⟨h1,h2,h3⟩;first | omega | (rw [hx] at h3;exact h32 h3))];exact own64),rfl⟩) pulled)
end Go.Proofs.YtkpiakgmkpbikaaGreatDoor
namespace Go.Proofs.YtkpiakgmkpbikaaGreatDoor
def NR (l:List Rc):Prop:=∀r∈l,0≤r.val∧r.val<18446744073709551616
theorem NR.nn {l:List Rc} (h:NR l):NN l:=fun r hr=>(h r hr).1
theorem NR.take {l:List Rc} (h:NR l) (k:Nat):NR (l.take k):=fun r hr=>h r (List.mem_of_mem_take hr)
theorem NR.perm {l m:List Rc} (hp:l.Perm m) (h:NR l):NR m:=fun r hr=>h r (hp.mem_iff.2 hr)
theorem NR.get {l:List Rc} (h:NR l) {j:Nat} (hj:j<l.length):0≤l[j]!.val∧l[j]!.val<18446744073709551616:=h _ (by rw [getElem!_pos l j hj];exact List.getElem_mem _)
theorem NR.app {l m:List Rc} (hl:NR l) (hm:NR m):NR (l++m):=fun x hx=>(List.mem_append.1 hx).elim (hl x) (hm x)
theorem foldC_nr {how:Int} (l:List Rc):NR l→NR (foldC how l):=by
 induction l using snocRec with
 | nil=>intro _ r hr;exact absurd hr List.not_mem_nil
 | snoc l r ih =>
  intro h
  have hl:=ih fun x hx=>h x (List.mem_append_left _ hx)
  have hr:=h r (by simp)
  rw [foldC_snoc]
  rcases eq_nil_or_snoc (foldC how l) with hf | ⟨m,x,hf⟩
  · rw [hf,stepC_nil];intro y hy;simp at hy;rw [hy];exact hr
  · rw [hf] at hl ⊢
    have hx:=hl x (by simp)
    rw [stepC_snoc]
    split
    · intro y hy
      rcases List.mem_append.1 hy with hy | hy
      · exact hl y (List.mem_append_left _ hy)
      · simp at hy;rw [hy];exact comb_in hx hr
    · exact hl.app fun y hy=>by simp at hy;rw [hy];exact hr
def okHow (how:Int):Bool:=decide (0≤how)&&decide (how≤2)
theorem sorted_of {zs xs:List Rc} (hp:zs.Perm xs) (hs:zs.Pairwise fun x y=>¬cfR y x<0):zs=sortL xs :=
 sortL_of hp (hs.imp fun {a b} h=>by rw [cfR_lt] at h;simpa using h)
theorem sorted_spec {F:Fm} {va:Value} {xs:List Rc} (ha:Arg recE F va xs) (hN:xs.length<1000000) (hR:NR xs) (how:Int) :
 Spec Tryz.prog 276 #[va,.int .i64 how] F [] fun v s=>∃u er,v=.tuple #[u,.int .i64 er]∧((okHow how=true∧er=0∧Own recE u (sortedG how xs) s)∨(okHow how=false∧er=1∧u=.slice none 0 0)):=by
 obtain ⟨p,c,rfl⟩:=ha.shape
 refine Spec.of (n:=27) (vs:=[.slice p xs.length c,.int .i64 how]) Tryz.func276 rfl Tryz.ntmps276 rfl ?_
 refine sj [.p,.p] Z<|aj Z<|aj Z<|nl<|wj<|sj [.p,.e,.p] Z<|mj Z<|Rg.callP Z Z Z (mz Z) (right_spec _ _) ?_
 rintro _ rfl
 refine uj Z (Pv.not Z)<|nl<|cj Z (fun h11=>?_) (fun h11=>?_)
 · have hno:okHow how=false:=by simpa only [okHow,Bool.not_eq_true'] using h11
   refine sj [.p,.p] Z<|aj Z<|aj Z<|nl ?_
   exact vr (hl':=[]) rfl (.cons (.tmp rfl) (tz Z)) ⟨_,_,rfl,.inr ⟨hno,rfl,rfl⟩⟩ pulled
 · have hok:okHow how=true:=by simpa [okHow] using h11
   refine kj<|sj [.p,.p,.e,.e] Z<|mj Z<|uj Z (Pv.build (c:=#[.int .i64 how,.slice none 0 0]) Z Z)<|Rg.alloc Z Z Z Z (fun b6=>?_)
   refine Rg.storeA Z Z Z Z Z Z Z Z<|nl<|wj<|sj [.p,.e,.e,.p,.p] Z<|mj Z<|Rg.callA Z Z Z (mz Z) values_specr ?_
   rintro _ _ ⟨bs,rfl,rfl⟩
   refine Rg.callH Z Z Z (mz Z) (fun F' hF'=>sortedFunc_specr (F:=F') (Sp:=fun p=>p <+: xs) (S:=fun p=>p=xs) cfR cfR_swo 282 (lb:=[.pointer (some ⟨bs,0,none⟩)]) (hi:=[(bs,cellsO [.slice p xs.length c] 289)]) (fun F'' h=>values_iterr (ha.mono fun b o hb=>h b o (hF' b o (.inr hb))) (by omega) bs) (fun pre x hp=>by have:=hp.length_le;simp at this;omega) (fun ys e=>by rw [e];omega) (fun F'' h ys _ x _ y _=>compare_spec _ x y)) rfl ?_
   rintro v16 s16 ⟨ys,zs,rfl,own,hp,hs⟩
   obtain rfl:=sorted_of hp hs
   have hlen:=sortL_length ys
   have hzr:NR (sortL ys):=hR.perm (sortL_perm ys).symm
   rw [show sortedG how ys=foldC how (sortL ys) from rfl]
   generalize sortL ys=zs at own hlen hzr
   obtain ⟨q,cq,rfl⟩:=own.shape
   refine uj Z (Pv.lenS Z)<|mj Z<|nl<|bj ?_
   refine Vc.loop2 (fun (k:Nat) (sg:Hl)=>k≤zs.length∧FoldAt b6 how (foldC how (zs.take k)) sg) (fun k sg=>[(6,.pointer (some ⟨b6,0,none⟩)),(16,.slice q zs.length cq),(17,.int .i64 (zs.length:Int)),(18,.int .i64 (k:Int))]) (fun k sg=>s16++sg) (fun k sg=>zs.length-k) 0 [(b6,cellsO [.int .i64 how,.slice none 0 0] 398)] ⟨Nat.zero_le _,_,_,.nil,Z⟩ (.cons Z (.cons Z (.cons Z (.cons Z .nil)))) pulled ?_
   rintro k sg ⟨hk,hfo⟩
   refine sj [.p] Z<|uj Z (Pv.lss Z Z)<|nl<|wj<|cj Z (fun h19=>?_) (fun h19=>?_)
   · simp only [dt] at h19
     obtain ⟨bz,cz,sp,e,rfl,hcz,hmz⟩:=own.block (by omega)
     cases e
     have hfl:=foldC_length how (zs.take k)
     have hfn:=(foldC_nr (how:=how) _ (hzr.take k)).nn
     have hx:=hzr.get (j:=k) (by omega)
     have htk:=take_get zs (i:=k) (by omega)
     generalize hxx:zs[k]! = x at hx htk
     refine kj<|wj<|bj<|sj [.p,.r,.e,.e] Z<|uj Z (Pv.ixA (k) rfl rfl (by omega) (by omega))<|rj Z (Ev.as (recV x) (Ev.ldR k rfl (Nat.zero_add _) (by omega)) (congrArg recV hxx))<|Rg.alloc Z Z Z Z (fun b8=>?_)
     refine Rg.storeA (us:=recC x) Z Z Z Z Z Z Z Z<|nl<|tj [.r,.e] Z<|rj Z (Ev.as (recV x) (Ev.ldA Z Z) Z)<|Rg.callH Z Z Z (mz Z) (fun F' hF'=>putF_spec F' b6 how _ x _ hfo (by simp at hfl;omega) hfn hx.1) rfl ?_
     rintro _ s23 hfo2
     refine nl<|dj<|tj [.p,.p] Z<|uj Z (Pv.asI (k+1) (Pv.add rfl rfl (by omega)) (by omega))<|mj Z<|nl ?_
     exact Vc.inv2 (k+1) s23 ⟨⟨by omega,by rw [htk,foldC_snoc];exact hfo2⟩,by omega⟩ (.cons rfl (.cons rfl (.cons rfl (.cons rfl .nil)))) pulled
   · simp only [df] at h19
     rw [List.take_of_length_le (by omega)] at hfo
     obtain ⟨vf,sf,ownf,rfl⟩:=hfo
     refine Vc.exit Z<|sj [.p,.r,.p,.p] Z<|fj Z<|lj Z Z<|aj Z<|aj Z<|nl ?_
     exact vr rfl (.cons (.tmp rfl) (tz Z)) (⟨_,_,rfl,.inl ⟨hok,rfl,ownf⟩⟩) pulled
end Go.Proofs.YtkpiakgmkpbikaaGreatDoor
namespace Go.Proofs.YtkpiakgmkpbikaaGreatDoor
def slRE:Enc Sv where
 k:=1
 tid:=289
 cells:=fun s=>[s.v]
 val:=fun s=>s.v
 pos:=by decide
 len:=fun _=>rfl
 one:=fun x v hv=>by simp at hv;subst hv;rfl
 vc:=fun _=>rfl
instance : RowTy Tryz.prog slRE 289:=⟨Tryz.sizeOf289,.inr ⟨Tryz.isAgg289,rfl,fun _=>rfl⟩⟩
instance : TySl Tryz.prog 361 slRE 24:=⟨Tryz.underlying361,Tryz.t289,.slice none 0 0,by kernel_rfl,by kernel_rfl,rfl,rfl,rfl⟩
instance : TyZero Tryz.prog slRE.tid (slRE.val ⟨none,0,0⟩):=inferInstanceAs (TyZero Tryz.prog 289 (.slice none 0 0))
inductive OwnsR:List Sv→List (List Rc)→Hl→Prop
 | nil:OwnsR [] [] []
 | snoc {vs:List Sv} {xss:List (List Rc)} {hl seg:Hl} {s:Sv} {xs:List Rc} (h:OwnsR vs xss hl) (own:Own recE s.v xs seg):OwnsR (vs++[s]) (xss++[xs]) (seg++hl)
theorem OwnsR.len {vs:List Sv} {xss:List (List Rc)} {hl:Hl} (h:OwnsR vs xss hl):vs.length=xss.length:=by
 induction h with
 | nil=>rfl
 | snoc h own ih=>simp [ih]
theorem OwnsR.arg {vs:List Sv} {xss:List (List Rc)} {hl:Hl} (h:OwnsR vs xss hl) {F:Fm} (hF:∀b o,(b,o)∈hl→F.at_ b o):∀i,i<xss.length→Arg recE F vs[i]!.v xss[i]! := by
 induction h with
 | nil=>intro i hi;simp at hi
 | @snoc vs xss hl seg s xs h own ih =>
  intro i hi
  have hlen:=h.len
  simp at hi
  by_cases e:i<xss.length
  · rw [getElem!_pos (vs++[s]) i (by simp;omega),getElem!_pos (xss++[xs]) i (by simp;omega),List.getElem_append_left (by omega),List.getElem_append_left e,←getElem!_pos vs i (by omega),←getElem!_pos xss i e]
    exact ih (fun b o hb=>hF b o (List.mem_append_right _ hb)) i e
  · have e1:i=xss.length:=by omega
    rw [getElem!_pos (vs++[s]) i (by simp;omega),getElem!_pos (xss++[xs]) i (by simp;omega),List.getElem_append_right (by omega),List.getElem_append_right (by omega)]
    simp [e1,hlen]
    exact Arg.own own fun b o hb=>hF b o (List.mem_append_left _ hb)
structure ArgRR (F:Fm) (v:Value) (vs:List Sv) (xss:List (List Rc)):Prop where
 top:Arg slRE F v vs
 len:vs.length=xss.length
 rows:∀i,i<xss.length→Arg recE F vs[i]!.v xss[i]!
def chunkP (p:Option Addr) (o:Nat):Option Addr:=p.map fun a=>⟨a.block,a.off+o,none⟩
def nc (n len:Nat):Nat:=(len+n-1) / n
theorem nc_lt {n len k:Nat} (hn:1≤n):k<nc n len↔k*n<len:=by
 unfold nc
 rw [Nat.lt_iff_add_one_le,Nat.le_div_iff_mul_le (by omega),Nat.add_mul,Nat.one_mul]
 omega
theorem range_split {pre:List Nat} {x m:Nat} (h:pre++[x]=List.range m):x+1≤m∧pre=List.range x:=by
 cases m with
 | zero=>simp at h
 | succ m =>
  rw [List.range_succ] at h
  obtain ⟨h1,h2⟩:=List.append_inj' h rfl
  cases h2
  exact ⟨Nat.le_refl _,h1⟩
theorem nc_le {n len:Nat} (hn:1≤n):nc n len≤len:=by
 unfold nc
 rw [Nat.div_le_iff_le_mul_add_pred (by omega)]
 have:=Nat.mul_le_mul_right len hn
 omega
end Go.Proofs.YtkpiakgmkpbikaaGreatDoor
namespace Go.Proofs.YtkpiakgmkpbikaaGreatDoor.HH
structure Hd where
 key:Int
 val:Int
 run:Int
 deriving Inhabited,DecidableEq
def ltR (a b:Hd):Bool:=decide (a.key<b.key)||(a.key==b.key&&(decide (a.val<b.val)||(a.val==b.val&&decide (a.run<b.run))))
def leastI (xs:List Hd) (i:Nat):Int:=if xs.length≤2*i+1 then -1 else if 2*i+2<xs.length∧ltR xs[2*i+2]! xs[2*i+1]! = true then ((2*i+2:Nat):Int) else ((2*i+1:Nat):Int)
def siftUp (x:Hd) (xs:List Hd) (i:Nat):List Hd :=
 if h:0<i∧ltR x xs[(i-1) / 2]! = true then siftUp x (xs.set i xs[(i-1) / 2]!) ((i-1) / 2) else xs.set i x
termination_by i
decreasing_by omega
theorem siftUp_go {x:Hd} {xs:List Hd} {i:Nat} (h0:0<i) (h:ltR x xs[(i-1) / 2]! = true):siftUp x xs i=siftUp x (xs.set i xs[(i-1) / 2]!) ((i-1) / 2):=by
 rw [siftUp,dif_pos ⟨h0,h⟩]
theorem siftUp_stop {x:Hd} {xs:List Hd} {i:Nat} (h : ¬(0<i∧ltR x xs[(i-1) / 2]! = true)):siftUp x xs i=xs.set i x:=by
 rw [siftUp,dif_neg h]
def siftDown (x:Hd) (xs:List Hd) (i:Nat):List Hd :=
 if h:0≤leastI xs i∧ltR xs[(leastI xs i).toNat]! x=true then siftDown x (xs.set i xs[(leastI xs i).toNat]!) (leastI xs i).toNat else xs.set i x
termination_by xs.length-i
decreasing_by
 have:=h.1
 unfold leastI at this ⊢
 simp only [List.length_set]
 split at this
 · omega
 · rename_i h1
   rw [if_neg h1]
   split<;>omega
theorem leastI_lt {xs:List Hd} {i:Nat} (h:0≤leastI xs i):i<(leastI xs i).toNat∧(leastI xs i).toNat<xs.length:=by
 unfold leastI at h ⊢
 split at h
 · omega
 · rename_i h1
   rw [if_neg h1]
   split<;>omega
theorem siftDown_go {x:Hd} {xs:List Hd} {i:Nat} (h0:0≤leastI xs i) (h:ltR xs[(leastI xs i).toNat]! x=true):siftDown x xs i=siftDown x (xs.set i xs[(leastI xs i).toNat]!) (leastI xs i).toNat:=by
 rw [siftDown,dif_pos ⟨h0,h⟩]
theorem siftDown_stop {x:Hd} {xs:List Hd} {i:Nat} (h : ¬(0≤leastI xs i∧ltR xs[(leastI xs i).toNat]! x=true)):siftDown x xs i=xs.set i x:=by
 rw [siftDown,dif_neg h]
def popL (xs:List Hd):List Hd:=if xs.length≤1 then [] else siftDown xs[xs.length-1]! (xs.take (xs.length-1)) 0
theorem ltR_iff {a b:Hd}:ltR a b=true↔a.key<b.key∨(a.key=b.key∧(a.val<b.val∨(a.val=b.val∧a.run<b.run))):=by simp [ltR]
theorem ltR_asymm {a b:Hd} (h:ltR a b=true):ltR b a=false:=by
 cases h2:ltR b a with
 | false=>rfl
 | true=>rw [ltR_iff] at h h2;omega
theorem ltR_trans {a b c:Hd} (h:ltR a b=true) (h2:ltR b c=true):ltR a c=true:=by
 rw [ltR_iff] at *; omega
theorem geR_trans {a b c:Hd} (h:ltR a b=false) (h2:ltR b c=false):ltR a c=false:=by
 cases h3:ltR a c with
 | false=>rfl
 | true =>
  rw [←Bool.not_eq_true,ltR_iff] at h h2
  rw [ltR_iff] at h3
  omega
theorem geR_lt {a b c:Hd} (h:ltR a c=false) (h2:ltR b c=true):ltR a b=false:=by
 cases h3:ltR a b with
 | false=>rfl
 | true=>rw [ltR_trans h3 h2] at h;cases h
theorem ltR_irrefl (a:Hd):ltR a a=false:=by
 cases h:ltR a a with
 | false=>rfl
 | true=>rw [ltR_iff] at h;omega
theorem get_set (l:List Hd) (i j:Nat) (x:Hd):(l.set i x)[j]! = if i=j∧j<l.length then x else l[j]! := by
 by_cases hj:j<l.length
 · rw [getElem!_pos _ j (by simpa using hj),List.getElem_set,getElem!_pos l j hj]
   by_cases hij:i=j<;>simp [hij,hj]
 · rw [getElem!_neg _ j (by simpa using hj),if_neg (fun h=>hj h.2),getElem!_neg l j hj]
theorem perm_swap (l:List Hd) (i p:Nat) (x:Hd) (hi:i<l.length) (hp:p<l.length) (hne:i≠p):((l.set i l[p]!).set p x).Perm (l.set i x):=by
 rw [List.perm_iff_count]
 intro a
 have h1:(l.set i l[p]!)[p]! = l[p]! := by rw [get_set,if_neg (fun h=>hne h.1)]
 have hc:∀(m:List Hd) (j:Nat) (y:Hd),j<m.length→(m.set j y).count a+(if m[j]! = a then 1 else 0)=m.count a+(if y=a then 1 else 0):=by
  intro m j y hj
  induction m generalizing j with
  | nil=>simp at hj
  | cons z m ih =>
   cases j with
   | zero =>
    simp only [List.set_cons_zero,List.count_cons]
    have hz:(z::m)[0]! = z:=rfl
    rw [hz]
    simp only [beq_iff_eq]
    omega
   | succ j =>
    simp only [List.set_cons_succ,List.count_cons]
    have:=ih j (by simpa using hj)
    have hz:(z::m)[j+1]! = m[j]! := by simp
    rw [hz]
    omega
 have e1:=hc (l.set i l[p]!) p x (by simpa using hp)
 have e2:=hc l i l[p]! hi
 have e3:=hc l i x hi
 rw [h1] at e1
 omega
theorem siftUp_length (x:Hd):∀(i:Nat) (ys:List Hd),(siftUp x ys i).length=ys.length:=by
 intro i
 induction i using Nat.strongRecOn with
 | _ i ih =>
  intro ys
  by_cases h:0<i∧ltR x ys[(i-1) / 2]! = true
  · rw [siftUp_go h.1 h.2,ih _ (by omega)];simp
  · rw [siftUp_stop h];simp
theorem siftUp_perm (x:Hd):∀(i:Nat) (ys:List Hd),i<ys.length→(siftUp x ys i).Perm (ys.set i x):=by
 intro i
 induction i using Nat.strongRecOn with
 | _ i ih =>
  intro ys hi
  by_cases h:0<i∧ltR x ys[(i-1) / 2]! = true
  · rw [siftUp_go h.1 h.2]
    exact (ih _ (by omega) _ (by simp;omega)).trans (perm_swap ys i ((i-1) / 2) x hi (by omega) (by omega))
  · rw [siftUp_stop h]
def HeapOK (xs:List Hd):Prop:=∀j,0<j→j<xs.length→ltR xs[j]! xs[(j-1) / 2]! = false
theorem siftUp_ok (x:Hd):∀(i:Nat) (ys:List Hd),i<ys.length →
 (∀j,0<j→j<ys.length→j≠i→ltR (ys.set i x)[j]! (ys.set i x)[(j-1) / 2]! = false) →
 (∀j,0<j→j<ys.length→(j-1) / 2=i→0<i→ltR (ys.set i x)[j]! (ys.set i x)[(i-1) / 2]! = false)→HeapOK (siftUp x ys i):=by
 intro i
 induction i using Nat.strongRecOn with
 | _ i ih =>
  intro ys hi h1 h2
  by_cases h:0<i∧ltR x ys[(i-1) / 2]! = true
  · rw [siftUp_go h.1 h.2]
    obtain ⟨h0,hx⟩:=h
    have hp:(i-1) / 2<ys.length:=by omega
    have hpi:(i-1) / 2<i:=by omega
    generalize hP:ys[(i-1) / 2]! = Q at hx
    have hi0:(ys.set i x)[i]! = x:=by rw [get_set,if_pos ⟨rfl,hi⟩]
    have hne:∀j,j≠i→(ys.set i x)[j]! = ys[j]! := fun j hj=>by rw [get_set,if_neg (fun h=>hj h.1.symm)]
    have zi:∀j,j<ys.length→((ys.set i Q).set ((i-1) / 2) x)[j]! = if j=(i-1) / 2 then x else if j=i then Q else ys[j]! := fun j hj=>by
     rw [get_set,get_set,List.length_set]
     by_cases a:j=(i-1) / 2
     · rw [if_pos ⟨a.symm,hj⟩,if_pos a]
     · rw [if_neg (fun h=>a h.1.symm),if_neg a]
       by_cases b:j=i
       · rw [if_pos ⟨b.symm,hj⟩,if_pos b]
       · rw [if_neg (fun h=>b h.1.symm),if_neg b]
    refine ih _ hpi _ (by simpa using hp) ?_ ?_
    · intro j hj0 hj hjp
      rw [List.length_set] at hj
      rw [zi j hj,zi ((j-1) / 2) (by omega),if_neg hjp]
      by_cases a:j=i
      · subst a
        rw [if_pos rfl,if_pos rfl]
        exact ltR_asymm hx
      · rw [if_neg a]
        have hj1:=h1 j hj0 hj a
        rw [hne j a] at hj1
        by_cases b:(j-1) / 2=(i-1) / 2
        · rw [if_pos b]
          rw [hne _ (by omega),b,hP] at hj1
          exact geR_lt hj1 hx
        · rw [if_neg b]
          by_cases c:(j-1) / 2=i
          · rw [if_pos c]
            have:=h2 j hj0 hj c h0
            rwa [hne j a,hne _ (by omega),hP] at this
          · rw [if_neg c]
            rwa [hne _ c] at hj1
    · intro j hj0 hj hjp hp0
      rw [List.length_set] at hj
      rw [zi j hj,zi (((i-1) / 2-1) / 2) (by omega),if_neg (show ¬j=(i-1) / 2 by omega),if_neg (show ¬((i-1) / 2-1) / 2=(i-1) / 2 by omega),if_neg (show ¬((i-1) / 2-1) / 2=i by omega)]
      have hq:=h1 ((i-1) / 2) hp0 hp (by omega)
      rw [hne _ (by omega),hne _ (by omega),hP] at hq
      by_cases a:j=i
      · rw [if_pos a];exact hq
      · rw [if_neg a]
        have hj1:=h1 j hj0 hj a
        rw [hne j a,hne _ (by omega),hjp,hP] at hj1
        exact geR_trans hj1 hq
  · rw [siftUp_stop h]
    intro j hj0 hj
    rw [List.length_set] at hj
    by_cases a:j=i
    · subst a
      rw [get_set,if_pos ⟨rfl,hj⟩,get_set,if_neg (by omega)]
      cases hq:ltR x ys[(j-1) / 2]! with
      | false=>rfl
      | true=>exact (h ⟨hj0,hq⟩).elim
    · exact h1 j hj0 hj a
theorem get_app (xs:List Hd) (x:Hd) (j:Nat) (hj:j<xs.length):(xs++[x])[j]! = xs[j]! := by
 rw [getElem!_pos _ j (by simp;omega),getElem!_pos xs j hj,List.getElem_append_left hj]
theorem set_app (xs:List Hd) (x y:Hd):(xs++[x]).set xs.length y=xs++[y]:=by
 rw [List.set_append_right _ _ (Nat.le_refl _)];simp
theorem push_perm (xs:List Hd) (x:Hd):(siftUp x (xs++[x]) xs.length).Perm (x::xs):=by
 have:=siftUp_perm x xs.length (xs++[x]) (by simp)
 rw [set_app] at this
 exact this.trans (List.perm_append_comm (l₁:=xs) (l₂:=[x]))
theorem push_ok {xs:List Hd} (h:HeapOK xs) (x:Hd):HeapOK (siftUp x (xs++[x]) xs.length):=by
 refine siftUp_ok x _ _ (by simp) ?_ ?_
 · intro j hj0 hj hne
   rw [set_app]
   have hj':j<xs.length:=by simp at hj;omega
   rw [get_app xs x j hj',get_app xs x _ (by omega)]
   exact h j hj0 hj'
 · intro j hj0 hj hp hi
   simp at hj
   omega
theorem siftDown_perm (x:Hd):∀(d i:Nat) (ys:List Hd),ys.length-i=d→i<ys.length→(siftDown x ys i).Perm (ys.set i x):=by
 intro d
 induction d using Nat.strongRecOn with
 | _ d ih =>
  intro i ys hd hi
  by_cases h:0≤leastI ys i∧ltR ys[(leastI ys i).toNat]! x=true
  · rw [siftDown_go h.1 h.2]
    obtain ⟨h1,h2⟩:=leastI_lt h.1
    exact (ih _ (by simp;omega) _ _ rfl (by simpa using h2)).trans (perm_swap ys i _ x hi h2 (by omega))
  · rw [siftDown_stop h]
theorem leastI_spec {ys:List Hd} {i k:Nat} (h:leastI ys i=(k:Int)):(k-1) / 2=i∧0<k∧k<ys.length∧∀j,0<j→j<ys.length→(j-1) / 2=i→ltR ys[j]! ys[k]! = false:=by
 unfold leastI at h
 split at h
 · omega
 · rename_i h1
   split at h
   · rename_i h2
     have hk:k=2*i+2:=by omega
     subst hk
     refine ⟨by omega,by omega,h2.1,fun j hj0 hj hp=>?_⟩
     have:j=2*i+1∨j=2*i+2:=by omega
     rcases this with rfl | rfl
     · exact ltR_asymm h2.2
     · exact ltR_irrefl _
   · rename_i h2
     have hk:k=2*i+1:=by omega
     subst hk
     refine ⟨by omega,by omega,by omega,fun j hj0 hj hp=>?_⟩
     have:j=2*i+1∨j=2*i+2:=by omega
     rcases this with rfl | rfl
     · exact ltR_irrefl _
     · cases hq:ltR ys[2*i+2]! ys[2*i+1]! with
       | false=>rfl
       | true=>exact (h2 ⟨hj,hq⟩).elim
theorem leastI_neg {ys:List Hd} {i:Nat} (h : ¬0≤leastI ys i):ys.length≤2*i+1:=by
 unfold leastI at h
 split at h
 · assumption
 · split at h<;>omega
theorem siftDown_ok (x:Hd):∀(d i:Nat) (ys:List Hd),ys.length-i=d→i<ys.length →
 (∀j,0<j→j<ys.length→(j-1) / 2≠i→ltR (ys.set i x)[j]! (ys.set i x)[(j-1) / 2]! = false) →
 (∀j,0<j→j<ys.length→(j-1) / 2=i→0<i→ltR (ys.set i x)[j]! (ys.set i x)[(i-1) / 2]! = false)→HeapOK (siftDown x ys i):=by
 intro d
 induction d using Nat.strongRecOn with
 | _ d ih =>
  intro i ys hd hi h1 h2
  have hi0:(ys.set i x)[i]! = x:=by rw [get_set,if_pos ⟨rfl,hi⟩]
  have hne:∀j,j≠i→(ys.set i x)[j]! = ys[j]! := fun j hj=>by rw [get_set,if_neg (fun h=>hj h.1.symm)]
  by_cases h:0≤leastI ys i∧ltR ys[(leastI ys i).toNat]! x=true
  · rw [siftDown_go h.1 h.2]
    obtain ⟨h0,hx⟩:=h
    obtain ⟨k,hk⟩:=Int.eq_ofNat_of_zero_le h0
    rw [hk,Int.toNat_natCast] at hx ⊢
    obtain ⟨k1,k2,k3,k4⟩:=leastI_spec hk
    generalize hP:ys[k]! = Q at hx k4
    have zi:∀j,j<ys.length→((ys.set i Q).set k x)[j]! = if j=k then x else if j=i then Q else ys[j]! := fun j hj=>by
     rw [get_set,get_set,List.length_set]
     by_cases a:j=k
     · rw [if_pos ⟨a.symm,hj⟩,if_pos a]
     · rw [if_neg (fun h=>a h.1.symm),if_neg a]
       by_cases b:j=i
       · rw [if_pos ⟨b.symm,hj⟩,if_pos b]
       · rw [if_neg (fun h=>b h.1.symm),if_neg b]
    refine ih _ (by simp;omega) k _ rfl (by simpa using k3) ?_ ?_
    · intro j hj0 hj hjp
      rw [List.length_set] at hj
      rw [zi j hj,zi ((j-1) / 2) (by omega),if_neg hjp]
      by_cases a:j=k
      · subst a
        rw [if_pos rfl,if_pos k1]
        exact ltR_asymm hx
      · rw [if_neg a]
        by_cases b:(j-1) / 2=i
        · rw [if_pos b,if_neg (by omega)]
          exact k4 j hj0 hj b
        · rw [if_neg b]
          have hj1:=h1 j hj0 hj b
          rw [hne _ b] at hj1
          by_cases c:j=i
          · subst c
            rw [if_pos rfl]
            have:=h2 k k2 k3 k1 hj0
            rwa [hne k (by omega),hne _ b,hP] at this
          · rw [if_neg c]
            rwa [hne j c] at hj1
    · intro j hj0 hj hjp hk0
      rw [List.length_set] at hj
      rw [zi j hj,zi _ (by omega),if_neg (by omega),if_neg (by omega),if_neg (by omega),if_pos k1]
      have:=h1 j hj0 hj (by omega)
      rwa [hne j (by omega),hjp,hne k (by omega),hP] at this
  · rw [siftDown_stop h]
    intro j hj0 hj
    rw [List.length_set] at hj
    by_cases a:(j-1) / 2=i
    · rw [a,hi0,hne j (by omega)]
      by_cases h0:0≤leastI ys i
      · obtain ⟨k,hk⟩:=Int.eq_ofNat_of_zero_le h0
        obtain ⟨_,_,_,k4⟩:=leastI_spec hk
        have:=k4 j hj0 hj a
        refine geR_trans this ?_
        cases hq:ltR ys[k]! x with
        | false=>rfl
        | true=>exact (h ⟨h0,by rw [hk,Int.toNat_natCast];exact hq⟩).elim
      · have:=leastI_neg h0
        omega
    · exact h1 j hj0 hj a
theorem get_take (xs:List Hd) (n j:Nat) (hj:j<n) (hn:n≤xs.length):(xs.take n)[j]! = xs[j]! := by
 rw [getElem!_pos _ j (by simp;omega),getElem!_pos xs j (by omega),List.getElem_take]
theorem pop_perm (xs:List Hd) (h0:0<xs.length):xs.Perm (xs[0]! :: popL xs):=by
 unfold popL
 by_cases h1:xs.length≤1
 · rw [if_pos h1]
   have:xs=[xs[0]!]:=by
    rcases xs with _ | ⟨a,_ | ⟨b,l⟩⟩
    · simp at h0
    · rfl
    · simp at h1
   rw [←this]
 · rw [if_neg h1]
   have hl:(xs.take (xs.length-1)).length=xs.length-1:=by simp
   have hp:=siftDown_perm xs[xs.length-1]! _ 0 (xs.take (xs.length-1)) rfl (by omega)
   have e1:xs=xs.take (xs.length-1)++[xs[xs.length-1]!]:=by
    conv=>lhs;rw [←List.take_append_drop (xs.length-1) xs]
    congr 1
    rw [List.drop_eq_getElem_cons (by omega),getElem!_pos xs _ (by omega),List.drop_eq_nil_of_le (by omega)]
   have e2:(xs.take (xs.length-1)).set 0 xs[xs.length-1]! = xs[xs.length-1]! :: (xs.take (xs.length-1)).drop 1:=by
    cases ht:xs.take (xs.length-1) with
    | nil=>rw [ht,List.length_nil] at hl;omega
    | cons a l=>rfl
   have e3:xs.take (xs.length-1)=xs[0]! :: (xs.take (xs.length-1)).drop 1:=by
    cases ht:xs.take (xs.length-1) with
    | nil=>rw [ht,List.length_nil] at hl;omega
    | cons a l =>
     have:(xs.take (xs.length-1))[0]! = xs[0]! := get_take xs _ 0 (by omega) (by omega)
     rw [ht] at this
     have h2:(a::l)[0]! = a:=rfl
     rw [h2] at this
     rw [this];rfl
   rw [e2] at hp
   have h4:xs.Perm (xs[0]! :: ((xs.take (xs.length-1)).drop 1++[xs[xs.length-1]!])):=by
    have h5:=List.Perm.refl xs
    rw [e1,e3] at h5
    rw [←List.cons_append,←e3]
    rw [←e1]
   exact h4.trans ((List.perm_append_comm.trans hp.symm).cons _)
theorem pop_ok {xs:List Hd} (h:HeapOK xs):HeapOK (popL xs):=by
 unfold popL
 by_cases h1:xs.length≤1
 · rw [if_pos h1];intro j hj0 hj;simp at hj
 · rw [if_neg h1]
   have hl:(xs.take (xs.length-1)).length=xs.length-1:=by simp
   refine siftDown_ok _ _ 0 _ rfl (by omega) ?_ ?_
   · intro j hj0 hj hp
     rw [hl] at hj
     rw [get_set,if_neg (by omega),get_set,if_neg (by omega),get_take xs _ _ hj (by omega),get_take xs _ _ (by omega) (by omega)]
     exact h j hj0 (by omega)
   · intro j hj0 hj hp hi;omega
theorem heap_first {xs:List Hd} (h:HeapOK xs):∀j,j<xs.length→ltR xs[j]! xs[0]! = false:=by
 intro j
 induction j using Nat.strongRecOn with
 | _ j ih =>
  intro hj
  by_cases h0:j=0
  · subst h0;exact ltR_irrefl _
  · exact geR_trans (h j (by omega) hj) (ih ((j-1) / 2) (by omega) (by omega))
theorem heap_le {xs:List Hd} (h:HeapOK xs) {a:Hd} (ha:a∈xs):ltR a xs[0]! = false:=by
 obtain ⟨j,hj,rfl⟩:=List.getElem_of_mem ha
 have:=heap_first h j hj
 rwa [getElem!_pos xs j hj] at this
end Go.Proofs.YtkpiakgmkpbikaaGreatDoor.HH
namespace Go.Proofs.YtkpiakgmkpbikaaGreatDoor.HH
abbrev headC (r:Hd):List Value:=[.int .u64 r.key,.int .u64 r.val,.int .i64 r.run]
abbrev headV (r:Hd):Value:=.agg #[.int .u64 r.key,.int .u64 r.val,.int .i64 r.run]
def headE:Enc Hd where
 k:=3
 tid:=390
 cells:=headC
 val:=headV
 pos:=by decide
 len:=fun _=>rfl
 one:=fun x v hv=>by simp [headC] at hv;rcases hv with rfl | rfl | rfl<;>rfl
 vc:=fun _=>rfl
instance : RowTy Tryz.prog headE 390:=⟨Tryz.sizeOf390,.inl ⟨Tryz.isAgg390,fun _=>rfl⟩⟩
instance : TySl Tryz.prog 385 headE 24:=⟨Tryz.underlying385,Tryz.t390,.agg #[.int .u64 0,.int .u64 0,.int .i64 0],by kernel_rfl,by kernel_rfl,rfl,rfl,rfl⟩
theorem before_spec (a b:Hd) (F:Fm):Spec Tryz.prog 313 #[headV a,headV b] F [] fun v _=>v=.bool (ltR a b):=by
 refine Spec.of (n:=24) (vs:=[headV a,headV b]) Tryz.func313 rfl Tryz.ntmps313 rfl ?_
 refine sj [.e,.e,.p] Z<|Rg.box Z Z Z Z Z (fun b2=>?_)
 refine Rg.box Z Z Z Z Z (fun b3=>?_)
 refine aj Z<|nl<|sj [.p,.r,.p,.r,.e,.p,.p,.r,.p,.r,.p,.p,.p,.r,.p,.r,.p,.p,.p,.p] Z<|fj Z<|rj Z (Ev.as (recV ⟨a.key,a.val⟩) (Ev.ldA Z Z) Z)<|fj Z<|rj Z (Ev.as (recV ⟨b.key,b.val⟩) (Ev.ldA Z Z) Z) ?_
 refine Rg.callP Z Z Z (mz Z) (Go.Proofs.YtkpiakgmkpbikaaGreatDoor.before_spec _ _ _) ?_
 rintro _ rfl
 refine mj Z<|Rg.split (t:=10) Z (fun h10=>?_) (fun h10=>?_)
 · rw [Go.Proofs.YtkpiakgmkpbikaaGreatDoor.ltR_iff] at h10
   iterate 12 (first | refine Rg.skipP rfl rfl rfl ?_ | refine Rg.skipR rfl rfl rfl ?_ | refine Rg.skipE rfl rfl rfl ?_)
   refine qj Z Z<|aj Z<|nl<|vz Z (tz Z) ?_
   exact congrArg Value.bool (by rw [eq_comm,ltR_iff];rcases h10 with h | h<;>simp at h<;>omega)
 · rw [←Bool.not_eq_true,Go.Proofs.YtkpiakgmkpbikaaGreatDoor.ltR_iff] at h10
   refine fj Z<|rj Z (Ev.as (recV ⟨a.key,a.val⟩) (Ev.ldA Z Z) Z)<|fj Z<|rj Z (Ev.as (recV ⟨b.key,b.val⟩) (Ev.ldA Z Z) Z)<|uj Z (Pv.eqlE recE ⟨a.key,a.val⟩ ⟨b.key,b.val⟩ Z Z)<|mj Z ?_
   refine Rg.split (t:=16) Z (fun h16=>?_) (fun h16=>?_)
   · simp only [dt,Rc.mk.injEq] at h16
     refine fj Z<|lj Z Z<|fj Z<|lj Z Z<|uj Z (Pv.lss Z Z)<|qj Z Z<|pj Z Z<|aj Z<|nl<|vz Z (tz Z) ?_
     exact congrArg Value.bool (by rw [Bool.eq_iff_iff,ltR_iff,dt];simp at h10;omega)
   · simp only [df,Rc.mk.injEq] at h16
     iterate 5 (first | refine Rg.skipP rfl rfl rfl ?_ | refine Rg.skipR rfl rfl rfl ?_ | refine Rg.skipE rfl rfl rfl ?_)
     refine pj Z Z<|pj Z Z<|aj Z<|nl<|vz Z (tz Z) ?_
     exact congrArg Value.bool (by rw [eq_comm,←Bool.not_eq_true,ltR_iff];simp at h10;omega)
theorem least_spec (F:Fm) (hb b cap m:Nat) (xs:List Hd) (sp:List Value) (i:Nat) (hm:m=xs.length) (hi:i<1152921504606846976) (hn:xs.length<1152921504606846976)
 [h1:Fat F hb (cellsO [.slice (some ⟨b,0,none⟩) m cap] 387)] [h2:Fat F b (rowS headE xs sp)] :
 Spec Tryz.prog 296 #[.pointer (some ⟨hb,0,none⟩),.int .i64 (i:Int)] F [] fun v _=>v=.int .i64 (leastI xs i):=by
 refine Spec.of (n:=46) (vs:=[.pointer (some ⟨hb,0,none⟩),.int .i64 (i:Int)]) Tryz.func296 rfl Tryz.ntmps296 rfl ?_
 refine sj [.p] Z<|aj Z<|nl<|sj [.p,.p,.p,.p] Z<|mj Z<|uj Z (Pv.mul rfl rfl (by omega))<|uj Z (Pv.add rfl rfl (by omega))<|aj Z<|nl<|wj<|sj [.p,.p,.p,.p,.r,.p,.p] Z<|mj Z<|mj Z<|nj Z<|fj Z ?_
 refine lj Z Z<|uj Z (Pv.lenS Z)<|uj Z (Pv.geq Z Z)<|nl<|cj Z (fun h15=>?_) (fun h15=>?_)
 · simp only [dt] at h15
   refine sj [.p] Z<|aj Z<|nl<|vz Z (tz Z) ?_
   exact congrArg (Value.int .i64) (by rw [leastI,if_pos (by omega)])
 · simp only [df] at h15
   refine kj<|wj<|wj ?_
   refine Vc.draw [] (sd [(0,.pure),(1,.pure),(2,.pure),(3,.pure),(4,.pure),(5,.read),(6,.pure),(7,.pure),(8,.pure),(9,.pure),(10,.pure),(11,.pure),(12,.read),(13,.pure),(14,.pure),(15,.pure),(16,.read),(17,.pure),(18,.pure),(19,.pure),(20,.pure),(21,.read),(22,.pure),(23,.pure),(24,.read),(25,.eff),(26,.pure)]) mixed (by kernel_rfl)<|mj Z<|uj Z (Pv.add rfl rfl (by omega))<|mj Z<|nj Z<|fj Z<|lj Z Z<|uj Z (Pv.lenS Z)<|uj Z (Pv.lss Z Z)<|mj Z ?_
   refine Rg.split (t:=24) Z (fun h24=>?_) (fun h24=>?_)
   · simp only [dt] at h24
     refine mj Z<|nj Z<|fj Z<|lj Z Z<|mj Z<|uj Z (Pv.add rfl rfl (by omega))<|uj Z (Pv.ixA (2*i+2) rfl rfl (by omega) (by omega))<|rj Z (Ev.ldR (2*i+2) rfl (Nat.zero_add _) (by omega))<|uj Z (Pv.mkI Z)<|mj Z<|nj Z<|fj Z<|lj Z Z<|mj Z<|uj Z (Pv.ixA (2*i+1) rfl rfl (by omega) (by omega)) ?_
     refine rj Z (Ev.ldR (2*i+1) rfl (Nat.zero_add _) (by omega))<|Rg.callP Z Z Z (run_callI Z Z) (before_spec _ _ _) ?_
     rintro _ rfl
     refine qj Z Z<|nl<|cj Z (fun h42=>?_) (fun h42=>?_)
     · refine tj [.p,.p,.p] Z<|mj Z<|uj Z (Pv.add rfl rfl (by omega))<|aj Z<|nl<|sj [.p,.p] Z<|mj Z<|aj Z<|nl<|vz Z (tz Z) ?_
       exact congrArg (Value.int .i64) (by rw [leastI,if_neg (by omega),if_pos ⟨by omega,h42⟩];omega)
     · refine kj<|sj [.p,.p] Z<|mj Z<|aj Z<|nl<|vz Z (tz Z) ?_
       exact congrArg (Value.int .i64) (by rw [leastI,if_neg (by omega),if_neg (fun hh=>by rw [h42] at hh;cases hh.2)];omega)
   · simp only [df] at h24
     iterate 17 (first | refine Rg.skipP rfl rfl rfl ?_ | refine Rg.skipR rfl rfl rfl ?_ | refine Rg.skipE rfl rfl rfl ?_)
     refine pj Z Z<|nl<|Vc.condF Z<|kj<|sj [.p,.p] Z<|mj Z<|aj Z<|nl<|vz Z (tz Z) ?_
     exact congrArg (Value.int .i64) (by rw [leastI,if_neg (by omega),if_neg (by omega)];omega)
def HeapAt (hb:Nat) (xs:List Hd) (hl:Hl):Prop:=∃v seg,Own headE v xs seg∧hl=(hb,cellsO [v] 387)::seg
theorem push_spec (F:Fm) (hb:Nat) (xs:List Hd) (x:Hd) (hl:Hl) (hh:HeapAt hb xs hl) (hn:xs.length<4294967296) :
 Spec Tryz.prog 279 #[.pointer (some ⟨hb,0,none⟩),headV x] F hl fun _ hl'=>HeapAt hb (siftUp x (xs++[x]) xs.length) hl':=by
 obtain ⟨v,seg,own,rfl⟩:=hh
 obtain ⟨p,cap0,rfl⟩:=own.shape
 refine Spec.of (n:=61) (vs:=[.pointer (some ⟨hb,0,none⟩),headV x]) Tryz.func279 rfl Tryz.ntmps279 rfl ?_
 refine sj [.e] Z<|Rg.box Z Z Z Z Z (fun b3=>?_)
 refine nl<|sj [.p,.p,.p,.r,.p,.p] Z<|mj Z<|nj Z<|fj Z<|lj Z Z<|uj Z (Pv.lenS Z)<|aj Z<|nl<|wj ?_
 refine Vc.draw [7,10] (sd [(0,.pure),(1,.pure),(2,.pure),(3,.pure),(4,.read),(5,.read),(6,.eff),(7,.eff),(8,.pure),(9,.pure),(10,.eff)]) mixed (by kernel_rfl)<|mj Z<|mj Z<|nj Z<|fj Z<|lj Z Z<|rj Z (Ev.ldA Z Z) ?_
 refine Rg.bslice1 Z Z Z Z Z Z Z (fun b16=>?_)
 refine Rg.append Z Z Z Z Z own (ys:=[x]) (Src.one rfl) (by simp<;>omega) (by simp [maxLen]<;>omega) rfl (fun v17 s17 own17=>?_)
 obtain ⟨b,cap,sp,rfl,rfl,hc,hm⟩:=own17.block (by simp)
 refine Rg.app Z<|nj Z<|fj Z ?_
 refine Rg.store Z Z Z Z Z Z Z Z<|nl<|wj<|bj ?_
 refine Vc.loop2 (fun (i:Nat) (ys:List Hd)=>i<ys.length∧ys.length=(xs++[x]).length∧siftUp x ys i=siftUp x (xs++[x]) xs.length) (fun (i:Nat) (ys:List Hd)=>[(0,.pointer (some ⟨hb,0,none⟩)),(3,.pointer (some ⟨b3,0,none⟩)),(4,.int .i64 (i:Int))]) (fun (i:Nat) (ys:List Hd)=>[(hb,cellsO [.slice (some ⟨b,0,none⟩) (xs++[x]).length cap] 387),(b,rowS headE ys sp),(b3,cellsO (headC x) 390)]) (fun (i:Nat) (ys:List Hd)=>i) xs.length (xs++[x]) ⟨by simp,rfl,rfl⟩ (.cons rfl (.cons rfl (.cons rfl .nil))) pulled ?_
 rintro i ys ⟨h1,h2,h3⟩
 have hlen:(xs++[x]).length=xs.length+1:=by simp
 refine wj<|wj ?_
 refine Vc.draw [] (sd [(0,.pure),(1,.pure),(2,.pure),(3,.read),(4,.pure),(5,.pure),(6,.pure),(7,.pure),(8,.read),(9,.pure),(10,.pure),(11,.pure),(12,.pure),(13,.read),(14,.eff),(15,.pure)]) mixed (by kernel_rfl)<|mj Z<|uj Z (Pv.gtr Z Z)<|mj Z<|Rg.split (t:=22) Z (fun h22=>?_) (fun h22=>?_)
 · simp only [dt] at h22
   refine rj Z (Ev.ldA Z Z)<|uj Z (Pv.mkI Z)<|mj Z<|nj Z<|fj Z<|lj Z Z<|mj Z<|uj Z (Pv.sub rfl rfl (by omega))<|uj Z (Pv.quo rfl rfl (by omega))<|uj Z (Pv.ixA ((i-1) / 2) rfl rfl (by omega) (by omega))<|rj Z (Ev.ldR ((i-1) / 2) rfl (Nat.zero_add _) (by omega)) ?_
   refine Rg.callP Z Z Z (run_callI Z Z) (before_spec _ _ _) ?_
   rintro _ rfl
   refine qj Z Z<|nl<|cj Z (fun h35=>?_) (fun h35=>?_)
   · refine kj<|bj<|wj ?_
     refine Vc.draw [15] (sd [(0,.pure),(1,.pure),(2,.pure),(3,.read),(4,.pure),(5,.pure),(6,.pure),(7,.pure),(8,.read),(9,.pure),(10,.pure),(11,.pure),(12,.pure),(13,.read),(14,.pure),(15,.eff)]) mixed (by kernel_rfl)<|mj Z<|nj Z<|fj Z<|lj Z Z<|mj Z<|mj Z<|nj Z<|fj Z<|lj Z Z<|mj Z<|uj Z (Pv.sub rfl rfl (by omega))<|uj Z (Pv.quo rfl rfl (by omega))<|uj Z (Pv.ixA ((i-1) / 2) rfl rfl (by omega) (by omega))<|rj Z (Ev.ldR ((i-1) / 2) rfl (Nat.zero_add _) (by omega)) ?_
     refine uj Z (Pv.ixA (i) rfl rfl (by omega) (by omega))<|Rg.storeR (i) rfl rfl rfl rfl rfl rfl (Nat.zero_add _) (by omega) rfl<|nl<|tj [.p,.p,.p,.p] Z<|mj Z<|uj Z (Pv.sub rfl rfl (by omega))<|uj Z (Pv.quo rfl rfl (by omega))<|aj Z<|nl<|dj<|Vc.inv2 ((i-1) / 2) (ys.set i ys[(i-1) / 2]!) ⟨⟨by simp;omega,by simp [h2],by rw [←siftUp_go (by omega) h35];exact h3⟩,show (i-1) / 2<i by omega⟩ (.cons rfl (.cons rfl (.cons (by show _=some (Value.int .i64 (((i-1) / 2:Nat):Int));simp [lk];omega) .nil))) pulled
   · refine Vc.exit Z ?_
     refine Vc.draw [7] (sd [(0,.pure),(1,.pure),(2,.pure),(3,.read),(4,.pure),(5,.read),(6,.pure),(7,.eff)]) mixed (by kernel_rfl)<|mj Z<|nj Z<|fj Z<|lj Z Z<|mj Z<|rj Z (Ev.ldA Z Z)<|uj Z (Pv.ixA (i) rfl rfl (by omega) (by omega)) ?_
     refine Rg.storeR (i) rfl rfl rfl rfl rfl rfl (Nat.zero_add _) (by omega) rfl<|nl ?_
     exact Vc.fin (Vc.retsH rfl .nil (⟨_,_,by rw [←h3,siftUp_stop (fun hh=>by rw [h35] at hh;cases hh.2)];have:=Own.blk (E:=headE) b cap (ys.set i x) sp (by rw [List.length_set,h2];exact hc) hm;rwa [List.length_set,h2] at this,rfl⟩) pulled)
 · simp only [df] at h22
   iterate 12 (first | refine Rg.skipP rfl rfl rfl ?_ | refine Rg.skipR rfl rfl rfl ?_ | refine Rg.skipE rfl rfl rfl ?_)
   refine pj Z Z<|nl<|Vc.condF Z<|Vc.exit Z ?_
   refine Vc.draw [7] (sd [(0,.pure),(1,.pure),(2,.pure),(3,.read),(4,.pure),(5,.read),(6,.pure),(7,.eff)]) mixed (by kernel_rfl)<|mj Z<|nj Z<|fj Z<|lj Z Z<|mj Z<|rj Z (Ev.ldA Z Z)<|uj Z (Pv.ixA (i) rfl rfl (by omega) (by omega)) ?_
   refine Rg.storeR (i) rfl rfl rfl rfl rfl rfl (Nat.zero_add _) (by omega) rfl<|nl ?_
   exact Vc.fin (Vc.retsH rfl .nil (⟨_,_,by rw [←h3,siftUp_stop (fun hh=>by omega)];have:=Own.blk (E:=headE) b cap (ys.set i x) sp (by rw [List.length_set,h2];exact hc) hm;rwa [List.length_set,h2] at this,rfl⟩) pulled)
def peekV:List Hd→Value
 | []=>.tuple #[headV ⟨0,0,0⟩,.bool false]
 | x::_=>.tuple #[headV x,.bool true]
theorem peek_nil (F:Fm) (hb:Nat) (p:Option Addr) (cap:Nat) [h1:Fat F hb (cellsO [.slice p 0 cap] 387)] :
 Spec Tryz.prog 295 #[.pointer (some ⟨hb,0,none⟩)] F [] fun v _=>v=peekV []:=by
 refine Spec.of (n:=17) (vs:=[.pointer (some ⟨hb,0,none⟩)]) Tryz.func295 rfl Tryz.ntmps295 rfl ?_
 refine sj [.e,.p] Z<|Rg.alloc Z Z Z Z (fun b2=>?_)
 refine aj Z<|nl<|wj<|sj [.p,.p,.p,.r,.p,.p] Z<|mj Z<|nj Z<|fj Z<|lj Z Z<|uj Z (Pv.lenS Z)<|uj Z (Pv.eql Z Z)<|nl<|cj Z (fun h9=>?_) (fun h9=>absurd h9 (by simp))
 refine sj [.r,.e,.p] Z<|rj Z (Ev.ldA Z Z)<|Rg.storeA Z Z Z Z Z Z Z Z<|aj Z<|nl<|Vc.ret (Vc.rets Z (.cons (.cellA Z Z) (tz Z)) ?_)
 exact rfl
theorem peek_cons (F:Fm) (hb b cap:Nat) (xs:List Hd) (sp:List Value) (h0:0<xs.length) [h1:Fat F hb (cellsO [.slice (some ⟨b,0,none⟩) xs.length cap] 387)] [h2:Fat F b (rowS headE xs sp)] :
 Spec Tryz.prog 295 #[.pointer (some ⟨hb,0,none⟩)] F [] fun v _=>v=.tuple #[headV xs[0]!,.bool true]:=by
 refine Spec.of (n:=17) (vs:=[.pointer (some ⟨hb,0,none⟩)]) Tryz.func295 rfl Tryz.ntmps295 rfl ?_
 refine sj [.e,.p] Z<|Rg.alloc Z Z Z Z (fun b2=>?_)
 refine aj Z<|nl<|wj<|sj [.p,.p,.p,.r,.p,.p] Z<|mj Z<|nj Z<|fj Z<|lj Z Z<|uj Z (Pv.lenS Z)<|uj Z (Pv.eql Z Z)<|nl<|cj Z (fun h9=>absurd h9 (by simp only [beq_iff_eq];omega)) (fun h9=>?_)
 refine kj<|sj [.p,.p,.p,.r,.p,.r,.e,.p] Z<|mj Z<|nj Z<|fj Z<|lj Z Z<|uj Z (Pv.ixA (0) rfl rfl (by omega) (by omega))<|rj Z (Ev.ldR (0) rfl (Nat.zero_add _) (by omega)) ?_
 refine Rg.storeA Z Z Z Z Z Z Z Z<|aj Z<|nl<|Vc.ret (Vc.rets Z (.cons (.cellA Z Z) (tz Z)) ?_)
 exact rfl
theorem pop_nil (F:Fm) (hb:Nat) (hl:Hl) (hh:HeapAt hb [] hl) :
 Spec Tryz.prog 283 #[.pointer (some ⟨hb,0,none⟩)] F hl fun v hl'=>v=peekV []∧HeapAt hb [] hl':=by
 obtain ⟨v,seg,own,rfl⟩:=hh
 obtain ⟨p,cap0,rfl⟩:=own.shape
 refine Spec.of (n:=85) (vs:=[.pointer (some ⟨hb,0,none⟩)]) Tryz.func283 rfl Tryz.ntmps283 rfl ?_
 refine sj [.e,.p] Z<|Rg.alloc Z Z Z Z (fun b2=>?_)
 refine aj Z<|nl<|sj [.p,.e,.p,.p,.p,.e,.e,.p] Z<|mj Z<|Rg.callP Z Z Z (mz Z) (peek_nil _ _ _ _) ?_
 rintro _ rfl
 refine mj Z<|xj Z Z<|xj Z Z<|Rg.alloc Z Z Z Z (fun b4=>?_)
 refine Rg.storeA Z Z Z Z Z Z Z Z<|aj Z<|nl<|wj<|sj [.p,.p] Z<|mj Z<|uj Z (Pv.not Z)<|nl<|Vc.condT Z<|sj [.r,.e,.p] Z<|rj Z (Ev.ldA Z Z)<|Rg.storeA Z Z Z Z Z Z Z Z<|aj Z<|nl ?_
 exact vr rfl (.cons (.cellA rfl rfl) (tz Z)) (⟨rfl,_,_,own,rfl⟩) pulled
set_option maxHeartbeats 400000 in
theorem pop_cons (F:Fm) (hb:Nat) (xs:List Hd) (hl:Hl) (hh:HeapAt hb xs hl) (h0:0<xs.length) (hn:xs.length<4294967296) :
 Spec Tryz.prog 283 #[.pointer (some ⟨hb,0,none⟩)] F hl fun v hl'=>v=.tuple #[headV xs[0]!,.bool true]∧HeapAt hb (popL xs) hl':=by
 obtain ⟨v,seg,own,rfl⟩:=hh
 obtain ⟨b,cap,sp,rfl,rfl,hc,hm⟩:=own.block h0
 have hle:xs.length≤cap:=Nat.le_of_mul_le_mul_right (show xs.length*headE.k≤cap*headE.k by omega) headE.pos
 refine Spec.of (n:=85) (vs:=[.pointer (some ⟨hb,0,none⟩)]) Tryz.func283 rfl Tryz.ntmps283 rfl ?_
 refine sj [.e,.p] Z<|Rg.alloc Z Z Z Z (fun b2=>?_)
 refine aj Z<|nl<|sj [.p,.e,.p,.p,.p,.e,.e,.p] Z<|mj Z<|Rg.callP Z Z Z (mz Z) (peek_cons _ _ _ _ _ _ h0) ?_
 rintro _ rfl
 refine mj Z<|xj Z Z<|xj Z Z<|Rg.alloc Z Z Z Z (fun b4=>?_)
 refine Rg.storeA Z Z Z Z Z Z Z Z<|aj Z<|nl<|wj<|sj [.p,.p] Z<|mj Z<|uj Z (Pv.not Z)<|nl<|Vc.condF Z<|kj<|sj [.p,.p,.p,.r,.p,.p,.p] Z<|mj Z<|nj Z<|fj Z<|lj Z Z ?_
 refine uj Z (Pv.lenS Z)<|uj Z (Pv.asI (xs.length-1) (Pv.sub rfl rfl (by omega)) (by omega))<|aj Z<|nl<|sj [.p,.p,.p,.r,.p,.p,.r,.e,.e] Z<|mj Z<|nj Z<|fj Z<|lj Z Z<|mj Z<|uj Z (Pv.ixA (xs.length-1) rfl rfl (by omega) (by omega))<|rj Z (Ev.ldR (xs.length-1) rfl (Nat.zero_add _) (by omega)) ?_
 refine Rg.alloc Z Z Z Z (fun b7=>?_)
 refine Rg.storeA Z Z Z Z Z Z Z Z<|nl<|sj [.p,.p,.p,.p,.r,.p,.p,.p,.p,.e] Z<|mj Z<|mj Z<|nj Z<|fj Z<|lj Z Z<|mj Z<|uj Z (Pv.slTo (xs.length-1) rfl rfl (by omega))<|nj Z<|fj Z ?_
 refine Rg.store Z Z Z Z Z Z Z Z<|nl<|wj<|wj ?_
 rw [rowS_take headE xs sp (xs.length-1)]
 have hnp:(xs.take (xs.length-1)).length=xs.length-1:=by simp
 refine tj [.p,.p] Z<|mj Z<|uj Z (Pv.eql Z Z)<|nl<|cj Z (fun h41=>?_) (fun h41=>?_)
 · simp only [beq_iff_eq] at h41
   refine sj [.r,.e,.p] Z<|rj Z (Ev.ldA Z Z)<|Rg.storeA Z Z Z Z Z Z Z Z<|aj Z<|nl ?_
   exact vr rfl (.cons (.cellA rfl rfl) (tz Z)) (⟨rfl,.slice (some ⟨b,0,none⟩) (xs.length-1) cap,[(b,rowS headE (xs.take (xs.length-1)) (flat headE (xs.drop (xs.length-1))++sp))],by have e:xs.length-1=0:=(by omega);rw [popL,if_pos (by omega),e];exact Own.blk (E:=headE) b cap [] _ (by simp only [List.drop_zero,ly,flat_length,List.length_nil];omega) hm,rfl⟩) pulled
 · simp only [beq_eq_false_iff_ne,ne_eq] at h41
   refine kj<|sj [.p] Z<|aj Z<|nl<|wj<|sj [.p,.p,.e,.p] Z<|mj Z<|mj Z<|Rg.callP Z Z Z (mz Z) (least_spec _ _ _ _ _ _ _ 0 hnp.symm (by omega) (by omega)) ?_
   rintro _ rfl
   refine aj Z<|nl<|bj ?_
   refine Vc.loop2 (fun (i:Nat) (ys:List Hd)=>i<ys.length∧ys.length=xs.length-1∧siftDown xs[xs.length-1]! ys i=siftDown xs[xs.length-1]! (xs.take (xs.length-1)) 0) (fun (i:Nat) (ys:List Hd)=>[(0,.pointer (some ⟨hb,0,none⟩)),(2,.pointer (some ⟨b2,0,none⟩)),(4,.pointer (some ⟨b4,0,none⟩)),(7,.pointer (some ⟨b7,0,none⟩)),(8,.int .i64 (i:Int)),(9,.int .i64 (leastI ys i))]) (fun (i:Nat) (ys:List Hd)=>[(hb,cellsO [.slice (some ⟨b,0,none⟩) (xs.length-1) cap] 387),(b,rowS headE ys (flat headE (xs.drop (xs.length-1))++sp)),(b2,cellsO (headC ⟨0,0,0⟩) 390),(b4,cellsO (headC xs[0]!) 390),(b7,cellsO (headC xs[xs.length-1]!) 390)]) (fun (i:Nat) (ys:List Hd)=>xs.length-i) 0 (xs.take (xs.length-1)) ⟨by omega,hnp,rfl⟩ (.cons rfl (.cons rfl (.cons rfl (.cons rfl (.cons rfl (.cons rfl .nil)))))) pulled ?_
   rintro i ys ⟨h1,h2,h3⟩
   refine wj<|wj ?_
   refine Vc.draw [] (sd [(0,.pure),(1,.pure),(2,.pure),(3,.pure),(4,.pure),(5,.pure),(6,.read),(7,.pure),(8,.pure),(9,.read),(10,.pure),(11,.read),(12,.eff),(13,.pure)]) mixed (by kernel_rfl)<|mj Z<|uj Z (Pv.geq Z Z)<|mj Z<|Rg.split (t:=48) Z (fun h48=>?_) (fun h48=>?_)
   · simp only [dt] at h48
     obtain ⟨k,hk⟩:=Int.eq_ofNat_of_zero_le h48
     have hlt:=leastI_lt h48
     rw [hk,Int.toNat_natCast] at hlt
     rw [hk]
     refine mj Z<|nj Z<|fj Z<|lj Z Z<|mj Z<|uj Z (Pv.ixA (k) rfl rfl (by omega) (by omega))<|rj Z (Ev.ldR (k) rfl (Nat.zero_add _) (by omega))<|uj Z (Pv.mkI Z)<|rj Z (Ev.ldA Z Z) ?_
     refine Rg.callP Z Z Z (run_callI Z Z) (before_spec _ _ _) ?_
     rintro _ rfl
     refine qj Z Z<|nl<|cj Z (fun h59=>?_) (fun h59=>?_)
     · refine kj<|wj<|bj<|wj ?_
       refine Vc.draw [13] (sd [(0,.pure),(1,.pure),(2,.pure),(3,.read),(4,.pure),(5,.pure),(6,.pure),(7,.pure),(8,.read),(9,.pure),(10,.pure),(11,.read),(12,.pure),(13,.eff)]) mixed (by kernel_rfl)<|mj Z<|nj Z<|fj Z<|lj Z Z<|mj Z<|mj Z<|nj Z<|fj Z<|lj Z Z<|mj Z<|uj Z (Pv.ixA (k) rfl rfl (by omega) (by omega))<|rj Z (Ev.ldR (k) rfl (Nat.zero_add _) (by omega))<|uj Z (Pv.ixA (i) rfl rfl (by omega) (by omega)) ?_
       refine Rg.storeR (i) rfl rfl rfl rfl rfl rfl (Nat.zero_add _) (by omega) rfl<|nl<|tj [.p,.p] Z<|mj Z<|aj Z<|nl<|dj<|tj [.p,.p,.e,.p] Z<|mj Z<|mj Z<|Rg.callP Z Z Z (mz Z) (least_spec _ _ _ _ _ (ys.set i ys[k]!) _ k (by rw [List.length_set,h2]) (by omega) (by rw [List.length_set];omega)) ?_
       rintro _ rfl
       refine aj Z<|nl<|Vc.inv2 k (ys.set i ys[k]!) ⟨⟨by rw [List.length_set];omega,by rw [List.length_set,h2],by rw [←h3,siftDown_go (i:=i) (by omega) (by rw [hk];exact h59),hk,Int.toNat_natCast]⟩,show xs.length-k<xs.length-i by omega⟩ (.cons rfl (.cons rfl (.cons rfl (.cons rfl (.cons rfl (.cons rfl .nil)))))) pulled
     · refine Vc.exit Z<|wj ?_
       refine Vc.draw [7] (sd [(0,.pure),(1,.pure),(2,.pure),(3,.read),(4,.pure),(5,.read),(6,.pure),(7,.eff)]) mixed (by kernel_rfl)<|mj Z<|nj Z<|fj Z<|lj Z Z<|mj Z<|rj Z (Ev.ldA Z Z)<|uj Z (Pv.ixA (i) rfl rfl (by omega) (by omega)) ?_
       refine Rg.storeR (i) rfl rfl rfl rfl rfl rfl (Nat.zero_add _) (by omega) rfl<|nl<|sj [.r,.e,.p] Z<|rj Z (Ev.ldA Z Z)<|Rg.storeA Z Z Z Z Z Z Z Z<|aj Z<|nl ?_
       exact vr rfl (.cons (.cellA rfl rfl) (tz Z)) (⟨rfl,_,_,by rw [popL,if_neg (by omega),←h3,siftDown_stop (fun hh=>by rw [hk,Int.toNat_natCast,h59] at hh;cases hh.2)];have:=Own.blk (E:=headE) b cap (ys.set i xs[xs.length-1]!) (flat headE (xs.drop (xs.length-1))++sp) (by rw [List.length_set,ly,flat_length,List.length_drop,h2];have:=headE.pos;rw [←hc,←Nat.add_assoc,←Nat.add_mul];congr 2;omega) hm;rwa [List.length_set,h2] at this,rfl⟩) pulled
   · simp only [df] at h48
     iterate 10 (first | refine Rg.skipP rfl rfl rfl ?_ | refine Rg.skipR rfl rfl rfl ?_ | refine Rg.skipE rfl rfl rfl ?_)
     refine pj Z Z<|nl<|Vc.condF Z<|Vc.exit Z<|wj ?_
     refine Vc.draw [7] (sd [(0,.pure),(1,.pure),(2,.pure),(3,.read),(4,.pure),(5,.read),(6,.pure),(7,.eff)]) mixed (by kernel_rfl)<|mj Z<|nj Z<|fj Z<|lj Z Z<|mj Z<|rj Z (Ev.ldA Z Z)<|uj Z (Pv.ixA (i) rfl rfl (by omega) (by omega)) ?_
     refine Rg.storeR (i) rfl rfl rfl rfl rfl rfl (Nat.zero_add _) (by omega) rfl<|nl<|sj [.r,.e,.p] Z<|rj Z (Ev.ldA Z Z)<|Rg.storeA Z Z Z Z Z Z Z Z<|aj Z<|nl ?_
     exact vr rfl (.cons (.cellA rfl rfl) (tz Z)) (⟨rfl,_,_,by rw [popL,if_neg (by omega),←h3,siftDown_stop (fun hh=>by omega)];have:=Own.blk (E:=headE) b cap (ys.set i xs[xs.length-1]!) (flat headE (xs.drop (xs.length-1))++sp) (by rw [List.length_set,ly,flat_length,List.length_drop,h2];have:=headE.pos;rw [←hc,←Nat.add_assoc,←Nat.add_mul];congr 2;omega) hm;rwa [List.length_set,h2] at this,rfl⟩) pulled
theorem pop_at (F:Fm) (hb:Nat) (xs:List Hd) (hl:Hl) (hh:HeapAt hb xs hl) (hn:xs.length<4294967296) :
 Spec Tryz.prog 283 #[.pointer (some ⟨hb,0,none⟩)] F hl fun v hl'=>v=peekV xs∧HeapAt hb (popL xs) hl':=by
 cases xs with
 | nil=>exact pop_nil F hb hl hh
 | cons x l=>exact pop_cons F hb _ hl hh (by simp) hn
def hd (xs:List Hd):Hd:=xs.headD ⟨0,0,0⟩
theorem peekV_eq (xs:List Hd):peekV xs=.tuple #[headV (hd xs),.bool (decide (0<xs.length))]:=by
 cases xs with
 | nil=>rfl
 | cons x l=>simp [peekV,hd]
theorem hd_get {xs:List Hd} (h:0<xs.length):hd xs=xs[0]! := by
 cases xs with
 | nil=>simp at h
 | cons x l=>rfl
theorem pop_hd (F:Fm) (hb:Nat) (xs:List Hd) (hl:Hl) (hh:HeapAt hb xs hl) (hn:xs.length<4294967296) :
 Spec Tryz.prog 283 #[.pointer (some ⟨hb,0,none⟩)] F hl fun v hl'=>v=.tuple #[headV (hd xs),.bool (decide (0<xs.length))]∧HeapAt hb (popL xs) hl':=by
 rw [←peekV_eq];exact pop_at F hb xs hl hh hn
def pushL (xs:List Hd) (x:Hd):List Hd:=siftUp x (xs++[x]) xs.length
theorem push_at (F:Fm) (hb:Nat) (xs:List Hd) (x:Hd) (hl:Hl) (hh:HeapAt hb xs hl) (hn:xs.length<4294967296) :
 Spec Tryz.prog 279 #[.pointer (some ⟨hb,0,none⟩),headV x] F hl fun _ hl'=>HeapAt hb (pushL xs x) hl':=push_spec F hb xs x hl hh hn
theorem popL_length (xs:List Hd):(popL xs).length=xs.length-1:=by
 by_cases h:0<xs.length
 · have:=(pop_perm xs h).length_eq
   simp only [List.length_cons] at this
   omega
 · rw [popL,if_pos (by omega)];simp;omega
theorem heap_nil (hb:Nat):HeapAt hb [] [(hb,cellsO [.slice none 0 0] 387)]:=⟨_,_,.nil,rfl⟩
end Go.Proofs.YtkpiakgmkpbikaaGreatDoor.HH
