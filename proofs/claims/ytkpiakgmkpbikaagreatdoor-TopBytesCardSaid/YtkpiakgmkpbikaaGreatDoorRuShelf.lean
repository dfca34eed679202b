/- Steps of the proof. -/
import Derived.Test.YtkpiakgmkpbikaaGreatDoorSlS
import Derived.Test.YtkpiakgmkpbikaaGreatDoorProg
import Derived.Shelf.SlLaysF0
set_option linter.unusedVariables false
namespace Go.Proofs.YtkpiakgmkpbikaaGreatDoor
open Go.Proofs Go.Shelf Go.Sort
theorem flatK_eq {α:Type} (E:Enc α) {A:Type} [Inhabited A] (f:A→α) (dk:Array A):flatK (fun a=>E.cells (f a)) E.k dk=(flat E (dk.toList.map f)).toArray:=by
 have hpos:=E.pos
 refine ext_get! (by simp [flat_length]) fun t ht=>?_
 have ht':t<dk.size*E.k:=by simpa using ht
 have hj:t / E.k<dk.size:=Nat.div_lt_of_lt_mul (by rw [Nat.mul_comm];exact ht')
 have hr:t % E.k<E.k:=Nat.mod_lt _ hpos
 have ej:t / E.k*E.k+t % E.k=t:=by rw [Nat.mul_comm];exact Nat.div_add_mod t E.k
 rw [get_flatK _ _ _ t ht',getElem!_pos dk _ hj]
 have hg:=flat_get E (dk.toList.map f) (t / E.k) (t % E.k) (f dk[t / E.k]) (by rw [List.getElem?_map,List.getElem?_eq_getElem (by simpa using hj)];simp) hr
 rw [ej] at hg
 have hl:t<(flat E (dk.toList.map f)).length:=by rw [flat_length];simpa using ht'
 rw [List.getElem?_eq_getElem hl,List.getElem?_eq_getElem (by rw [E.len];exact hr)] at hg
 rw [getElem!_pos _ t (by simpa using hl),getElem!_pos _ _ (by rw [E.len];exact hr)]
 simpa using (Option.some.inj hg).symm
theorem sort_genK {P:Program} {ρ:Ren} (L:SlLaysF0.n6 P ρ) {α:Type} (E:Enc α) (aE:∀w,(isAgg (ρ.t 24)).run P w=.ok true w) (zE:∀w,(Go.sizeOf (ρ.t 24)).run P w=.ok E.k w) (hval:∀x,E.val x=.agg (E.cells x).toArray)
 (cf:α→α→Int) (hO:SWO (ltOf cf)) (g:Nat) (cb:Array Value) (eg:∀args w,(callFunc g args).run P w=.ok (.enter g args) w)
 (F:Fm) (b cap:Nat) (xs:List α) (sp:List Value) (hsz:xs.length<4611686018427387904)
 (hcmp:∀F':Fm,(∀b o,F.at_ b o→F'.at_ b o)→∀x∈xs,∀y∈xs,Spec P g (#[E.val x,E.val y]++cb) F' [] fun v _=>v=.int .i64 (cf x y)) :
 Spec P (ρ.f 6) #[.slice (some ⟨b,0,none⟩) xs.length cap,.func (.func g) #[] cb] F [(b,rowS E xs sp)] fun _ hl'=>∃ys,hl'=[(b,rowS E ys sp)]∧ys.Perm xs∧ys.Pairwise fun x y=>¬cf y x<0:=by
 intro w hw
 by_cases h0:xs=[]
 · subst h0
   exact (AnyF.slices_SortFunc_none { L with } (some ⟨b,0,none⟩) cap (.func (.func g) #[] cb) w).mono fun e w' ⟨he,hw'⟩=>⟨_,_,he,⟨[],rfl,.refl _,.nil⟩,by rw [hw'];exact hw⟩
 have hblk:w.heap[b]? = some (rowS E xs sp):=hw.own b _ List.mem_cons_self
 have hlt:=hw.lt (b:=b) (o:=rowS E xs sp) List.mem_cons_self
 obtain ⟨x0,hx0⟩:=List.exists_mem_of_ne_nil xs h0
 let A:={ x // x∈xs }
 haveI:Inhabited A:=⟨⟨x0,hx0⟩⟩
 let enc:A→List Value:=fun a=>E.cells a.1
 let cfA:A→A→Int:=fun a c=>cf a.1 c.1
 have hd:xs.attach.toArray.size=xs.length:=by simp
 have hfl:∀dk:Array A,flatK enc E.k dk=(flat E (dk.toList.map (·.1))).toArray:=fun dk=>flatK_eq E (·.1) dk
 have hsw:∀(m:Nat) (dk:Array A) (os:Array Obj),dk.size=xs.length→(sortWorldK enc E.k w b 0 m dk os).heap[b]? = some (rowS E (dk.toList.map (·.1)) sp):=fun m dk os hs=>by
  have e0:(w.heap.modify b (onCells (putCells id 0 (flatK enc E.k dk))))[b]? = some (rowS E (dk.toList.map (·.1)) sp):=by
   rw [Array.getElem?_modify,if_pos rfl,hblk,hfl]
   have hls:(flat E (dk.toList.map (·.1))).length=(flat E xs).length:=by rw [flat_length,flat_length];simp [hs]
   simp only [Option.map_some,rowS,onCells]
   congr 2
   apply Array.ext_getElem?
   intro k
   simp only [putCells,Array.getElem?_mapIdx,List.getElem?_toArray]
   by_cases hk':k<(flat E xs).length
   · rw [List.getElem?_append_left hk',List.getElem?_append_left (by omega)]
     simp only [List.getElem?_eq_getElem hk',Option.map_some,Nat.sub_zero,Nat.zero_le,true_and,Nat.zero_add,List.size_toArray,hls,hk',if_true,id]
     rw [List.getElem?_eq_getElem (by omega)]
     rw [getElem!_pos _ k (by simpa [hls] using hk')]
     simp
   · rw [List.getElem?_append_right (by omega),List.getElem?_append_right (by omega)]
     simp only [hls,List.size_toArray,Nat.zero_add,Nat.zero_le,true_and,hk',if_false]
     cases sp[k-(flat E xs).length]? <;> rfl
  show (w.heap.modify b (onCells (putCells id 0 (flatK enc E.k dk)))++os)[b]? = _
  rw [Array.getElem?_append_left (by simpa using hlt)]
  exact e0
 have hso:∀(m:Nat) (dk:Array A) (os:Array Obj) (c:Nat) (o:Obj),F.at_ c o→(sortWorldK enc E.k w b 0 m dk os).heap[c]? = some o:=fun m dk os c o hc=>by
  have hne:b≠c:=fun e=>hw.apart b _ o List.mem_cons_self (e▸hc)
  show (w.heap.modify b (onCells (putCells id 0 (flatK enc E.k dk)))++os)[c]? = _
  rw [Array.getElem?_append_left (by simpa using hw.flt hc),Array.getElem?_modify,if_neg hne]
  exact hw.frame c o hc
 have hat:xs.attach.toArray.toList.map (·.1)=xs:=by rw [List.toList_toArray];exact List.attach_map_subtype_val xs
 have hH:HoldsK enc E.k w b 0 xs.attach.toArray:=fun j hj=>by
  rw [hfl,hat] at hj ⊢
  simp only [List.size_toArray] at hj
  constructor
  · simp only [World.cell?,hblk,rowS,Option.isSome_none,Bool.false_eq_true,if_false,Nat.zero_add,List.getElem?_toArray]
    rw [List.getElem?_append_left hj,List.getElem?_eq_getElem hj,getElem!_pos _ j (by simpa using hj)]
    simp
  · simp [World.frozen?,hblk,rowS]
 have hO':SWO (ltOf cfA):=⟨fun x=>hO.irrefl x.1,fun x y z=>hO.trans x.1 y.1 z.1,fun x y z=>hO.ntrans x.1 y.1 z.1⟩
 have hC:CmpLays P g cb enc E.k cfA b 0 xs.attach.toArray.size w:=fun m os dk hs x y=>by
  have hx:=hcmp ⟨(sortWorldK enc E.k w b 0 m dk os).os,(sortWorldK enc E.k w b 0 m dk os).tape,(sortWorldK enc E.k w b 0 m dk os).output,fun c o=>(sortWorldK enc E.k w b 0 m dk os).heap[c]? = some o,(sortWorldK enc E.k w b 0 m dk os).drawn⟩ (fun c o hc=>hso m dk os c o hc) x.1 x.2 y.1 y.2
  rw [hval,hval] at hx
  refine (hx (sortWorldK enc E.k w b 0 m dk os) ⟨rfl,rfl,rfl,fun _ _ h=>(by cases h),fun _ _ h=>h,List.nodup_nil,fun _ _ _ h=>(by cases h),Nat.le_refl _⟩).mono fun e w' ⟨v,hl',he,hv,hh⟩=>?_
  subst hv
  exact ⟨he,hp_grown hh⟩
 have:=AnyQ.slices_SortFunc L E.k aE zE enc (fun x=>E.len x.1) (fun x=>E.one x.1) cfA hO' g cb b 0 cap xs.attach.toArray w eg hC hH hlt (by rw [hd];exact hsz)
 rw [hd] at this
 refine this.mono fun e w' ⟨he,d',n,os,hp,hs,hw'⟩=>⟨_,_,he,⟨d'.toList.map (·.1),rfl,?_,?_⟩,?_⟩
 · have hsz':d'.size=xs.length:=by rw [hp.1,hd]
   have:=hp.2.2
   rw [show d'.extract 0 xs.length=d' by rw [←hsz'];simp,show xs.attach.toArray.extract 0 xs.length=xs.attach.toArray from by
    have:=Array.extract_size (xs:=xs.attach.toArray)
    rwa [hd] at this] at this
   have h2:=this.map (·.1)
   rwa [hat] at h2
 · have hsz':d'.size=xs.length:=by rw [hp.1,hd]
   rw [List.pairwise_iff_getElem]
   intro i j hi hj hij
   simp only [List.length_map,Array.length_toList] at hi hj
   have:=hs i j (Nat.zero_le _) hij (by omega)
   rw [getElem!_pos d' i hi,getElem!_pos d' j hj] at this
   simp only [ltOf,cfA,df] at this
   simp only [List.getElem_map,Array.getElem_toList]
   exact this
 · have hsz':d'.size=xs.length:=by rw [hp.1,hd]
   subst hw'
   refine ⟨hw.os,hw.tape,hw.output,fun c o hc=>?_,fun c o hc=>hso n d' os c o hc,by simp,fun c o o' hc hf=>?_,Nat.le_trans hw.drawn (Nat.le_add_right _ _)⟩
   · simp only [List.mem_singleton,Prod.mk.injEq] at hc
     obtain ⟨rfl,rfl⟩:=hc
     exact hsw n d' os hsz'
   · simp only [List.mem_singleton,Prod.mk.injEq] at hc
     obtain ⟨rfl,rfl⟩:=hc
     exact hw.apart c _ o' List.mem_cons_self hf
end Go.Proofs.YtkpiakgmkpbikaaGreatDoor
namespace Go.Proofs
open Go.Shelf
def Tryz.sortR_ren:Go.Shelf.Ren:=⟨fun | 6=>292 | 15=>78 | 14=>298 | 28=>98 | 29=>99 | 20=>299 | 21=>300 | 22=>301 | 23=>302 | 24=>303 | 25=>304 | 26=>305 | 27=>306 | 46=>307 | 47=>110 | 48=>111 | 49=>308 | 50=>309 | 57=>310 | n=>n,fun | 22=>289 | 24=>293 | 25=>396 | 3=>3 | 39=>81 | 0=>0 | 53=>22 | 55=>36 | 4=>4 | 46=>173 | 45=>172 | 50=>178 | 5=>5 | 9=>9 | 66=>189 | 70=>193 | 76=>214 | 77=>215 | n=>n,fun | n=>n⟩
theorem Tryz.sortR:Go.Proofs.SlLaysF0.n6 Tryz.prog Tryz.sortR_ren:={
 mixed:=by kernel_rfl
 f6:=⟨Tryz.f292.name,by decide,Tryz.func292.trans (congrArg some (by kernel_rfl))⟩
 f14:=⟨Tryz.f298.name,by decide,Tryz.func298.trans (congrArg some (by kernel_rfl))⟩
 f15:=Tryz.func78.trans (congrArg some (by kernel_rfl))
 f20:=⟨Tryz.f299.name,by decide,Tryz.func299.trans (congrArg some (by kernel_rfl))⟩
 f21:=⟨Tryz.f300.name,by decide,Tryz.func300.trans (congrArg some (by kernel_rfl))⟩
 f22:=⟨Tryz.f301.name,by decide,Tryz.func301.trans (congrArg some (by kernel_rfl))⟩
 f23:=⟨Tryz.f302.name,by decide,Tryz.func302.trans (congrArg some (by kernel_rfl))⟩
 f24:=⟨Tryz.f303.name,by decide,Tryz.func303.trans (congrArg some (by kernel_rfl))⟩
 f25:=⟨Tryz.f304.name,by decide,Tryz.func304.trans (congrArg some (by kernel_rfl))⟩
 f26:=⟨Tryz.f305.name,by decide,Tryz.func305.trans (congrArg some (by kernel_rfl))⟩
 f27:=⟨Tryz.f306.name,by decide,Tryz.func306.trans (congrArg some (by kernel_rfl))⟩
 f28:=Tryz.func98.trans (congrArg some (by kernel_rfl))
 f29:=Tryz.func99.trans (congrArg some (by kernel_rfl))
 f46:=⟨Tryz.f307.name,by decide,Tryz.func307.trans (congrArg some (by kernel_rfl))⟩
 f47:=Tryz.func110.trans (congrArg some (by kernel_rfl))
 f48:=Tryz.func111.trans (congrArg some (by kernel_rfl))
 f49:=⟨Tryz.f308.name,by decide,Tryz.func308.trans (congrArg some (by kernel_rfl))⟩
 f50:=⟨Tryz.f309.name,by decide,Tryz.func309.trans (congrArg some (by kernel_rfl))⟩
 f57:=⟨Tryz.f310.name,by decide,Tryz.func310.trans (congrArg some (by kernel_rfl))⟩
 t0:=Tryz.underlying0
 a0:=Tryz.isAgg0
 z0:=Tryz.sizeOf0
 v0:=Tryz.zeroValue0
 t3:=Tryz.underlying3
 a3:=Tryz.isAgg3
 z3:=Tryz.sizeOf3
 v3:=Tryz.zeroValue3
 t4:=Tryz.underlying4
 a4:=Tryz.isAgg4
 z4:=Tryz.sizeOf4
 v4:=Tryz.zeroValue4
 t5:=Tryz.underlying5
 a5:=Tryz.isAgg5
 z5:=Tryz.sizeOf5
 v5:=Tryz.zeroValue5
 t9:=Tryz.underlying9
 a9:=Tryz.isAgg9
 z9:=Tryz.sizeOf9
 v9:=Tryz.zeroValue9
 t22:=Tryz.underlying289
 a22:=Tryz.isAgg289
 z22:=Tryz.sizeOf289
 v22:=Tryz.zeroValue289
 t25:=Tryz.underlying396
 a25:=Tryz.isAgg396
 z25:=Tryz.sizeOf396
 v25:=Tryz.zeroValue396
 t39:=Tryz.underlying81
 a39:=Tryz.isAgg81
 z39:=Tryz.sizeOf81
 v39:=Tryz.zeroValue81
 t45:=Tryz.underlying172
 a45:=Tryz.isAgg172
 z45:=Tryz.sizeOf172
 v45:=Tryz.zeroValue172
 t46:=Tryz.underlying173
 a46:=Tryz.isAgg173
 z46:=Tryz.sizeOf173
 v46:=Tryz.zeroValue173
 t50:=Tryz.underlying178
 a50:=Tryz.isAgg178
 z50:=Tryz.sizeOf178
 v50:=Tryz.zeroValue178
 t53:=Tryz.underlying22
 a53:=Tryz.isAgg22
 z53:=Tryz.sizeOf22
 v53:=Tryz.zeroValue22
 t55:=Tryz.underlying36
 a55:=Tryz.isAgg36
 z55:=Tryz.sizeOf36
 v55:=Tryz.zeroValue36
 t66:=Tryz.underlying189
 a66:=Tryz.isAgg189
 z66:=Tryz.sizeOf189
 v66:=Tryz.zeroValue189
 t70:=Tryz.underlying193
 a70:=Tryz.isAgg193
 z70:=Tryz.sizeOf193
 v70:=Tryz.zeroValue193
 t76:=Tryz.underlying214
 a76:=Tryz.isAgg214
 z76:=Tryz.sizeOf214
 v76:=Tryz.zeroValue214
 t77:=Tryz.underlying215
 a77:=Tryz.isAgg215
 z77:=Tryz.sizeOf215
 v77:=Tryz.zeroValue215 }
end Go.Proofs
