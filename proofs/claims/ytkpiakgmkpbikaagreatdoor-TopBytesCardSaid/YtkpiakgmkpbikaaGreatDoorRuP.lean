/- Proved here: steps of the proof (TaH SlS SlK RuShelf Seqr RuP). -/
import Derived.Test.YtkpiakgmkpbikaaGreatDoorTaP
import Derived.Test.YtkpiakgmkpbikaaGreatDoorSlG
import Derived.Test.YtkpiakgmkpbikaaGreatDoorProg
import Derived.Test.YtkpiakgmkpbikaaGreatDoorHpP
import Derived.Shelf.SlSortCmp.NoneTotal
import Derived.Shelf.SlLaysF0
set_option linter.unusedVariables false
namespace Go.Proofs.YtkpiakgmkpbikaaGreatDoor.SH
abbrev headC (r:Sr):List Value:=[.int .u64 r.key,.int .u64 r.val,.pointer r.run]
abbrev headV (r:Sr):Value:=.agg #[.int .u64 r.key,.int .u64 r.val,.pointer r.run]
def headE:Enc Sr where
 k:=3
 tid:=374
 cells:=headC
 val:=headV
 pos:=by decide
 len:=fun _=>rfl
 one:=fun x v hv=>by simp [headC] at hv; rcases hv with rfl | rfl | rfl<;>rfl
 vc:=fun _=>rfl
instance:RowTy Tryz.prog headE 374:=⟨Tryz.sizeOf374,.inl ⟨Tryz.isAgg374,fun _=>rfl⟩⟩
instance:TySl Tryz.prog 369 headE 24:=⟨Tryz.underlying369,Tryz.t374,.agg #[.int .u64 0,.int .u64 0,.pointer none],by kernel_rfl,by kernel_rfl,rfl,rfl,rfl⟩
theorem before_spec (a b:Sr) (F:Fm):Spec Tryz.prog 312 #[headV a,headV b] F [] fun v _=>v=.bool (ltR a b):=by
 refine Spec.of (n:=10) (vs:=[headV a,headV b]) Tryz.func312 rfl Tryz.ntmps312 rfl ?_
 refine sj [.e,.e,.p] Z<|Rg.box Z Z Z Z Z (fun b2 => ?_)
 refine Rg.box Z Z Z Z Z (fun b3 => ?_)
 refine aj Z<|nl<|sj [.p,.r,.p,.r,.e,.p] Z<|fj Z<|rj Z (Ev.as (recV ⟨a.key,a.val⟩) (Ev.ldA Z Z) Z)<|fj Z<|rj Z (Ev.as (recV ⟨b.key,b.val⟩) (Ev.ldA Z Z) Z) ?_
 refine Rg.callP Z Z Z (run_callF Z) (Go.Proofs.YtkpiakgmkpbikaaGreatDoor.before_spec _ _ _) ?_
 rintro _ rfl
 refine aj Z<|nl<|Vc.ret (Vc.rets Z (.cons (.tmp Z) (.nil)) ?_)
 exact congrArg Value.bool rfl
theorem least_spec (F:Fm) (hb b cap m:Nat) (xs:List Sr) (sp:List Value) (i:Nat) (hm:m=xs.length) (hi:i<1152921504606846976) (hn:xs.length<1152921504606846976)
 [h1:Fat F hb (cellsO [.slice (some ⟨b,0,none⟩) m cap] 371)] [h2:Fat F b (rowS headE xs sp)] :
 Spec Tryz.prog 288 #[.pointer (some ⟨hb,0,none⟩),.int .i64 (i:Int)] F [] fun v _=>v=.int .i64 (leastI xs i):=by
 refine Spec.of (n:=46) (vs:=[.pointer (some ⟨hb,0,none⟩),.int .i64 (i:Int)]) Tryz.func288 rfl Tryz.ntmps288 rfl ?_
 refine sj [.p] Z<|aj Z<|nl<|sj [.p,.p,.p,.p] Z<|mj Z<|uj Z (Pv.mul rfl rfl (by omega))<|uj Z (Pv.add rfl rfl (by omega))<|aj Z<|nl<|wj<|sj [.p,.p,.p,.p,.r,.p,.p] Z<|mj Z<|mj Z<|nj Z<|fj Z ?_
 refine lj Z Z<|uj Z (Pv.lenS Z)<|uj Z (Pv.geq Z Z)<|nl<|cj Z (fun h15 => ?_) (fun h15 => ?_)
 · simp only [decide_eq_true_eq] at h15
   refine sj [.p] Z<|aj Z<|nl<|Vc.ret (Vc.rets Z (.cons (.tmp Z) (.nil)) ?_)
   exact congrArg (Value.int .i64) (by rw [leastI,if_pos (by omega)])
 · simp only [decide_eq_false_iff_not] at h15
   refine kj<|wj<|wj ?_
   refine Vc.draw [] (sd [(0,.pure),(1,.pure),(2,.pure),(3,.pure),(4,.pure),(5,.read),(6,.pure),(7,.pure),(8,.pure),(9,.pure),(10,.pure),(11,.pure),(12,.read),(13,.pure),(14,.pure),(15,.pure),(16,.read),(17,.pure),(18,.pure),(19,.pure),(20,.pure),(21,.read),(22,.pure),(23,.pure),(24,.read),(25,.eff),(26,.pure)]) mixed (by kernel_rfl)<|mj Z<|uj Z (Pv.add rfl rfl (by omega))<|mj Z<|nj Z<|fj Z<|lj Z Z<|uj Z (Pv.lenS Z)<|uj Z (Pv.lss Z Z)<|mj Z ?_
   refine Rg.split (t:=24) Z (fun h24 => ?_) (fun h24 => ?_)
   · simp only [decide_eq_true_eq] at h24
     refine mj Z<|nj Z<|fj Z<|lj Z Z<|mj Z<|uj Z (Pv.add rfl rfl (by omega))<|uj Z (Pv.ixA (2*i+2) rfl rfl (by omega) (by omega))<|rj Z (Ev.ldR (2*i+2) rfl (Nat.zero_add _) (by omega))<|uj Z (Pv.mkI Z)<|mj Z<|nj Z<|fj Z<|lj Z Z<|mj Z<|uj Z (Pv.ixA (2*i+1) rfl rfl (by omega) (by omega)) ?_
     refine rj Z (Ev.ldR (2*i+1) rfl (Nat.zero_add _) (by omega))<|Rg.callP Z Z Z (run_callI Z Z) (before_spec _ _ _) ?_
     rintro _ rfl
     refine qj Z Z<|nl<|cj Z (fun h42 => ?_) (fun h42 => ?_)
     · refine tj [.p,.p,.p] Z<|mj Z<|uj Z (Pv.add rfl rfl (by omega))<|aj Z<|nl<|sj [.p,.p] Z<|mj Z<|aj Z<|nl<|Vc.ret (Vc.rets Z (.cons (.tmp Z) (.nil)) ?_)
       exact congrArg (Value.int .i64) (by rw [leastI,if_neg (by omega),if_pos ⟨by omega,h42⟩]; omega)
     · refine kj<|sj [.p,.p] Z<|mj Z<|aj Z<|nl<|Vc.ret (Vc.rets Z (.cons (.tmp Z) (.nil)) ?_)
       exact congrArg (Value.int .i64) (by rw [leastI,if_neg (by omega),if_neg (fun hh=>by rw [h42] at hh; cases hh.2)]; omega)
   · simp only [decide_eq_false_iff_not] at h24
     iterate 17 (first | refine Rg.skipP rfl rfl rfl ?_ | refine Rg.skipR rfl rfl rfl ?_ | refine Rg.skipE rfl rfl rfl ?_)
     refine pj Z Z<|nl<|Vc.condF Z<|kj<|sj [.p,.p] Z<|mj Z<|aj Z<|nl<|Vc.ret (Vc.rets Z (.cons (.tmp Z) (.nil)) ?_)
     exact congrArg (Value.int .i64) (by rw [leastI,if_neg (by omega),if_neg (by omega)]; omega)
def HeapAt (hb:Nat) (xs:List Sr) (hl:Hl):Prop:=∃v seg,Own headE v xs seg∧hl=(hb,cellsO [v] 371)::seg
theorem push_spec (F:Fm) (hb:Nat) (xs:List Sr) (x:Sr) (hl:Hl) (hh:HeapAt hb xs hl) (hn:xs.length<4294967296) :
 Spec Tryz.prog 269 #[.pointer (some ⟨hb,0,none⟩),headV x] F hl fun _ hl'=>HeapAt hb (siftUp x (xs++[x]) xs.length) hl':=by
 obtain ⟨v,seg,own,rfl⟩:=hh
 obtain ⟨p,cap0,rfl⟩:=own.shape
 refine Spec.of (n:=61) (vs:=[.pointer (some ⟨hb,0,none⟩),headV x]) Tryz.func269 rfl Tryz.ntmps269 rfl ?_
 refine sj [.e] Z<|Rg.box Z Z Z Z Z (fun b3 => ?_)
 refine nl<|sj [.p,.p,.p,.r,.p,.p] Z<|mj Z<|nj Z<|fj Z<|lj Z Z<|uj Z (Pv.lenS Z)<|aj Z<|nl<|wj ?_
 refine Vc.draw [7,10] (sd [(0,.pure),(1,.pure),(2,.pure),(3,.pure),(4,.read),(5,.read),(6,.eff),(7,.eff),(8,.pure),(9,.pure),(10,.eff)]) mixed (by kernel_rfl)<|mj Z<|mj Z<|nj Z<|fj Z<|lj Z Z<|rj Z (Ev.ldA Z Z) ?_
 refine Rg.bslice1 Z Z Z Z Z Z Z (fun b16 => ?_)
 refine Rg.append Z Z Z Z Z own (ys:=[x]) (Src.one rfl) (by simp<;>omega) (by simp [maxLen]<;>omega) rfl (fun v17 s17 own17 => ?_)
 obtain ⟨b,cap,sp,rfl,rfl,hc,hm⟩:=own17.block (by simp)
 refine Rg.app Z<|nj Z<|fj Z ?_
 refine Rg.store Z Z Z Z Z Z Z Z<|nl<|wj<|bj ?_
 refine Vc.loop2 (fun (i:Nat) (ys:List Sr)=>i<ys.length∧ys.length=(xs++[x]).length∧siftUp x ys i=siftUp x (xs++[x]) xs.length) (fun (i:Nat) (ys:List Sr)=>[(0,.pointer (some ⟨hb,0,none⟩)),(3,.pointer (some ⟨b3,0,none⟩)),(4,.int .i64 (i:Int))]) (fun (i:Nat) (ys:List Sr)=>[(hb,cellsO [.slice (some ⟨b,0,none⟩) (xs++[x]).length cap] 371),(b,rowS headE ys sp),(b3,cellsO (headC x) 374)]) (fun (i:Nat) (ys:List Sr)=>i) xs.length (xs++[x]) ⟨by simp,rfl,rfl⟩ (.cons rfl (.cons rfl (.cons rfl .nil))) pulled ?_
 rintro i ys ⟨h1,h2,h3⟩
 have hlen:(xs++[x]).length=xs.length+1:=by simp
 refine wj<|wj ?_
 refine Vc.draw [] (sd [(0,.pure),(1,.pure),(2,.pure),(3,.read),(4,.pure),(5,.pure),(6,.pure),(7,.pure),(8,.read),(9,.pure),(10,.pure),(11,.pure),(12,.pure),(13,.read),(14,.eff),(15,.pure)]) mixed (by kernel_rfl)<|mj Z<|uj Z (Pv.gtr Z Z)<|mj Z<|Rg.split (t:=22) Z (fun h22 => ?_) (fun h22 => ?_)
 · simp only [decide_eq_true_eq] at h22
   refine rj Z (Ev.ldA Z Z)<|uj Z (Pv.mkI Z)<|mj Z<|nj Z<|fj Z<|lj Z Z<|mj Z<|uj Z (Pv.sub rfl rfl (by omega))<|uj Z (Pv.quo rfl rfl (by omega))<|uj Z (Pv.ixA ((i-1) / 2) rfl rfl (by omega) (by omega))<|rj Z (Ev.ldR ((i-1) / 2) rfl (Nat.zero_add _) (by omega)) ?_
   refine Rg.callP Z Z Z (run_callI Z Z) (before_spec _ _ _) ?_
   rintro _ rfl
   refine qj Z Z<|nl<|cj Z (fun h35 => ?_) (fun h35 => ?_)
   · refine kj<|bj<|wj ?_
     refine Vc.draw [15] (sd [(0,.pure),(1,.pure),(2,.pure),(3,.read),(4,.pure),(5,.pure),(6,.pure),(7,.pure),(8,.read),(9,.pure),(10,.pure),(11,.pure),(12,.pure),(13,.read),(14,.pure),(15,.eff)]) mixed (by kernel_rfl)<|mj Z<|nj Z<|fj Z<|lj Z Z<|mj Z<|mj Z<|nj Z<|fj Z<|lj Z Z<|mj Z<|uj Z (Pv.sub rfl rfl (by omega))<|uj Z (Pv.quo rfl rfl (by omega))<|uj Z (Pv.ixA ((i-1) / 2) rfl rfl (by omega) (by omega))<|rj Z (Ev.ldR ((i-1) / 2) rfl (Nat.zero_add _) (by omega)) ?_
     refine uj Z (Pv.ixA (i) rfl rfl (by omega) (by omega))<|Rg.storeR (i) rfl rfl rfl rfl rfl rfl (Nat.zero_add _) (by omega) rfl<|nl<|tj [.p,.p,.p,.p] Z<|mj Z<|uj Z (Pv.sub rfl rfl (by omega))<|uj Z (Pv.quo rfl rfl (by omega))<|aj Z<|nl<|dj<|Vc.inv2 ((i-1) / 2) (ys.set i ys[(i-1) / 2]!) ⟨⟨by simp; omega,by simp [h2],by rw [←siftUp_go (by omega) h35]; exact h3⟩,show (i-1) / 2<i by omega⟩ (.cons rfl (.cons rfl (.cons (by show _=some (Value.int .i64 (((i-1) / 2:Nat):Int)); simp [lk]; omega) .nil))) pulled
   · refine Vc.exit Z ?_
     refine Vc.draw [7] (sd [(0,.pure),(1,.pure),(2,.pure),(3,.read),(4,.pure),(5,.read),(6,.pure),(7,.eff)]) mixed (by kernel_rfl)<|mj Z<|nj Z<|fj Z<|lj Z Z<|mj Z<|rj Z (Ev.ldA Z Z)<|uj Z (Pv.ixA (i) rfl rfl (by omega) (by omega)) ?_
     refine Rg.storeR (i) rfl rfl rfl rfl rfl rfl (Nat.zero_add _) (by omega) rfl<|nl ?_
     exact Vc.fin (Vc.retsH rfl .nil (⟨_,_,by rw [←h3,siftUp_stop (fun hh=>by rw [h35] at hh; cases hh.2)]; have:=Own.blk (E:=headE) b cap (ys.set i x) sp (by rw [List.length_set,h2]; exact hc) hm; rwa [List.length_set,h2] at this,rfl⟩) pulled)
 · simp only [decide_eq_false_iff_not] at h22
   iterate 12 (first | refine Rg.skipP rfl rfl rfl ?_ | refine Rg.skipR rfl rfl rfl ?_ | refine Rg.skipE rfl rfl rfl ?_)
   refine pj Z Z<|nl<|Vc.condF Z<|Vc.exit Z ?_
   refine Vc.draw [7] (sd [(0,.pure),(1,.pure),(2,.pure),(3,.read),(4,.pure),(5,.read),(6,.pure),(7,.eff)]) mixed (by kernel_rfl)<|mj Z<|nj Z<|fj Z<|lj Z Z<|mj Z<|rj Z (Ev.ldA Z Z)<|uj Z (Pv.ixA (i) rfl rfl (by omega) (by omega)) ?_
   refine Rg.storeR (i) rfl rfl rfl rfl rfl rfl (Nat.zero_add _) (by omega) rfl<|nl ?_
   exact Vc.fin (Vc.retsH rfl .nil (⟨_,_,by rw [←h3,siftUp_stop (fun hh=>by omega)]; have:=Own.blk (E:=headE) b cap (ys.set i x) sp (by rw [List.length_set,h2]; exact hc) hm; rwa [List.length_set,h2] at this,rfl⟩) pulled)
def peekV:List Sr→Value
 | []=>.tuple #[headV ⟨0,0,none⟩,.bool false]
 | x::_=>.tuple #[headV x,.bool true]
theorem peek_nil (F:Fm) (hb:Nat) (p:Option Addr) (cap:Nat) [h1:Fat F hb (cellsO [.slice p 0 cap] 371)] :
 Spec Tryz.prog 287 #[.pointer (some ⟨hb,0,none⟩)] F [] fun v _=>v=peekV []:=by
 refine Spec.of (n:=17) (vs:=[.pointer (some ⟨hb,0,none⟩)]) Tryz.func287 rfl Tryz.ntmps287 rfl ?_
 refine sj [.e,.p] Z<|Rg.alloc Z Z Z Z (fun b2 => ?_)
 refine aj Z<|nl<|wj<|sj [.p,.p,.p,.r,.p,.p] Z<|mj Z<|nj Z<|fj Z<|lj Z Z<|uj Z (Pv.lenS Z)<|uj Z (Pv.eql Z Z)<|nl<|cj Z (fun h9 => ?_) (fun h9=>absurd h9 (by simp))
 refine sj [.r,.e,.p] Z<|rj Z (Ev.ldA Z Z)<|Rg.storeA Z Z Z Z Z Z Z Z<|aj Z<|nl<|Vc.ret (Vc.rets Z (.cons (.cellA Z Z) (.cons (.tmp Z) (.nil))) ?_)
 exact rfl
theorem peek_cons (F:Fm) (hb b cap:Nat) (xs:List Sr) (sp:List Value) (h0:0<xs.length) [h1:Fat F hb (cellsO [.slice (some ⟨b,0,none⟩) xs.length cap] 371)] [h2:Fat F b (rowS headE xs sp)] :
 Spec Tryz.prog 287 #[.pointer (some ⟨hb,0,none⟩)] F [] fun v _=>v=.tuple #[headV xs[0]!,.bool true]:=by
 refine Spec.of (n:=17) (vs:=[.pointer (some ⟨hb,0,none⟩)]) Tryz.func287 rfl Tryz.ntmps287 rfl ?_
 refine sj [.e,.p] Z<|Rg.alloc Z Z Z Z (fun b2 => ?_)
 refine aj Z<|nl<|wj<|sj [.p,.p,.p,.r,.p,.p] Z<|mj Z<|nj Z<|fj Z<|lj Z Z<|uj Z (Pv.lenS Z)<|uj Z (Pv.eql Z Z)<|nl<|cj Z (fun h9=>absurd h9 (by simp only [beq_iff_eq]; omega)) (fun h9 => ?_)
 refine kj<|sj [.p,.p,.p,.r,.p,.r,.e,.p] Z<|mj Z<|nj Z<|fj Z<|lj Z Z<|uj Z (Pv.ixA (0) rfl rfl (by omega) (by omega))<|rj Z (Ev.ldR (0) rfl (Nat.zero_add _) (by omega)) ?_
 refine Rg.storeA Z Z Z Z Z Z Z Z<|aj Z<|nl<|Vc.ret (Vc.rets Z (.cons (.cellA Z Z) (.cons (.tmp Z) (.nil))) ?_)
 exact rfl
theorem pop_nil (F:Fm) (hb:Nat) (hl:Hl) (hh:HeapAt hb [] hl) :
 Spec Tryz.prog 270 #[.pointer (some ⟨hb,0,none⟩)] F hl fun v hl'=>v=peekV []∧HeapAt hb [] hl':=by
 obtain ⟨v,seg,own,rfl⟩:=hh
 obtain ⟨p,cap0,rfl⟩:=own.shape
 refine Spec.of (n:=85) (vs:=[.pointer (some ⟨hb,0,none⟩)]) Tryz.func270 rfl Tryz.ntmps270 rfl ?_
 refine sj [.e,.p] Z<|Rg.alloc Z Z Z Z (fun b2 => ?_)
 refine aj Z<|nl<|sj [.p,.e,.p,.p,.p,.e,.e,.p] Z<|mj Z<|Rg.callP Z Z Z (run_callF Z) (peek_nil _ _ _ _) ?_
 rintro _ rfl
 refine mj Z<|xj Z Z<|xj Z Z<|Rg.alloc Z Z Z Z (fun b4 => ?_)
 refine Rg.storeA Z Z Z Z Z Z Z Z<|aj Z<|nl<|wj<|sj [.p,.p] Z<|mj Z<|uj Z (Pv.not Z)<|nl<|Vc.condT Z<|sj [.r,.e,.p] Z<|rj Z (Ev.ldA Z Z)<|Rg.storeA Z Z Z Z Z Z Z Z<|aj Z<|nl ?_
 exact Vc.ret (Vc.retsH rfl (.cons (.cellA rfl rfl) (.cons (.tmp rfl) (.nil))) (⟨rfl,_,_,own,rfl⟩) pulled)
set_option maxHeartbeats 400000 in
theorem pop_cons (F:Fm) (hb:Nat) (xs:List Sr) (hl:Hl) (hh:HeapAt hb xs hl) (h0:0<xs.length) (hn:xs.length<4294967296) :
 Spec Tryz.prog 270 #[.pointer (some ⟨hb,0,none⟩)] F hl fun v hl'=>v=.tuple #[headV xs[0]!,.bool true]∧HeapAt hb (popL xs) hl':=by
 obtain ⟨v,seg,own,rfl⟩:=hh
 obtain ⟨b,cap,sp,rfl,rfl,hc,hm⟩:=own.block h0
 have hle:xs.length≤cap:=Nat.le_of_mul_le_mul_right (show xs.length*headE.k≤cap*headE.k by omega) headE.pos
 refine Spec.of (n:=85) (vs:=[.pointer (some ⟨hb,0,none⟩)]) Tryz.func270 rfl Tryz.ntmps270 rfl ?_
 refine sj [.e,.p] Z<|Rg.alloc Z Z Z Z (fun b2 => ?_)
 refine aj Z<|nl<|sj [.p,.e,.p,.p,.p,.e,.e,.p] Z<|mj Z<|Rg.callP Z Z Z (run_callF Z) (peek_cons _ _ _ _ _ _ h0) ?_
 rintro _ rfl
 refine mj Z<|xj Z Z<|xj Z Z<|Rg.alloc Z Z Z Z (fun b4 => ?_)
 refine Rg.storeA Z Z Z Z Z Z Z Z<|aj Z<|nl<|wj<|sj [.p,.p] Z<|mj Z<|uj Z (Pv.not Z)<|nl<|Vc.condF Z<|kj<|sj [.p,.p,.p,.r,.p,.p,.p] Z<|mj Z<|nj Z<|fj Z<|lj Z Z ?_
 refine uj Z (Pv.lenS Z)<|uj Z (Pv.asI (xs.length-1) (Pv.sub rfl rfl (by omega)) (by omega))<|aj Z<|nl<|sj [.p,.p,.p,.r,.p,.p,.r,.e,.e] Z<|mj Z<|nj Z<|fj Z<|lj Z Z<|mj Z<|uj Z (Pv.ixA (xs.length-1) rfl rfl (by omega) (by omega))<|rj Z (Ev.ldR (xs.length-1) rfl (Nat.zero_add _) (by omega)) ?_
 refine Rg.alloc Z Z Z Z (fun b7 => ?_)
 refine Rg.storeA Z Z Z Z Z Z Z Z<|nl<|sj [.p,.p,.p,.p,.r,.p,.p,.p,.p,.e] Z<|mj Z<|mj Z<|nj Z<|fj Z<|lj Z Z<|mj Z<|uj Z (Pv.slTo (xs.length-1) rfl rfl (by omega))<|nj Z<|fj Z ?_
 refine Rg.store Z Z Z Z Z Z Z Z<|nl<|wj<|wj ?_
 rw [rowS_take headE xs sp (xs.length-1)]
 have hnp:(xs.take (xs.length-1)).length=xs.length-1:=by simp
 refine tj [.p,.p] Z<|mj Z<|uj Z (Pv.eql Z Z)<|nl<|cj Z (fun h41 => ?_) (fun h41 => ?_)
 · simp only [beq_iff_eq] at h41
   refine sj [.r,.e,.p] Z<|rj Z (Ev.ldA Z Z)<|Rg.storeA Z Z Z Z Z Z Z Z<|aj Z<|nl ?_
   exact Vc.ret (Vc.retsH rfl (.cons (.cellA rfl rfl) (.cons (.tmp rfl) (.nil))) (⟨rfl,.slice (some ⟨b,0,none⟩) (xs.length-1) cap,[(b,rowS headE (xs.take (xs.length-1)) (flat headE (xs.drop (xs.length-1))++sp))],by have e:xs.length-1=0:=(by omega); rw [popL,if_pos (by omega),e]; exact Own.blk (E:=headE) b cap [] _ (by simp only [List.drop_zero,List.length_append,flat_length,List.length_nil]; omega) hm,rfl⟩) pulled)
 · simp only [beq_eq_false_iff_ne,ne_eq] at h41
   refine kj<|sj [.p] Z<|aj Z<|nl<|wj<|sj [.p,.p,.e,.p] Z<|mj Z<|mj Z<|Rg.callP Z Z Z (run_callF rfl) (least_spec _ _ _ _ _ _ _ 0 hnp.symm (by omega) (by omega)) ?_
   rintro _ rfl
   refine aj Z<|nl<|bj ?_
   refine Vc.loop2 (fun (i:Nat) (ys:List Sr)=>i<ys.length∧ys.length=xs.length-1∧siftDown xs[xs.length-1]! ys i=siftDown xs[xs.length-1]! (xs.take (xs.length-1)) 0) (fun (i:Nat) (ys:List Sr)=>[(0,.pointer (some ⟨hb,0,none⟩)),(2,.pointer (some ⟨b2,0,none⟩)),(4,.pointer (some ⟨b4,0,none⟩)),(7,.pointer (some ⟨b7,0,none⟩)),(8,.int .i64 (i:Int)),(9,.int .i64 (leastI ys i))]) (fun (i:Nat) (ys:List Sr)=>[(hb,cellsO [.slice (some ⟨b,0,none⟩) (xs.length-1) cap] 371),(b,rowS headE ys (flat headE (xs.drop (xs.length-1))++sp)),(b2,cellsO (headC ⟨0,0,none⟩) 374),(b4,cellsO (headC xs[0]!) 374),(b7,cellsO (headC xs[xs.length-1]!) 374)]) (fun (i:Nat) (ys:List Sr)=>xs.length-i) 0 (xs.take (xs.length-1)) ⟨by omega,hnp,rfl⟩ (.cons rfl (.cons rfl (.cons rfl (.cons rfl (.cons rfl (.cons rfl .nil)))))) pulled ?_
   rintro i ys ⟨h1,h2,h3⟩
   refine wj<|wj ?_
   refine Vc.draw [] (sd [(0,.pure),(1,.pure),(2,.pure),(3,.pure),(4,.pure),(5,.pure),(6,.read),(7,.pure),(8,.pure),(9,.read),(10,.pure),(11,.read),(12,.eff),(13,.pure)]) mixed (by kernel_rfl)<|mj Z<|uj Z (Pv.geq Z Z)<|mj Z<|Rg.split (t:=48) Z (fun h48 => ?_) (fun h48 => ?_)
   · simp only [decide_eq_true_eq] at h48
     obtain ⟨k,hk⟩:=Int.eq_ofNat_of_zero_le h48
     have hlt:=leastI_lt h48
     rw [hk,Int.toNat_natCast] at hlt
     rw [hk]
     refine mj Z<|nj Z<|fj Z<|lj Z Z<|mj Z<|uj Z (Pv.ixA (k) rfl rfl (by omega) (by omega))<|rj Z (Ev.ldR (k) rfl (Nat.zero_add _) (by omega))<|uj Z (Pv.mkI Z)<|rj Z (Ev.ldA Z Z) ?_
     refine Rg.callP Z Z Z (run_callI Z Z) (before_spec _ _ _) ?_
     rintro _ rfl
     refine qj Z Z<|nl<|cj Z (fun h59 => ?_) (fun h59 => ?_)
     · refine kj<|wj<|bj<|wj ?_
       refine Vc.draw [13] (sd [(0,.pure),(1,.pure),(2,.pure),(3,.read),(4,.pure),(5,.pure),(6,.pure),(7,.pure),(8,.read),(9,.pure),(10,.pure),(11,.read),(12,.pure),(13,.eff)]) mixed (by kernel_rfl)<|mj Z<|nj Z<|fj Z<|lj Z Z<|mj Z<|mj Z<|nj Z<|fj Z<|lj Z Z<|mj Z<|uj Z (Pv.ixA (k) rfl rfl (by omega) (by omega))<|rj Z (Ev.ldR (k) rfl (Nat.zero_add _) (by omega))<|uj Z (Pv.ixA (i) rfl rfl (by omega) (by omega)) ?_
       refine Rg.storeR (i) rfl rfl rfl rfl rfl rfl (Nat.zero_add _) (by omega) rfl<|nl<|tj [.p,.p] Z<|mj Z<|aj Z<|nl<|dj<|tj [.p,.p,.e,.p] Z<|mj Z<|mj Z<|Rg.callP Z Z Z (run_callF rfl) (least_spec _ _ _ _ _ (ys.set i ys[k]!) _ k (by rw [List.length_set,h2]) (by omega) (by rw [List.length_set]; omega)) ?_
       rintro _ rfl
       refine aj Z<|nl<|Vc.inv2 k (ys.set i ys[k]!) ⟨⟨by rw [List.length_set]; omega,by rw [List.length_set,h2],by rw [←h3,siftDown_go (i:=i) (by omega) (by rw [hk]; exact h59),hk,Int.toNat_natCast]⟩,show xs.length-k<xs.length-i by omega⟩ (.cons rfl (.cons rfl (.cons rfl (.cons rfl (.cons rfl (.cons rfl .nil)))))) pulled
     · refine Vc.exit Z<|wj ?_
       refine Vc.draw [7] (sd [(0,.pure),(1,.pure),(2,.pure),(3,.read),(4,.pure),(5,.read),(6,.pure),(7,.eff)]) mixed (by kernel_rfl)<|mj Z<|nj Z<|fj Z<|lj Z Z<|mj Z<|rj Z (Ev.ldA Z Z)<|uj Z (Pv.ixA (i) rfl rfl (by omega) (by omega)) ?_
       refine Rg.storeR (i) rfl rfl rfl rfl rfl rfl (Nat.zero_add _) (by omega) rfl<|nl<|sj [.r,.e,.p] Z<|rj Z (Ev.ldA Z Z)<|Rg.storeA Z Z Z Z Z Z Z Z<|aj Z<|nl ?_
       exact Vc.ret (Vc.retsH rfl (.cons (.cellA rfl rfl) (.cons (.tmp rfl) (.nil))) (⟨rfl,_,_,by rw [popL,if_neg (by omega),←h3,siftDown_stop (fun hh=>by rw [hk,Int.toNat_natCast,h59] at hh; cases hh.2)]; have:=Own.blk (E:=headE) b cap (ys.set i xs[xs.length-1]!) (flat headE (xs.drop (xs.length-1))++sp) (by rw [List.length_set,List.length_append,flat_length,List.length_drop,h2]; have:=headE.pos; rw [←hc,←Nat.add_assoc,←Nat.add_mul]; congr 2; omega) hm; rwa [List.length_set,h2] at this,rfl⟩) pulled)
   · simp only [decide_eq_false_iff_not] at h48
     iterate 10 (first | refine Rg.skipP rfl rfl rfl ?_ | refine Rg.skipR rfl rfl rfl ?_ | refine Rg.skipE rfl rfl rfl ?_)
     refine pj Z Z<|nl<|Vc.condF Z<|Vc.exit Z<|wj ?_
     refine Vc.draw [7] (sd [(0,.pure),(1,.pure),(2,.pure),(3,.read),(4,.pure),(5,.read),(6,.pure),(7,.eff)]) mixed (by kernel_rfl)<|mj Z<|nj Z<|fj Z<|lj Z Z<|mj Z<|rj Z (Ev.ldA Z Z)<|uj Z (Pv.ixA (i) rfl rfl (by omega) (by omega)) ?_
     refine Rg.storeR (i) rfl rfl rfl rfl rfl rfl (Nat.zero_add _) (by omega) rfl<|nl<|sj [.r,.e,.p] Z<|rj Z (Ev.ldA Z Z)<|Rg.storeA Z Z Z Z Z Z Z Z<|aj Z<|nl ?_
     exact Vc.ret (Vc.retsH rfl (.cons (.cellA rfl rfl) (.cons (.tmp rfl) (.nil))) (⟨rfl,_,_,by rw [popL,if_neg (by omega),←h3,siftDown_stop (fun hh=>by omega)]; have:=Own.blk (E:=headE) b cap (ys.set i xs[xs.length-1]!) (flat headE (xs.drop (xs.length-1))++sp) (by rw [List.length_set,List.length_append,flat_length,List.length_drop,h2]; have:=headE.pos; rw [←hc,←Nat.add_assoc,←Nat.add_mul]; congr 2; omega) hm; rwa [List.length_set,h2] at this,rfl⟩) pulled)
theorem pop_at (F:Fm) (hb:Nat) (xs:List Sr) (hl:Hl) (hh:HeapAt hb xs hl) (hn:xs.length<4294967296) :
 Spec Tryz.prog 270 #[.pointer (some ⟨hb,0,none⟩)] F hl fun v hl'=>v=peekV xs∧HeapAt hb (popL xs) hl':=by
 cases xs with
 | nil=>exact pop_nil F hb hl hh
 | cons x l=>exact pop_cons F hb _ hl hh (by simp) hn
def hd (xs:List Sr):Sr:=xs.headD ⟨0,0,none⟩
theorem peekV_eq (xs:List Sr):peekV xs=.tuple #[headV (hd xs),.bool (decide (0<xs.length))]:=by
 cases xs with
 | nil=>rfl
 | cons x l=>simp [peekV,hd]
theorem hd_get {xs:List Sr} (h:0<xs.length):hd xs=xs[0]! := by
 cases xs with
 | nil=>simp at h
 | cons x l=>rfl
theorem pop_hd (F:Fm) (hb:Nat) (xs:List Sr) (hl:Hl) (hh:HeapAt hb xs hl) (hn:xs.length<4294967296) :
 Spec Tryz.prog 270 #[.pointer (some ⟨hb,0,none⟩)] F hl fun v hl'=>v=.tuple #[headV (hd xs),.bool (decide (0<xs.length))]∧HeapAt hb (popL xs) hl':=by
 rw [←peekV_eq]; exact pop_at F hb xs hl hh hn
def pushL (xs:List Sr) (x:Sr):List Sr:=siftUp x (xs++[x]) xs.length
theorem push_at (F:Fm) (hb:Nat) (xs:List Sr) (x:Sr) (hl:Hl) (hh:HeapAt hb xs hl) (hn:xs.length<4294967296) :
 Spec Tryz.prog 269 #[.pointer (some ⟨hb,0,none⟩),headV x] F hl fun _ hl'=>HeapAt hb (pushL xs x) hl':=push_spec F hb xs x hl hh hn
theorem popL_length (xs:List Sr):(popL xs).length=xs.length-1:=by
 by_cases h:0<xs.length
 · have:=(pop_perm xs h).length_eq
   simp only [List.length_cons] at this
   omega
 · rw [popL,if_pos (by omega)]; simp; omega
theorem heap_nil (hb:Nat):HeapAt hb [] [(hb,cellsO [.slice none 0 0] 371)]:=⟨_,_,.nil,rfl⟩
end Go.Proofs.YtkpiakgmkpbikaaGreatDoor.SH
namespace Go.Proofs.YtkpiakgmkpbikaaGreatDoor
open Go.Proofs Go.Shelf Go.Sort
theorem hp_grown {W w':World} {hl:Hl} (h:Hp ⟨W.os,W.tape,W.output,fun b o=>W.heap[b]? = some o,W.drawn⟩ hl w'):∃q os',w'=grow (W.drewN q) os':=by
 have hb:∀k (hk:k<W.heap.size),w'.heap[k]? = some W.heap[k]:=fun k hk=>h.frame k _ (Array.getElem?_eq_getElem hk)
 have hsz:W.heap.size≤w'.heap.size:=by
  by_cases h0:W.heap.size=0
  · omega
  · have:=(Array.getElem?_eq_some_iff.1 (hb (W.heap.size-1) (by omega))).1
    omega
 refine ⟨w'.drawn-W.drawn,w'.heap.extract W.heap.size w'.heap.size,?_⟩
 have hd:=h.drawn
 simp only at hd
 have e1:w'.heap=W.heap++w'.heap.extract W.heap.size w'.heap.size:=by
  apply Array.ext_getElem?
  intro k
  by_cases hk:k<W.heap.size
  · rw [hb k hk,Array.getElem?_append_left hk,Array.getElem?_eq_getElem hk]
  · rw [Array.getElem?_append_right (by omega),Array.getElem?_extract]
    by_cases hk2:k<w'.heap.size
    · rw [if_pos (by omega)]; congr 1; omega
    · rw [if_neg (by omega),Array.getElem?_eq_none (by omega)]
 obtain ⟨heap,tape,drawn,os,output⟩:=w'
 have h1:=h.os
 have h2:=h.tape
 have h3:=h.output
 simp only at h1 h2 h3 e1 hd
 subst h1 h2 h3
 simp only [grow,World.drewN]
 congr 1
 omega
end Go.Proofs.YtkpiakgmkpbikaaGreatDoor
namespace Go.Proofs.YtkpiakgmkpbikaaGreatDoor
open Go.Proofs Go.Shelf Go.Sort
theorem flatK_eq {α:Type} (E:Enc α) {A:Type} [Inhabited A] (f:A→α) (dk:Array A):flatK (fun a=>E.cells (f a)) E.k dk=(flat E (dk.toList.map f)).toArray:=by
 have hpos:=E.pos
 refine ext_get! (by simp [flat_length]) fun t ht => ?_
 have ht':t<dk.size*E.k:=by simpa using ht
 have hj:t / E.k<dk.size:=Nat.div_lt_of_lt_mul (by rw [Nat.mul_comm]; exact ht')
 have hr:t % E.k<E.k:=Nat.mod_lt _ hpos
 have ej:t / E.k*E.k+t % E.k=t:=by rw [Nat.mul_comm]; exact Nat.div_add_mod t E.k
 rw [get_flatK _ _ _ t ht',getElem!_pos dk _ hj]
 have hg:=flat_get E (dk.toList.map f) (t / E.k) (t % E.k) (f dk[t / E.k]) (by rw [List.getElem?_map,List.getElem?_eq_getElem (by simpa using hj)]; simp) hr
 rw [ej] at hg
 have hl:t<(flat E (dk.toList.map f)).length:=by rw [flat_length]; simpa using ht'
 rw [List.getElem?_eq_getElem hl,List.getElem?_eq_getElem (by rw [E.len]; exact hr)] at hg
 rw [getElem!_pos _ t (by simpa using hl),getElem!_pos _ _ (by rw [E.len]; exact hr)]
 simpa using (Option.some.inj hg).symm
theorem sort_genK {P:Program} {ρ:Ren} (L:SlLaysF0.n6 P ρ) {α:Type} (E:Enc α) (aE:∀w,(isAgg (ρ.t 24)).run P w=.ok true w) (zE:∀w,(Go.sizeOf (ρ.t 24)).run P w=.ok E.k w) (hval:∀x,E.val x=.agg (E.cells x).toArray)
 (cf:α→α→Int) (hO:SWO (ltOf cf)) (g:Nat) (cb:Array Value) (eg:∀args w,(callFunc g args).run P w=.ok (.enter g args) w)
 (F:Fm) (b cap:Nat) (xs:List α) (sp:List Value) (hsz:xs.length<4611686018427387904)
 (hcmp:∀F':Fm,(∀b o,F.at_ b o→F'.at_ b o)→∀x∈xs,∀y∈xs,Spec P g (#[E.val x,E.val y]++cb) F' [] fun v _=>v=.int .i64 (cf x y)) :
 Spec P (ρ.f 6) #[.slice (some ⟨b,0,none⟩) xs.length cap,.func (.func g) #[] cb] F [(b,rowS E xs sp)] fun _ hl'=>∃ys,hl'=[(b,rowS E ys sp)]∧ys.Perm xs∧ys.Pairwise fun x y=>¬cf y x<0:=by
 intro w hw
 by_cases h0:xs=[]
 · subst h0
   exact (AnyF.slices_SortFunc_none { L with } (some ⟨b,0,none⟩) cap (.func (.func g) #[] cb) w).mono fun e w' ⟨he,hw'⟩=>⟨_,_,he,⟨[],rfl,.refl _,.nil⟩,by rw [hw']; exact hw⟩
 have hblk:w.heap[b]? = some (rowS E xs sp):=hw.own b _ List.mem_cons_self
 have hlt:=hw.lt (b:=b) (o:=rowS E xs sp) List.mem_cons_self
 obtain ⟨x0,hx0⟩:=List.exists_mem_of_ne_nil xs h0
 let A:={ x // x∈xs }
 haveI:Inhabited A:=⟨⟨x0,hx0⟩⟩
 let enc:A→List Value:=fun a=>E.cells a.1
 let cfA:A→A→Int:=fun a c=>cf a.1 c.1
 have hd:xs.attach.toArray.size=xs.length:=by simp
 have hfl:∀dk:Array A,flatK enc E.k dk=(flat E (dk.toList.map (·.1))).toArray:=fun dk=>flatK_eq E (·.1) dk
 have hsw:∀(m:Nat) (dk:Array A) (os:Array Obj),dk.size=xs.length→(sortWorldK enc E.k w b 0 m dk os).heap[b]? = some (rowS E (dk.toList.map (·.1)) sp):=fun m dk os hs=>by
  have e0:(w.heap.modify b (onCells (putCells id 0 (flatK enc E.k dk))))[b]? = some (rowS E (dk.toList.map (·.1)) sp):=by
   rw [Array.getElem?_modify,if_pos rfl,hblk,hfl]
   have hls:(flat E (dk.toList.map (·.1))).length=(flat E xs).length:=by rw [flat_length,flat_length]; simp [hs]
   simp only [Option.map_some,rowS,onCells]
   congr 2
   apply Array.ext_getElem?
   intro k
   simp only [putCells,Array.getElem?_mapIdx,List.getElem?_toArray]
   by_cases hk':k<(flat E xs).length
   · rw [List.getElem?_append_left hk',List.getElem?_append_left (by omega)]
     simp only [List.getElem?_eq_getElem hk',Option.map_some,Nat.sub_zero,Nat.zero_le,true_and,Nat.zero_add,List.size_toArray,hls,hk',if_true,id]
     rw [List.getElem?_eq_getElem (by omega)]
     rw [getElem!_pos _ k (by simpa [hls] using hk')]
     simp
   · rw [List.getElem?_append_right (by omega),List.getElem?_append_right (by omega)]
     simp only [hls,List.size_toArray,Nat.zero_add,Nat.zero_le,true_and,hk',if_false]
     cases sp[k-(flat E xs).length]? <;> rfl
  show (w.heap.modify b (onCells (putCells id 0 (flatK enc E.k dk)))++os)[b]? = _
  rw [Array.getElem?_append_left (by simpa using hlt)]
  exact e0
 have hso:∀(m:Nat) (dk:Array A) (os:Array Obj) (c:Nat) (o:Obj),F.at_ c o→(sortWorldK enc E.k w b 0 m dk os).heap[c]? = some o:=fun m dk os c o hc=>by
  have hne:b≠c:=fun e=>hw.apart b _ o List.mem_cons_self (e▸hc)
  show (w.heap.modify b (onCells (putCells id 0 (flatK enc E.k dk)))++os)[c]? = _
  rw [Array.getElem?_append_left (by simpa using hw.flt hc),Array.getElem?_modify,if_neg hne]
  exact hw.frame c o hc
 have hat:xs.attach.toArray.toList.map (·.1)=xs:=by rw [List.toList_toArray]; exact List.attach_map_subtype_val xs
 have hH:HoldsK enc E.k w b 0 xs.attach.toArray:=fun j hj=>by
  rw [hfl,hat] at hj ⊢
  simp only [List.size_toArray] at hj
  constructor
  · simp only [World.cell?,hblk,rowS,Option.isSome_none,Bool.false_eq_true,if_false,Nat.zero_add,List.getElem?_toArray]
    rw [List.getElem?_append_left hj,List.getElem?_eq_getElem hj,getElem!_pos _ j (by simpa using hj)]
    simp
  · simp [World.frozen?,hblk,rowS]
 have hO':SWO (ltOf cfA):=⟨fun x=>hO.irrefl x.1,fun x y z=>hO.trans x.1 y.1 z.1,fun x y z=>hO.ntrans x.1 y.1 z.1⟩
 have hC:CmpLays P g cb enc E.k cfA b 0 xs.attach.toArray.size w:=fun m os dk hs x y=>by
  have hx:=hcmp ⟨(sortWorldK enc E.k w b 0 m dk os).os,(sortWorldK enc E.k w b 0 m dk os).tape,(sortWorldK enc E.k w b 0 m dk os).output,fun c o=>(sortWorldK enc E.k w b 0 m dk os).heap[c]? = some o,(sortWorldK enc E.k w b 0 m dk os).drawn⟩ (fun c o hc=>hso m dk os c o hc) x.1 x.2 y.1 y.2
  rw [hval,hval] at hx
  refine (hx (sortWorldK enc E.k w b 0 m dk os) ⟨rfl,rfl,rfl,fun _ _ h=>(by cases h),fun _ _ h=>h,List.nodup_nil,fun _ _ _ h=>(by cases h),Nat.le_refl _⟩).mono fun e w' ⟨v,hl',he,hv,hh⟩ => ?_
  subst hv
  exact ⟨he,hp_grown hh⟩
 have:=AnyQ.slices_SortFunc L E.k aE zE enc (fun x=>E.len x.1) (fun x=>E.one x.1) cfA hO' g cb b 0 cap xs.attach.toArray w eg hC hH hlt (by rw [hd]; exact hsz)
 rw [hd] at this
 refine this.mono fun e w' ⟨he,d',n,os,hp,hs,hw'⟩=>⟨_,_,he,⟨d'.toList.map (·.1),rfl,?_,?_⟩,?_⟩
 · have hsz':d'.size=xs.length:=by rw [hp.1,hd]
   have:=hp.2.2
   rw [show d'.extract 0 xs.length=d' by rw [←hsz']; simp,show xs.attach.toArray.extract 0 xs.length=xs.attach.toArray from by
    have:=Array.extract_size (xs:=xs.attach.toArray)
    rwa [hd] at this] at this
   have h2:=this.map (·.1)
   rwa [hat] at h2
 · have hsz':d'.size=xs.length:=by rw [hp.1,hd]
   rw [List.pairwise_iff_getElem]
   intro i j hi hj hij
   simp only [List.length_map,Array.length_toList] at hi hj
   have:=hs i j (Nat.zero_le _) hij (by omega)
   rw [getElem!_pos d' i hi,getElem!_pos d' j hj] at this
   simp only [ltOf,cfA,decide_eq_false_iff_not] at this
   simp only [List.getElem_map,Array.getElem_toList]
   exact this
 · have hsz':d'.size=xs.length:=by rw [hp.1,hd]
   subst hw'
   refine ⟨hw.os,hw.tape,hw.output,fun c o hc => ?_,fun c o hc=>hso n d' os c o hc,by simp,fun c o o' hc hf => ?_,Nat.le_trans hw.drawn (Nat.le_add_right _ _)⟩
   · simp only [List.mem_singleton,Prod.mk.injEq] at hc
     obtain ⟨rfl,rfl⟩:=hc
     exact hsw n d' os hsz'
   · simp only [List.mem_singleton,Prod.mk.injEq] at hc
     obtain ⟨rfl,rfl⟩:=hc
     exact hw.apart c _ o' List.mem_cons_self hf
end Go.Proofs.YtkpiakgmkpbikaaGreatDoor
namespace Go.Proofs
open Go.Shelf
def Tryz.sortR_ren:Go.Shelf.Ren:=⟨fun | 6=>292 | 15=>78 | 14=>298 | 28=>98 | 29=>99 | 20=>299 | 21=>300 | 22=>301 | 23=>302 | 24=>303 | 25=>304 | 26=>305 | 27=>306 | 46=>307 | 47=>110 | 48=>111 | 49=>308 | 50=>309 | 57=>310 | n=>n,fun | 22=>289 | 24=>293 | 25=>396 | 3=>3 | 39=>81 | 0=>0 | 53=>22 | 55=>36 | 4=>4 | 46=>173 | 45=>172 | 50=>178 | 5=>5 | 9=>9 | 66=>189 | 70=>193 | 76=>214 | 77=>215 | n=>n,fun | n=>n⟩
theorem Tryz.sortR:Go.Proofs.SlLaysF0.n6 Tryz.prog Tryz.sortR_ren:={
 mixed:=by kernel_rfl
 f6:=⟨Tryz.f292.name,by decide,Tryz.func292.trans (congrArg some (by kernel_rfl))⟩
 f14:=⟨Tryz.f298.name,by decide,Tryz.func298.trans (congrArg some (by kernel_rfl))⟩
 f15:=Tryz.func78.trans (congrArg some (by kernel_rfl))
 f20:=⟨Tryz.f299.name,by decide,Tryz.func299.trans (congrArg some (by kernel_rfl))⟩
 f21:=⟨Tryz.f300.name,by decide,Tryz.func300.trans (congrArg some (by kernel_rfl))⟩
 f22:=⟨Tryz.f301.name,by decide,Tryz.func301.trans (congrArg some (by kernel_rfl))⟩
 f23:=⟨Tryz.f302.name,by decide,Tryz.func302.trans (congrArg some (by kernel_rfl))⟩
 f24:=⟨Tryz.f303.name,by decide,Tryz.func303.trans (congrArg some (by kernel_rfl))⟩
 f25:=⟨Tryz.f304.name,by decide,Tryz.func304.trans (congrArg some (by kernel_rfl))⟩
 f26:=⟨Tryz.f305.name,by decide,Tryz.func305.trans (congrArg some (by kernel_rfl))⟩
 f27:=⟨Tryz.f306.name,by decide,Tryz.func306.trans (congrArg some (by kernel_rfl))⟩
 f28:=Tryz.func98.trans (congrArg some (by kernel_rfl))
 f29:=Tryz.func99.trans (congrArg some (by kernel_rfl))
 f46:=⟨Tryz.f307.name,by decide,Tryz.func307.trans (congrArg some (by kernel_rfl))⟩
 f47:=Tryz.func110.trans (congrArg some (by kernel_rfl))
 f48:=Tryz.func111.trans (congrArg some (by kernel_rfl))
 f49:=⟨Tryz.f308.name,by decide,Tryz.func308.trans (congrArg some (by kernel_rfl))⟩
 f50:=⟨Tryz.f309.name,by decide,Tryz.func309.trans (congrArg some (by kernel_rfl))⟩
 f57:=⟨Tryz.f310.name,by decide,Tryz.func310.trans (congrArg some (by kernel_rfl))⟩
 t0:=Tryz.underlying0
 a0:=Tryz.isAgg0
 z0:=Tryz.sizeOf0
 v0:=Tryz.zeroValue0
 t3:=Tryz.underlying3
 a3:=Tryz.isAgg3
 z3:=Tryz.sizeOf3
 v3:=Tryz.zeroValue3
 t4:=Tryz.underlying4
 a4:=Tryz.isAgg4
 z4:=Tryz.sizeOf4
 v4:=Tryz.zeroValue4
 t5:=Tryz.underlying5
 a5:=Tryz.isAgg5
 z5:=Tryz.sizeOf5
 v5:=Tryz.zeroValue5
 t9:=Tryz.underlying9
 a9:=Tryz.isAgg9
 z9:=Tryz.sizeOf9
 v9:=Tryz.zeroValue9
 t22:=Tryz.underlying289
 a22:=Tryz.isAgg289
 z22:=Tryz.sizeOf289
 v22:=Tryz.zeroValue289
 t25:=Tryz.underlying396
 a25:=Tryz.isAgg396
 z25:=Tryz.sizeOf396
 v25:=Tryz.zeroValue396
 t39:=Tryz.underlying81
 a39:=Tryz.isAgg81
 z39:=Tryz.sizeOf81
 v39:=Tryz.zeroValue81
 t45:=Tryz.underlying172
 a45:=Tryz.isAgg172
 z45:=Tryz.sizeOf172
 v45:=Tryz.zeroValue172
 t46:=Tryz.underlying173
 a46:=Tryz.isAgg173
 z46:=Tryz.sizeOf173
 v46:=Tryz.zeroValue173
 t50:=Tryz.underlying178
 a50:=Tryz.isAgg178
 z50:=Tryz.sizeOf178
 v50:=Tryz.zeroValue178
 t53:=Tryz.underlying22
 a53:=Tryz.isAgg22
 z53:=Tryz.sizeOf22
 v53:=Tryz.zeroValue22
 t55:=Tryz.underlying36
 a55:=Tryz.isAgg36
 z55:=Tryz.sizeOf36
 v55:=Tryz.zeroValue36
 t66:=Tryz.underlying189
 a66:=Tryz.isAgg189
 z66:=Tryz.sizeOf189
 v66:=Tryz.zeroValue189
 t70:=Tryz.underlying193
 a70:=Tryz.isAgg193
 z70:=Tryz.sizeOf193
 v70:=Tryz.zeroValue193
 t76:=Tryz.underlying214
 a76:=Tryz.isAgg214
 z76:=Tryz.sizeOf214
 v76:=Tryz.zeroValue214
 t77:=Tryz.underlying215
 a77:=Tryz.isAgg215
 z77:=Tryz.sizeOf215
 v77:=Tryz.zeroValue215 }
end Go.Proofs
namespace Go.Proofs.YtkpiakgmkpbikaaGreatDoor
abbrev sqr:Enc Rc:=recE
abbrev Tqr:Type:=Rc
theorem sortLr:Go.Proofs.SlLaysF0.n6 Tryz.prog Tryz.sortR_ren:=Tryz.sortR
theorem values_specr {F:Fm} {p:Option Addr} {m c:Nat} :
 Spec Tryz.prog 281 #[.slice p m c] F [] fun v s=>∃bs,v=.func (.func 293) #[] #[.pointer (some ⟨bs,0,none⟩)]∧s=[(bs,cellsO [.slice p m c] 289)]:=by
 refine Spec.of (n:=4) (vs:=[.slice p m c]) Tryz.func281 rfl Tryz.ntmps281 rfl ?_
 refine sj [.e,.p] Z<|Rg.box Z Z Z Z Z (fun b1 => ?_)
 refine aj Z<|nl<|sj [.p,.p] Z<|uj Z (Pv.mkF Z Z)<|aj Z<|nl ?_
 exact Vc.ret (Vc.retsH rfl (.cons (.tmp rfl) (.nil)) (⟨b1,rfl,rfl⟩) pulled)
theorem values_iterr {F:Fm} {va:Value} {xs:List Tqr} (ha:Arg sqr F va xs) (hN:xs.length<1073741824) (bs:Nat) :
 Iter Tryz.prog 293 [.pointer (some ⟨bs,0,none⟩)] F (fun x=>[sqr.val x]) (fun p=>p <+: xs) (fun p=>p=xs) [(bs,cellsO [va] 289)]:=by
 intro lr J F1 hF1 hY hc0 hJ0
 obtain ⟨p,c,rfl⟩:=ha.shape
 have ha1:=ha.mono hF1
 refine Spec.of (n:=16) (vs:=[.func (.yield lr) #[] #[],.pointer (some ⟨bs,0,none⟩)]) Tryz.func293 rfl Tryz.ntmps293 rfl ?_
 refine sj [.r,.p,.p] Z<|lj Z Z<|uj Z (Pv.lenS Z)<|mj Z<|nl<|bj ?_
 refine Vc.loop2 (fun (k:Nat) (hc:Hl)=>k≤xs.length∧J (xs.take k) hc) (fun k hc=>[(0,.func (.yield lr) #[] #[]),(1,.pointer (some ⟨bs,0,none⟩)),(5,.slice p xs.length c),(6,.int .i64 (xs.length:Int)),(7,.int .i64 (k:Int))]) (fun k hc=>(bs,cellsO [.slice p xs.length c] 289)::hc) (fun k hc=>xs.length-k) 0 hc0 ⟨Nat.zero_le _,by simpa using hJ0⟩ (.cons rfl (.cons rfl (.cons rfl (.cons rfl (.cons rfl .nil))))) pulled ?_
 rintro k hc ⟨hk,hJ⟩
 refine sj [.p] Z<|uj Z (Pv.lss Z Z)<|nl<|wj<|cj Z (fun h8 => ?_) (fun h8 => ?_)
 · simp only [decide_eq_true_eq] at h8
   have hk1:k<xs.length:=by omega
   obtain ⟨b,off,c',e,hcc⟩:=ha1.block (by omega)
   cases e
   have hsn:xs.take k++[xs[k]!]=xs.take (k+1):=take_snoc (by rw [getElem!_pos xs k hk1]; exact List.getElem?_eq_getElem hk1)
   have hpre:xs.take k++[xs[k]!] <+: xs:=by rw [hsn]; exact List.take_prefix _ _
   refine kj<|wj<|bj<|sj [.p,.r,.e,.e] Z<|uj Z (Pv.ixA (k) rfl rfl (by omega) (by omega))<|rj Z (Ev.ldS (k) (ha1.src) rfl rfl rfl (by omega))<|Rg.alloc Z Z Z Z (fun b4 => ?_)
   refine Rg.storeA (us:=sqr.cells xs[k]!) Z Z Z Z Z Z Z Z<|nl<|sj [.p,.r,.e,.p] Z<|mj Z<|rj Z (Ev.as (sqr.val xs[k]!) (Ev.ldA Z Z) Z)<|Rg.yieldH Z Z Z Z Z (fun F' hF'=>hY _ xs[k]! hpre hc hJ F' (fun b o h=>hF' b o (.inr h))) Z ?_
   rintro _ hc' ⟨rfl,hJ'⟩
   rw [hsn] at hJ'
   refine uj Z (Pv.not Z)<|nl<|cj Z (fun h14=>absurd h14 (by simp)) (fun h14 => ?_)
   refine kj<|dj<|tj [.p,.p] Z<|uj Z (Pv.asI (k+1) (Pv.add rfl rfl (by omega)) (by omega))<|mj Z<|nl ?_
   exact Vc.inv2 (k+1) hc' ⟨⟨by omega,hJ'⟩,by omega⟩ (.cons rfl (.cons rfl (.cons rfl (.cons rfl (.cons rfl .nil))))) pulled
 · simp only [decide_eq_false_iff_not] at h8
   have hJf:J xs hc:=by rwa [List.take_of_length_le (by omega)] at hJ
   refine Vc.exit Z ?_
   exact Vc.fin (Vc.retsH rfl .nil (⟨xs,rfl,hJf⟩) pulled)
theorem appendSeq_specr {F:Fm} {gf:Nat} [TyCall Tryz.prog gf] {lb:List Value} {Sp S:List Tqr→Prop} {hi:Hl} (hit:∀F',(∀b o,F.at_ b o→F'.at_ b o)→Iter Tryz.prog gf lb F' (fun x=>[sqr.val x]) Sp S hi) (hS:∀pre x,Sp (pre++[x])→pre.length<1073741824) :
 Spec Tryz.prog 297 #[.slice none 0 0,.func (.func gf) #[] lb.toArray] F hi fun v s=>∃ys,S ys∧Own sqr v ys s:=by
 refine Spec.of (n:=13) (vs:=[.slice none 0 0,.func (.func gf) #[] lb.toArray]) Tryz.func297 rfl Tryz.ntmps297 rfl ?_
 refine sj [.e,.p] Z<|Rg.box Z Z Z Z Z (fun b2 => ?_)
 refine aj Z<|nl<|wj<|sj [.p] Z<|mj Z<|nl<|bj ?_
 refine Vc.rangeFunc (enc:=fun x=>[sqr.val x]) (Sp:=Sp) (S:=S) (hi:=hi) (rest:=[]) (fun pre hc=>∃v sg,Own sqr v pre sg∧hc=(b2,cellsO [v] 289)::sg) [(b2,cellsO [.slice none 0 0] 289)] Z Z (fun _=>Z) Z pulled (fun F1 hF1=>hit F1 fun b o h=>hF1 b o (.inr h)) ⟨_,[],Own.nil,Z⟩ ?_ ?_
 · rintro lr rc pre x hc F1 hF1 hpre ⟨v,sg,own,rfl⟩
   have hpl:=hS pre x hpre
   refine tj [.e,.e] Z<|Rg.alloc Z Z Z Z (fun b5 => ?_)
   refine Rg.storeA (us:=sqr.cells x) Z Z Z Z Z Z Z Z<|nl<|Vc.begin<|bj<|tj [.r,.r,.e,.e,.e] Z<|lj Z Z<|rj Z (Ev.ldA Z Z)<|Rg.bslice1 Z Z Z Z Z Z Z (fun b10 => ?_)
   refine Rg.append Z Z Z Z Z own (Src.one (y:=x) rfl) (by simp<;>omega) (by simp [maxLen]<;>omega) rfl (fun v11 s11 own11 => ?_)
   refine Rg.store Z Z Z Z Z own11.one Z Z<|nl<|dj ?_
   exact Vc.finR ((b2,cellsO [v11] 289)::s11) ⟨v11,s11,own11,rfl⟩ pulled
 · rintro D ys hc hD hSy ⟨v,sg,own,rfl⟩
   refine dj<|sj [.r,.p] Z<|lj Z Z<|aj Z<|nl ?_
   exact Vc.ret (Vc.retsM (hl':=sg) (Mk.one hD) rfl (.cons (.tmp rfl) .nil) ⟨ys,hSy,own⟩ pulled)
theorem collect_specr {F:Fm} {gf:Nat} [TyCall Tryz.prog gf] {lb:List Value} {Sp S:List Tqr→Prop} {hi:Hl} (hit:∀F',(∀b o,F.at_ b o→F'.at_ b o)→Iter Tryz.prog gf lb F' (fun x=>[sqr.val x]) Sp S hi) (hS:∀pre x,Sp (pre++[x])→pre.length<1073741824) :
 Spec Tryz.prog 291 #[.func (.func gf) #[] lb.toArray] F hi fun v s=>∃ys,S ys∧Own sqr v ys s:=by
 refine Spec.of (n:=5) (vs:=[.func (.func gf) #[] lb.toArray]) Tryz.func291 rfl Tryz.ntmps291 rfl ?_
 refine sj [.p] Z<|aj Z<|nl<|sj [.p,.e,.p] Z<|mj Z<|Rg.callH Z Z Z (run_callF Z) (fun F' hF'=>appendSeq_specr (F:=F') (Sp:=Sp) (S:=S) (fun F'' h=>hit F'' fun b o hb=>h b o (hF' b o (.inr hb))) hS) Z ?_
 rintro v4 s4 ⟨ys,hSy,own⟩
 refine aj Z<|nl ?_
 exact Vc.ret (Vc.retsH rfl (.cons (.tmp rfl) (.nil)) (⟨ys,hSy,own⟩) pulled)
theorem sortFunc_specr {F:Fm} (cf:Tqr→Tqr→Int) (hO:Go.Sort.SWO (Go.Proofs.ltOf cf)) (g:Nat) (cb:Array Value) [tc:TyCall Tryz.prog g] {v:Value} {xs:List Tqr} {sg:Hl} (own:Own sqr v xs sg) (hsz:xs.length<4611686018427387904)
 (hcmp:∀F':Fm,(∀b o,F.at_ b o→F'.at_ b o)→∀x∈xs,∀y∈xs,Spec Tryz.prog g (#[sqr.val x,sqr.val y]++cb) F' [] fun v _=>v=.int .i64 (cf x y)) :
 Spec Tryz.prog 292 #[v,.func (.func g) #[] cb] F sg fun _ s=>∃ys,Own sqr v ys s∧ys.Perm xs∧ys.Pairwise fun x y=>¬cf y x<0:=by
 cases own with
 | nil=>exact fun w hw=>(AnyF.slices_SortFunc_none { sortLr with } none 0 (.func (.func g) #[] cb) w).mono fun e w' ⟨he,hw'⟩=>⟨_,_,he,⟨[],.nil,.refl _,.nil⟩,by rw [hw']; exact hw⟩
 | blk b cap _ sp hc hm =>
  refine (sort_genK sortLr sqr (Tryz.isAgg293) (Tryz.sizeOf293) (fun _=>rfl) cf hO g cb (fun args w=>tc.call args w) F b cap xs sp hsz hcmp).mono fun u s ⟨ys,e,hp,hs⟩=>⟨ys,?_,hp,hs⟩
  subst e
  have hl:=hp.length_eq
  have:=Own.blk' (E:=sqr) b cap xs.length ys sp hl.symm hc hm
  exact this
theorem sortedFunc_specr {F:Fm} (cf:Tqr→Tqr→Int) (hO:Go.Sort.SWO (Go.Proofs.ltOf cf)) (g:Nat) [tc:TyCall Tryz.prog g] {gf:Nat} [TyCall Tryz.prog gf] {lb:List Value} {Sp S:List Tqr→Prop} {hi:Hl} (hit:∀F',(∀b o,F.at_ b o→F'.at_ b o)→Iter Tryz.prog gf lb F' (fun x=>[sqr.val x]) Sp S hi) (hS:∀pre x,Sp (pre++[x])→pre.length<1073741824) (hSl:∀ys,S ys→ys.length<1073741824)
 (hcmp:∀F':Fm,(∀b o,F.at_ b o→F'.at_ b o)→∀ys,S ys→∀x∈ys,∀y∈ys,Spec Tryz.prog g #[sqr.val x,sqr.val y] F' [] fun v _=>v=.int .i64 (cf x y)) :
 Spec Tryz.prog 280 #[.func (.func gf) #[] lb.toArray,.func (.func g) #[] #[]] F hi fun v s=>∃ys zs,S ys∧Own sqr v zs s∧zs.Perm ys∧zs.Pairwise fun x y=>¬cf y x<0:=by
 refine Spec.of (n:=12) (vs:=[.func (.func gf) #[] lb.toArray,.func (.func g) #[] #[]]) Tryz.func280 rfl Tryz.ntmps280 rfl ?_
 refine sj [.p] Z<|aj Z<|nl<|sj [.p,.e,.p] Z<|mj Z<|Rg.callH Z Z Z (run_callF Z) (fun F' hF'=>collect_specr (F:=F') (Sp:=Sp) (S:=S) (fun F'' h=>hit F'' fun b o hb=>h b o (hF' b o (.inr hb))) hS) Z ?_
 rintro v7 s7 ⟨ys,hSy,own⟩
 refine aj Z<|nl<|sj [.p,.p,.e] Z<|mj Z<|mj Z<|Rg.callH Z Z Z (run_callF rfl) (fun F' hF'=>sortFunc_specr (F:=F') cf hO g #[] own (by have:=hSl ys hSy; omega) (fun F'' h x hx y hy=>hcmp F'' (fun b o hb=>h b o (hF' b o (.inr hb))) ys hSy x hx y hy)) rfl ?_
 rintro v10 s10 ⟨zs,own2,hp,hs⟩
 refine nl<|sj [.p,.p] Z<|mj Z<|aj Z<|nl ?_
 exact Vc.ret (Vc.retsH rfl (.cons (.tmp rfl) (.nil)) (⟨ys,zs,hSy,own2,hp,hs⟩) pulled)
end Go.Proofs.YtkpiakgmkpbikaaGreatDoor
namespace Go.Proofs.YtkpiakgmkpbikaaGreatDoor
theorem eq_nil_or_snoc {α:Type}:∀l:List α,l=[]∨∃m x,l=m++[x]:=fun l=>by
 rcases List.eq_nil_or_concat l with h | ⟨m,x,h⟩
 · exact .inl h
 · exact .inr ⟨m,x,by simpa using h⟩
@[elab_as_elim] theorem snocRec {α:Type} {motive:List α→Prop} (l:List α) (nil:motive []) (snoc:∀(l:List α) (r:α),motive l→motive (l++[r])):motive l:=by
 rw [←List.reverse_reverse l]
 induction l.reverse with
 | nil=>exact nil
 | cons x m ih=>rw [List.reverse_cons]; exact snoc _ _ ih
def InR (r:Rc):Prop:=(0≤r.key∧r.key<18446744073709551616)∧(0≤r.val∧r.val<18446744073709551616)
def comb (how a b:Int):Int:=if how=1 then (if a+b<18446744073709551616 then a+b else 18446744073709551615) else min a b
theorem comb_in {how a b:Int} (ha:0≤a∧a<18446744073709551616) (hb:0≤b∧b<18446744073709551616):0≤comb how a b∧comb how a b<18446744073709551616:=by
 unfold comb; split<;>(try split)<;>omega
theorem comb_comm (how a b:Int):comb how a b=comb how b a:=by
 unfold comb; split
 · rw [Int.add_comm]
 · omega
theorem comb_assoc {how a b c:Int} (ha:0≤a) (hb:0≤b) (hc:0≤c):comb how (comb how a b) c=comb how a (comb how b c):=by
 unfold comb; split
 · split<;>split<;>(try split)<;>(try split)<;>omega
 · omega
def stepC (how:Int) (out:List Rc) (r:Rc):List Rc :=
 if how≠0∧0<out.length∧out[out.length-1]!.key=r.key then out.set (out.length-1) ⟨r.key,comb how out[out.length-1]!.val r.val⟩ else out++[r]
def foldC (how:Int) (l:List Rc):List Rc:=l.foldl (stepC how) []
def sortedG (how:Int) (l:List Rc):List Rc:=foldC how (sortL l)
theorem foldC_snoc (how:Int) (l:List Rc) (r:Rc):foldC how (l++[r])=stepC how (foldC how l) r:=by simp [foldC]
theorem stepC_length (how:Int) (out:List Rc) (r:Rc):(stepC how out r).length≤out.length+1:=by unfold stepC; split<;>simp
theorem foldC_length (how:Int) (l:List Rc):(foldC how l).length≤l.length:=by
 induction l using snocRec with
 | nil=>simp [foldC]
 | snoc l r ih=>rw [foldC_snoc]; have:=stepC_length how (foldC how l) r; simp; omega
theorem rises_unique:∀{a b:List Rc},Rises a→Rises b→a.Perm b→a=b
 | [],b,_,_,hp=>(List.nil_perm.1 hp).symm
 | x::a,[],_,_,hp=>List.perm_nil.1 hp
 | x::a,y::b,ha,hb,hp=>by
  have hx:x∈y::b:=hp.mem_iff.1 List.mem_cons_self
  have hy:y∈x::a:=hp.mem_iff.2 List.mem_cons_self
  have e:x=y:=by
   rcases List.mem_cons.1 hx with h | h
   · exact h
   · rcases List.mem_cons.1 hy with h2 | h2
     · exact h2.symm
     · exact geR_antisymm ((List.pairwise_cons.1 hb).1 x h) ((List.pairwise_cons.1 ha).1 y h2)
  subst e
  rw [rises_unique (List.pairwise_cons.1 ha).2 (List.pairwise_cons.1 hb).2 (List.Perm.cons_inv hp)]
theorem sortL_perm (l:List Rc):(sortL l).Perm l:=sort_perm l []
theorem sortL_rises (l:List Rc):Rises (sortL l):=sort_rises l [] .nil
theorem sortL_of {l zs:List Rc} (hp:zs.Perm l) (hr:Rises zs):zs=sortL l:=rises_unique hr (sortL_rises l) (hp.trans (sortL_perm l).symm)
theorem sortL_congr {l m:List Rc} (h:l.Perm m):sortL l=sortL m:=sortL_of ((sortL_perm l).trans h) (sortL_rises l)
theorem sortedG_congr {how:Int} {l m:List Rc} (h:l.Perm m):sortedG how l=sortedG how m:=by rw [sortedG,sortedG,sortL_congr h]
theorem foldC_zero (l:List Rc):foldC 0 l=l:=by
 induction l using snocRec with
 | nil=>rfl
 | snoc l r ih=>rw [foldC_snoc,ih]; simp [stepC]
theorem sortedG_zero (l:List Rc):sortedG 0 l=sortL l:=foldC_zero _
def addO (how:Int):Option Int→Int→Option Int
 | none,v=>some v
 | some a,v=>some (comb how a v)
def tot (how k:Int) (l:List Rc):Option Int:=l.foldl (fun acc r=>if r.key=k then addO how acc r.val else acc) none
theorem tot_snoc (how k:Int) (l:List Rc) (r:Rc):tot how k (l++[r])=if r.key=k then addO how (tot how k l) r.val else tot how k l:=by simp [tot]
def joinO (how:Int):Option Int→Option Int→Option Int
 | none,b=>b
 | some a,none=>some a
 | some a,some b=>some (comb how a b)
def NN (l:List Rc):Prop:=∀r∈l,0≤r.val
theorem comb_nn {how a b:Int} (ha:0≤a) (hb:0≤b):0≤comb how a b:=by unfold comb; split<;>(try split)<;>omega
theorem tot_nn {how k:Int} {l:List Rc} (h:NN l):∀v,tot how k l=some v→0≤v:=by
 induction l using snocRec with
 | nil=>intro v hv; simp [tot] at hv
 | snoc l r ih =>
  intro v hv
  have hl:=ih fun x hx=>h x (List.mem_append_left _ hx)
  have hr:=h r (by simp)
  rw [tot_snoc] at hv
  split at hv
  · cases ht:tot how k l with
    | none=>rw [ht] at hv; cases hv; exact hr
    | some a=>rw [ht] at hv; cases hv; exact comb_nn (hl a ht) hr
  · exact hl v hv
theorem tot_append {how k:Int} {l m:List Rc} (hl:NN l) (hm:NN m):tot how k (l++m)=joinO how (tot how k l) (tot how k m):=by
 induction m using snocRec with
 | nil=>simp [tot,joinO]; cases (List.foldl _ none l)<;>rfl
 | snoc m r ih =>
  have hm':NN m:=fun x hx=>hm x (List.mem_append_left _ hx)
  have hr:=hm r (by simp)
  rw [←List.append_assoc,tot_snoc,tot_snoc,ih hm']
  split
  · cases h1:tot how k l with
    | none=>rfl
    | some a =>
     cases h2:tot how k m with
     | none=>rfl
     | some b=>simp only [joinO,addO]; rw [comb_assoc (tot_nn hl a h1) (tot_nn hm' b h2) hr]
  · rfl
theorem tot_one (how k:Int) (r:Rc):tot how k [r]=if r.key=k then some r.val else none:=by simp [tot,addO]
theorem joinO_comm (how:Int) (a b:Option Int):joinO how a b=joinO how b a:=by
 cases a<;>cases b<;>simp [joinO,comb_comm]
theorem NN.app {l m:List Rc} (hl:NN l) (hm:NN m):NN (l++m):=fun x hx=>(List.mem_append.1 hx).elim (hl x) (hm x)
theorem tot_perm {how k:Int} {l m:List Rc} (h:l.Perm m):NN l→tot how k l=tot how k m:=by
 induction h with
 | nil=>intro _; rfl
 | cons x hp ih =>
  intro hn
  have h1:NN [x]:=fun y hy=>hn y (by simp at hy; simp [hy])
  have h2:=fun y hy=>hn y (List.mem_cons_of_mem x hy)
  have e1:=tot_append (how:=how) (k:=k) h1 h2
  have e2:=tot_append (how:=how) (k:=k) h1 (fun y hy=>h2 y (hp.mem_iff.2 hy))
  rw [←ih h2,←e1] at e2
  exact e2.symm
 | swap x y l =>
  intro hn
  have hx:NN [x]:=fun z hz=>hn z (by simp at hz; simp [hz])
  have hy:NN [y]:=fun z hz=>hn z (by simp at hz; simp [hz])
  have hl:NN l:=fun z hz=>hn z (by simp [hz])
  rw [show y::x::l=([y]++[x])++l from rfl,show x::y::l=([x]++[y])++l from rfl,tot_append (hy.app hx) hl,tot_append (hx.app hy) hl,tot_append hy hx,tot_append hx hy,joinO_comm how (tot how k [y])]
 | trans h1 h2 ih1 ih2 =>
  intro hn
  rw [ih1 hn,ih2 fun y hy=>hn y (h1.mem_iff.2 hy)]
def KeysUp (l:List Rc):Prop:=l.Pairwise fun a b=>a.key<b.key
theorem snoc_last (l:List Rc) (r:Rc):(l++[r])[(l++[r]).length-1]! = r:=by
 rw [getElem!_pos _ _ (by simp)]; simp
theorem snoc_set (l:List Rc) (r x:Rc):(l++[r]).set ((l++[r]).length-1) x=l++[x]:=by simp
theorem stepC_snoc (how:Int) (l:List Rc) (x r:Rc):stepC how (l++[x]) r=if how≠0∧x.key=r.key then l++[⟨r.key,comb how x.val r.val⟩] else l++[x]++[r]:=by
 unfold stepC
 rw [snoc_last,snoc_set]
 by_cases h:how≠0∧x.key=r.key
 · rw [if_pos h,if_pos ⟨h.1,by simp,h.2⟩]
 · rw [if_neg h,if_neg (fun h'=>h ⟨h'.1,h'.2.2⟩)]
theorem stepC_nil (how:Int) (r:Rc):stepC how [] r=[r]:=by simp [stepC]
theorem fold_spec {how:Int} (h0:how≠0) (l:List Rc):(l.Pairwise fun a b=>a.key≤b.key)→NN l →
 KeysUp (foldC how l)∧(∀k,tot how k (foldC how l)=tot how k l)∧NN (foldC how l)∧(∀x∈foldC how l,∃y∈l,y.key=x.key):=by
 induction l using snocRec with
 | nil=>intro _ _; exact ⟨.nil,fun _=>rfl,fun _ h=>absurd h List.not_mem_nil,fun _ h=>absurd h List.not_mem_nil⟩
 | snoc l r ih =>
  intro hs hn
  rw [List.pairwise_append] at hs
  have hn':NN l:=fun x hx=>hn x (List.mem_append_left _ hx)
  have hr:=hn r (by simp)
  obtain ⟨h1,h2,h3,h4⟩:=ih hs.1 hn'
  have hle:∀x∈foldC how l,x.key≤r.key:=fun x hx=>by
   obtain ⟨y,hy,e⟩:=h4 x hx
   rw [←e]
   exact hs.2.2 y hy r (by simp)
  rw [foldC_snoc]
  rcases eq_nil_or_snoc (foldC how l) with hf | ⟨m,x,hf⟩
  · rw [hf] at h2 ⊢
    rw [stepC_nil]
    refine ⟨by simp [KeysUp],fun k => ?_,fun y hy=>by simp at hy; rw [hy]; exact hr,fun y hy=>⟨r,by simp,by simp at hy; rw [hy]⟩⟩
    rw [tot_snoc,←h2 k,tot_one]
    rfl
  · rw [hf] at h1 h2 h3 h4 hle ⊢
    rw [stepC_snoc]
    have hxle:=hle x (by simp)
    have hxn:0≤x.val:=h3 x (by simp)
    have hmn:NN m:=fun y hy=>h3 y (List.mem_append_left _ hy)
    rw [KeysUp,List.pairwise_append] at h1
    by_cases he:x.key=r.key
    · rw [if_pos ⟨h0,he⟩]
      refine ⟨?_,fun k => ?_,?_,?_⟩
      · rw [KeysUp,List.pairwise_append]
        exact ⟨h1.1,by simp,fun a ha b hb=>by simp at hb; rw [hb,←he]; exact h1.2.2 a ha x (by simp)⟩
      · rw [tot_snoc,tot_snoc,←h2 k,tot_snoc]
        simp only [he]
        by_cases hk:r.key=k
        · rw [if_pos hk,if_pos hk,if_pos hk]
          cases ht:tot how k m with
          | none=>rfl
          | some a=>simp only [addO]; rw [comb_assoc (tot_nn hmn a ht) hxn hr]
        · rw [if_neg hk,if_neg hk,if_neg hk]
      · exact hmn.app fun y hy=>by simp at hy; rw [hy]; exact comb_nn hxn hr
      · intro y hy
        rcases List.mem_append.1 hy with hy | hy
        · obtain ⟨z,hz,e⟩:=h4 y (List.mem_append_left _ hy)
          exact ⟨z,List.mem_append_left _ hz,e⟩
        · simp at hy; exact ⟨r,by simp,by rw [hy]⟩
    · rw [if_neg (fun h=>he h.2)]
      refine ⟨?_,fun k => ?_,?_,?_⟩
      · rw [KeysUp,List.pairwise_append]
        refine ⟨by rw [List.pairwise_append]; exact h1,by simp,fun a ha b hb => ?_⟩
        simp at hb
        rw [hb]
        rcases List.mem_append.1 ha with ha | ha
        · have:=h1.2.2 a ha x (by simp); omega
        · simp at ha; rw [ha]; omega
      · rw [tot_snoc,tot_snoc how k l,h2 k]
      · exact h3.app fun y hy=>by simp at hy; rw [hy]; exact hr
      · intro y hy
        rcases List.mem_append.1 hy with hy | hy
        · obtain ⟨z,hz,e⟩:=h4 y hy
          exact ⟨z,List.mem_append_left _ hz,e⟩
        · simp at hy; exact ⟨r,by simp,by rw [hy]⟩
theorem tot_none {how k:Int} {l:List Rc}:(∀x∈l,x.key≠k)→tot how k l=none:=by
 induction l using snocRec with
 | nil=>intro _; rfl
 | snoc l r ih =>
  intro h
  rw [tot_snoc,if_neg (h r (by simp)),ih fun x hx=>h x (List.mem_append_left _ hx)]
theorem tot_cons {how k:Int} {x:Rc} {l:List Rc} (hn:NN (x::l)):tot how k (x::l)=joinO how (if x.key=k then some x.val else none) (tot how k l):=by
 rw [←List.singleton_append,tot_append (fun y hy=>hn y (by simp at hy; simp [hy])) (fun y hy=>hn y (by simp [hy])),tot_one]
theorem keys_unique {how:Int}:∀{a b:List Rc},KeysUp a→KeysUp b→NN a→NN b→(∀k,tot how k a=tot how k b)→a=b
 | [],[],_,_,_,_,_=>rfl
 | [],y::b,_,hb,_,nb,h=>by
  have:=h y.key
  rw [tot_cons nb,if_pos rfl] at this
  cases ht:tot how y.key b<;>rw [ht] at this<;>simp [tot,joinO] at this
 | x::a,[],ha,_,na,_,h=>by
  have:=h x.key
  rw [tot_cons na,if_pos rfl] at this
  cases ht:tot how x.key a<;>rw [ht] at this<;>simp [tot,joinO] at this
 | x::a,y::b,ha,hb,na,nb,h=>by
  have hax:=List.pairwise_cons.1 ha
  have hby:=List.pairwise_cons.1 hb
  have na':NN a:=fun z hz=>na z (by simp [hz])
  have nb':NN b:=fun z hz=>nb z (by simp [hz])
  have n1:∀k,k≤x.key→tot how k a=none:=fun k hk=>tot_none fun z hz=>by have:=hax.1 z hz; omega
  have n2:∀k,k≤y.key→tot how k b=none:=fun k hk=>tot_none fun z hz=>by have:=hby.1 z hz; omega
  have hkey:x.key=y.key:=by
   rcases Int.lt_trichotomy x.key y.key with hlt | he | hlt
   · have:=h x.key
     rw [tot_cons na,tot_cons nb,if_pos rfl,if_neg (by omega),n1 _ (Int.le_refl _),n2 _ (by omega)] at this
     cases this
   · exact he
   · have:=h y.key
     rw [tot_cons na,tot_cons nb,if_pos rfl,if_neg (by omega),n1 _ (by omega),n2 _ (Int.le_refl _)] at this
     cases this
  have hval:x.val=y.val:=by
   have:=h x.key
   rw [tot_cons na,tot_cons nb,if_pos rfl,if_pos hkey.symm,n1 _ (Int.le_refl _),n2 _ (by omega)] at this
   simpa [joinO] using this
  have hxy:x=y:=by cases x; cases y; simp at hkey hval; simp [hkey,hval]
  subst hxy
  have hk:∀k,tot how k a=tot how k b:=fun k=>by
   have hk:=h k
   rw [tot_cons na,tot_cons nb] at hk
   by_cases e:x.key=k
   · rw [n1 k (by omega),n2 k (by omega)]
   · rw [if_neg e] at hk
     cases h1:tot how k a<;>cases h2:tot how k b<;>rw [h1,h2] at hk<;>first | rfl | exact hk
  rw [keys_unique hax.2 hby.2 na' nb' hk]
theorem rises_keys {l:List Rc} (h:Rises l):l.Pairwise fun a b=>a.key≤b.key:=h.imp fun {a b} h=>by
 rw [←Bool.not_eq_true,ltR_iff] at h
 omega
theorem NN.perm {l m:List Rc} (h:l.Perm m) (hn:NN l):NN m:=fun x hx=>hn x (h.mem_iff.2 hx)
theorem sortedG_spec {how:Int} (h0:how≠0) {l:List Rc} (hn:NN l) :
 KeysUp (sortedG how l)∧(∀k,tot how k (sortedG how l)=tot how k l)∧NN (sortedG how l)∧(∀x∈sortedG how l,∃y∈l,y.key=x.key):=by
 obtain ⟨h1,h2,h3,h4⟩:=fold_spec h0 (sortL l) (rises_keys (sortL_rises l)) (hn.perm (sortL_perm l).symm)
 exact ⟨h1,fun k=>(h2 k).trans (tot_perm (sortL_perm l) (hn.perm (sortL_perm l).symm)),h3,fun x hx=>(h4 x hx).imp fun y hy=>⟨(sortL_perm l).mem_iff.1 hy.1,hy.2⟩⟩
end Go.Proofs.YtkpiakgmkpbikaaGreatDoor
