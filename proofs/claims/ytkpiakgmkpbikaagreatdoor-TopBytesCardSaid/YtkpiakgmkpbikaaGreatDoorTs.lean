/- Steps of the proof. -/
import Derived.Test.YtkpiakgmkpbikaaGreatDoorTrH
import Derived.Test.YtkpiakgmkpbikaaGreatDoorByP
set_option linter.unusedVariables false
namespace Go.Proofs.YtkpiakgmkpbikaaGreatDoor
open HH (Hd)
def rcOf (h:Hd):Rc:=⟨h.key,h.val⟩
theorem rcOf_ge {a b:Hd} (h:HH.ltR a b=false):ltR (rcOf a) (rcOf b)=false:=by
 rw [←Bool.not_eq_true,HH.ltR_iff] at h
 rw [←Bool.not_eq_true,ltR_iff]
 simp only [rcOf]
 omega
theorem set_flat {α:Type} [Inhabited α]:∀(rss:List (List α)) (i:Nat) (ys:List α),i<rss.length→((rss.set i ys).flatten++rss[i]!).Perm (ys++rss.flatten)
 | [],i,ys,h=>by simp at h
 | r::rss,0,ys,_=>by
  have:(r::rss)[0]! = r:=rfl
  rw [this,List.set_cons_zero,List.flatten_cons,List.flatten_cons,lx]
  exact (List.perm_append_comm).append_left ys
 | r::rss,i+1,ys,h=>by
  have ih:=set_flat rss i ys (by simpa using h)
  have:(r::rss)[i+1]! = rss[i]! := by simp
  rw [this,List.set_cons_succ,List.flatten_cons,List.flatten_cons,lx]
  refine (ih.append_left r).trans ?_
  rw [←lx,←lx]
  exact (List.perm_append_comm).append_right _
theorem set_get' {α:Type} [Inhabited α] (l:List α) (i j:Nat) (x:α) (hj:j<l.length):(l.set i x)[j]! = if i=j then x else l[j]! := by
 rw [getElem!_pos _ j (by simpa using hj),List.getElem_set,getElem!_pos l j hj]
structure MInv (n:Nat) (hs:List Hd) (rss:List (List Rc)):Prop where
 ok:HH.HeapOK hs
 len:rss.length=n
 runs:∀h∈hs,∃i:Nat,i<n∧h.run=(i:Int)
 up:∀i,i<n→Rises rss[i]!
 wit:∀i,i<n→∀y∈rss[i]!,∃h∈hs,h.run=(i:Int)∧ltR y (rcOf h)=false
structure MBut (n r:Nat) (hs:List Hd) (rss:List (List Rc)):Prop where
 ok:HH.HeapOK hs
 len:rss.length=n
 runs:∀h∈hs,∃i:Nat,i<n∧h.run=(i:Int)
 up:∀i,i<n→Rises rss[i]!
 wit:∀i,i<n→i≠r→∀y∈rss[i]!,∃h∈hs,h.run=(i:Int)∧ltR y (rcOf h)=false
def allOf (hs:List Hd) (rss:List (List Rc)):List Rc:=hs.map rcOf++rss.flatten
def nextH (hs:List Hd) (rss:List (List Rc)) (i:Nat):List Hd:=match rss[i]! with
 | []=>hs
 | x::_=>HH.pushL hs ⟨x.key,x.val,i⟩
def nextR (rss:List (List Rc)) (i:Nat):List (List Rc):=rss.set i (rss[i]!.drop 1)
theorem next_inv {n r:Nat} {hs:List Hd} {rss:List (List Rc)} (h:MBut n r hs rss) (hr:r<n):MInv n (nextH hs rss r) (nextR rss r)∧(allOf (nextH hs rss r) (nextR rss r)).Perm (allOf hs rss):=by
 have hlen:=h.len
 have hup:=h.up r hr
 have hsf:=set_flat rss r (rss[r]!.drop 1) (by omega)
 have hget:∀i,i<n→(nextR rss r)[i]! = if r=i then rss[r]!.drop 1 else rss[i]! := fun i hi=>set_get' _ _ _ _ (by omega)
 cases hx:rss[r]! with
 | nil =>
  have e1:nextH hs rss r=hs:=by simp only [nextH,hx]
  rw [e1]
  rw [hx] at hget hsf
  refine ⟨⟨h.ok,by simp [nextR,hlen],h.runs,fun i hi=>?_,fun i hi y hy=>?_⟩,?_⟩
  · rw [hget i hi];split
    · exact .nil
    · exact h.up i hi
  · rw [hget i hi] at hy
    by_cases e:r=i
    · rw [if_pos e] at hy;simp at hy
    · rw [if_neg e] at hy;exact h.wit i hi (fun e'=>e e'.symm) y hy
  · refine List.Perm.append_left _ ?_
    simpa [nextR,hx] using hsf
 | cons x l =>
  have e1:nextH hs rss r=HH.pushL hs ⟨x.key,x.val,r⟩:=by simp only [nextH,hx]
  rw [e1]
  rw [hx] at hget hsf hup
  have hp:=HH.push_perm hs ⟨x.key,x.val,r⟩
  change (HH.pushL hs ⟨x.key,x.val,r⟩).Perm _ at hp
  have hxl:=List.pairwise_cons.1 hup
  refine ⟨⟨HH.push_ok h.ok _,by simp [nextR,hlen],fun y hy=>?_,fun i hi=>?_,fun i hi y hy=>?_⟩,?_⟩
  · rcases List.mem_cons.1 (hp.mem_iff.1 hy) with h1 | h1
    · exact ⟨r,hr,by rw [h1]⟩
    · exact h.runs y h1
  · rw [hget i hi];split
    · exact hxl.2
    · exact h.up i hi
  · rw [hget i hi] at hy
    by_cases e:r=i
    · rw [if_pos e] at hy
      exact ⟨⟨x.key,x.val,r⟩,hp.mem_iff.2 List.mem_cons_self,by rw [e],hxl.1 y hy⟩
    · rw [if_neg e] at hy
      obtain ⟨g,hg,h1,h2⟩:=h.wit i hi (fun e'=>e e'.symm) y hy
      exact ⟨g,hp.mem_iff.2 (List.mem_cons_of_mem _ hg),h1,h2⟩
  · have p1:((HH.pushL hs ⟨x.key,x.val,r⟩).map rcOf).Perm (x::hs.map rcOf):=hp.map rcOf
    have p2:(x::(nextR rss r).flatten).Perm rss.flatten:=by
     have:((nextR rss r).flatten++(x::l)).Perm (l++rss.flatten):=by simpa [nextR,hx] using hsf
     have p3:(l++(x::(nextR rss r).flatten)).Perm (l++rss.flatten):=by
      refine List.Perm.trans ?_ this
      rw [show x::(nextR rss r).flatten=[x]++(nextR rss r).flatten from rfl,←lx]
      refine List.perm_append_comm.trans (List.Perm.append_left _ ?_)
      exact List.perm_append_comm
     exact (List.perm_append_left_iff l).1 p3
    unfold allOf
    refine (p1.append_right _).trans ?_
    rw [List.cons_append]
    refine List.Perm.trans ?_ (p2.append_left _)
    exact List.perm_middle.symm
theorem pop_inv {n:Nat} {hs:List Hd} {rss:List (List Rc)} (h:MInv n hs rss) (h0:0<hs.length):∃r:Nat,r<n∧hs[0]!.run=(r:Int)∧MBut n r (HH.popL hs) rss∧(rcOf hs[0]! :: allOf (HH.popL hs) rss).Perm (allOf hs rss)∧∀y∈allOf hs rss,ltR y (rcOf hs[0]!)=false:=by
 have hp:=HH.pop_perm hs h0
 have hm:hs[0]! ∈ hs:=by rw [getElem!_pos hs 0 h0];exact List.getElem_mem _
 obtain ⟨r,hr,e⟩:=h.runs _ hm
 have hle:∀g∈hs,ltR (rcOf g) (rcOf hs[0]!)=false:=fun g hg=>rcOf_ge (HH.heap_le h.ok hg)
 refine ⟨r,hr,e,⟨HH.pop_ok h.ok,h.len,fun g hg=>h.runs g (hp.mem_iff.2 (List.mem_cons_of_mem _ hg)),h.up,fun i hi hne y hy=>?_⟩,?_,fun y hy=>?_⟩
 · obtain ⟨g,hg,h1,h2⟩:=h.wit i hi y hy
   refine ⟨g,?_,h1,h2⟩
   rcases List.mem_cons.1 (hp.mem_iff.1 hg) with h3 | h3
   · rw [h3,e] at h1;omega
   · exact h3
 · unfold allOf
   rw [←List.cons_append]
   exact ((hp.map rcOf).symm).append_right _
 · rcases List.mem_append.1 hy with hy | hy
   · obtain ⟨g,hg,rfl⟩:=List.mem_map.1 hy
     exact hle g hg
   · obtain ⟨ys,h1,h2⟩:=List.mem_flatten.1 hy
     obtain ⟨i,hi,rfl⟩:=List.getElem_of_mem h1
     obtain ⟨g,hg,_,h4⟩:=h.wit i (by rw [←h.len];exact hi) y (by rw [getElem!_pos rss i hi];exact h2)
     exact geR_trans h4 (hle g hg)
structure MDone (n:Nat) (T:List Rc) (done:List Rc) (hs:List Hd) (rss:List (List Rc)):Prop where
 inv:MInv n hs rss
 rises:Rises done
 le:∀a∈done,∀y∈allOf hs rss,ltR y a=false
 perm:(done++allOf hs rss).Perm T
theorem MDone.step {n:Nat} {T done:List Rc} {hs:List Hd} {rss:List (List Rc)} (h:MDone n T done hs rss) (h0:0<hs.length) :
 ∃r:Nat,r<n∧hs[0]!.run=(r:Int)∧MDone n T (done++[rcOf hs[0]!]) (nextH (HH.popL hs) rss r) (nextR rss r)∧rcOf hs[0]! ∈ T∧(allOf (nextH (HH.popL hs) rss r) (nextR rss r)).length+1=(allOf hs rss).length:=by
 obtain ⟨r,hr,e,hb,hp,hle⟩:=pop_inv h.inv h0
 obtain ⟨hi,hp2⟩:=next_inv hb hr
 have hp3:(rcOf hs[0]! :: allOf (nextH (HH.popL hs) rss r) (nextR rss r)).Perm (allOf hs rss):=(hp2.cons _).trans hp
 have hx:rcOf hs[0]! ∈ allOf hs rss:=hp3.mem_iff.1 List.mem_cons_self
 refine ⟨r,hr,e,⟨hi,?_,fun a ha y hy=>?_,?_⟩,h.perm.mem_iff.1 (List.mem_append_right _ hx),by simpa using hp3.length_eq⟩
 · rw [Rises,List.pairwise_append]
   exact ⟨h.rises,by simp,fun a ha b hb=>by rw [List.mem_singleton.1 hb];exact h.le a ha _ hx⟩
 · have hy':y∈allOf hs rss:=hp3.mem_iff.1 (List.mem_cons_of_mem _ hy)
   rcases List.mem_append.1 ha with ha | ha
   · exact h.le a ha y hy'
   · rw [List.mem_singleton.1 ha];exact hle y hy'
 · rw [lx]
   exact (List.Perm.append_left _ hp3).trans h.perm
theorem MDone.fin {n:Nat} {T done:List Rc} {rss:List (List Rc)} (h:MDone n T done [] rss):done=sortL T:=by
 have hf:rss.flatten=[]:=by
  rw [List.eq_nil_iff_forall_not_mem]
  intro y hy
  obtain ⟨ys,h1,h2⟩:=List.mem_flatten.1 hy
  obtain ⟨i,hi,rfl⟩:=List.getElem_of_mem h1
  obtain ⟨g,hg,_⟩:=h.inv.wit i (by rw [←h.inv.len];exact hi) y (by rw [getElem!_pos rss i hi];exact h2)
  cases hg
 have hp:=h.perm
 simp [allOf,hf] at hp
 exact sortL_of hp h.rises
structure MStart (n k:Nat) (xss:List (List Rc)) (hs:List Hd) (rss:List (List Rc)):Prop where
 inv:MInv n hs rss
 none:∀i,k≤i→i<n→rss[i]! = []
 perm:(allOf hs rss).Perm (xss.take k).flatten
theorem MStart.nil (xss:List (List Rc)):MStart xss.length 0 xss [] (List.replicate xss.length []) where
 inv:=⟨fun j h0 h=>by simp at h,by simp,fun _ h=>absurd h List.not_mem_nil,fun i hi=>by rw [getElem!_pos _ i (by simpa using hi),List.getElem_replicate];exact .nil,fun i hi y hy=>by rw [getElem!_pos _ i (by simpa using hi),List.getElem_replicate] at hy;cases hy⟩
 none:=fun i _ hi=>by rw [getElem!_pos _ i (by simpa using hi),List.getElem_replicate]
 perm:=by simp [allOf]
theorem MStart.step {n k:Nat} {xss:List (List Rc)} {hs:List Hd} {rss:List (List Rc)} (h:MStart n k xss hs rss) (hk:k<n) (hn:n=xss.length) :
 MStart n (k+1) xss (nextH hs (rss.set k (sortL xss[k]!)) k) (nextR (rss.set k (sortL xss[k]!)) k):=by
 have hlen:=h.inv.len
 have hg:∀i,i<n→(rss.set k (sortL xss[k]!))[i]! = if k=i then sortL xss[k]! else rss[i]! := fun i hi=>set_get' _ _ _ _ (by omega)
 have hb:MBut n k hs (rss.set k (sortL xss[k]!)):=⟨h.inv.ok,by simpa using hlen,h.inv.runs,fun i hi=>by
  rw [hg i hi];split
  · exact sortL_rises _
  · exact h.inv.up i hi,fun i hi hne y hy=>by
  rw [hg i hi,if_neg (fun e=>hne e.symm)] at hy;exact h.inv.wit i hi y hy⟩
 obtain ⟨hi,hp⟩:=next_inv hb hk
 refine ⟨hi,fun i h1 h2=>?_,hp.trans ?_⟩
 · rw [nextR,set_get' _ _ _ _ (by simp;omega),if_neg (by omega),hg i h2,if_neg (by omega)]
   exact h.none i (by omega) h2
 · have hs1:=set_flat rss k (sortL xss[k]!) (by omega)
   rw [h.none k (Nat.le_refl _) hk,List.append_nil] at hs1
   have hp2:=h.perm
   unfold allOf at hp2 ⊢
   have htk:xss.take (k+1)=xss.take k++[xss[k]!]:=take_get xss (by omega)
   rw [htk,List.flatten_append,List.flatten_singleton]
   refine (hs1.append_left _).trans ?_
   rw [←lx]
   refine (List.perm_append_comm.append_right _).trans ?_
   rw [lx]
   exact ((sortL_perm _).append hp2).trans List.perm_append_comm
theorem MStart.done {n:Nat} {xss:List (List Rc)} {hs:List Hd} {rss:List (List Rc)} (h:MStart n n xss hs rss) (hn:n=xss.length):MDone n xss.flatten [] hs rss where
 inv:=h.inv
 rises:=.nil
 le:=fun _ h=>absurd h List.not_mem_nil
 perm:=by have:=h.perm;rw [List.take_of_length_le (by omega)] at this;simpa using this
theorem mnext_spec {F:Fm} (K:Fm→Prop) (hKF:∀F':Fm,(∀b o,F.at_ b o→F'.at_ b o)→K F') (b6 b7 br n:Nat) (vs:List Sv) (rss:List (List Rc)) (hs:List Hd) (sH:Hl) (i:Nat) (hi:i<n) (hvl:vs.length=n) (hrl:rss.length=n)
 (hra:∀F',K F'→∀j,j<n→Arg recE F' vs[j]!.v rss[j]!) (hh:HH.HeapAt b7 hs sH) (hn:hs.length<4000000) (hn2:n<1000000) (hrn:rss[i]!.length<1000000) :
 Spec Tryz.prog 278 #[.int .i64 (i:Int),.pointer (some ⟨b6,0,none⟩),.pointer (some ⟨b7,0,none⟩)] F ((b6,cellsO [.slice (some ⟨br,0,none⟩) n n] 361)::(br,rowS slRE vs [])::sH) fun _ s=>∃vs' sH',s=(b6,cellsO [.slice (some ⟨br,0,none⟩) n n] 361)::(br,rowS slRE vs' [])::sH'∧vs'.length=n∧HH.HeapAt b7 (nextH hs rss i) sH'∧∀F',K F'→∀j,j<n→Arg recE F' vs'[j]!.v (nextR rss i)[j]! := by
 have hg:∀j,j<n→(nextR rss i)[j]! = if i=j then rss[i]!.drop 1 else rss[j]! := fun j hj=>set_get' _ _ _ _ (by omega)
 have hai:=hra F (hKF F fun _ _ h=>h) i hi
 have hra1:=fun F' h=>hra F' h i hi
 obtain ⟨s,hsv⟩:∃s,vs[i]! = s:=⟨_,rfl⟩
 obtain ⟨p,m,c⟩:=s
 rw [hsv] at hai hra1
 have hm:m=rss[i]!.length:=hai.cap.1
 subst hm
 unfold nextH
 obtain ⟨ys,hys⟩:∃ys,rss[i]! = ys:=⟨_,rfl⟩
 rw [hys] at hai hg hsv hrn hra1 ⊢
 refine Spec.of (n:=27) (vs:=[.int .i64 (i:Int),.pointer (some ⟨b6,0,none⟩),.pointer (some ⟨b7,0,none⟩)]) Tryz.func278 rfl Tryz.ntmps278 rfl ?_
 refine sj [.r,.p,.p,.r,.p,.p] Z<|lj Z Z<|mj Z<|uj Z (Pv.ixA (i) rfl rfl (by omega) (by omega))<|rj Z (Ev.as (.slice p ys.length c) (Ev.ldR (E:=slRE) i rfl (Nat.zero_add _) (by omega)) (congrArg slRE.val hsv))<|uj Z (Pv.lenS Z)<|uj Z (Pv.gtr Z Z)<|nl<|cj Z (fun h9=>?_) (fun h9=>?_)
 · simp only [dt] at h9
   cases ys with
   | nil=>simp at h9
   | cons x l =>
   obtain ⟨b,off,c',e,hcc⟩:=hai.block (by simp)
   cases e
   refine sj [.r,.p,.p,.r,.p,.r,.p,.p,.e] Z<|lj Z Z<|mj Z<|uj Z (Pv.ixA (i) rfl rfl (by omega) (by omega))<|rj Z (Ev.as (.slice (some ⟨b,off,none⟩) (x::l).length c) (Ev.ldR (E:=slRE) i rfl (Nat.zero_add _) (by omega)) (congrArg slRE.val hsv))<|uj Z (Pv.ixA 0 rfl rfl rfl (by simp))<|rj Z (Ev.as (recV x) (Ev.ldS 0 hai.src rfl rfl (by simp) (by simp)) rfl)<|mj Z<|uj Z (Pv.build (c:=#[.int .u64 x.key,.int .u64 x.val,.int .i64 (i:Int)]) Z Z)<|Rg.callH Z Z Z (mz Z) (fun F' hF'=>HH.push_at F' b7 hs ⟨x.key,x.val,(i:Int)⟩ sH hh (by omega)) rfl ?_
   rintro v18 sH' hh'
   refine nl ?_
   refine Vc.draw [8] (sd [(0,.read),(1,.pure),(2,.read),(3,.pure),(4,.pure),(5,.read),(6,.pure),(7,.pure),(8,.eff)]) mixed (by kernel_rfl)<|lj Z Z<|mj Z<|lj Z Z<|mj Z<|uj Z (Pv.ixA (i) rfl rfl (by omega) (by omega))<|rj Z (Ev.as (.slice (some ⟨b,off,none⟩) (x::l).length c) (Ev.ldR (E:=slRE) i rfl (Nat.zero_add _) (by omega)) (congrArg slRE.val hsv))<|uj Z (Pv.slFrom 1 rfl rfl (by simp) hcc)<|uj Z (Pv.ixA (i) rfl rfl (by omega) (by omega))<|Rg.storeR (E:=slRE) (z:=⟨some ⟨b,if c=1 then off else off+1*2,none⟩,(x::l).length-1,c-1⟩) i rfl rfl rfl rfl rfl rfl (Nat.zero_add _) (by omega) rfl<|nl ?_
   exact Vc.fin (Vc.retsH rfl .nil (⟨vs.set i ⟨some ⟨b,if c=1 then off else off+1*2,none⟩,(x::l).length-1,c-1⟩,sH',rfl,by simpa using hvl,hh',fun F' hK j hj=>by
    rw [hg j hj,set_get' _ _ _ _ (by omega)]
    by_cases e:i=j
    · rw [if_pos e,if_pos e]
      have:=(hra1 F' hK).sub 1 (x::l).length (by simp) (Nat.le_refl _)
      rwa [List.take_of_length_le (by simp)] at this
    · rw [if_neg e,if_neg e];exact hra F' hK j hj⟩) pulled)
 · simp only [df] at h9
   obtain rfl:ys=[]:=List.length_eq_zero_iff.1 (by omega)
   refine kj ?_
   exact Vc.fin (Vc.retsH rfl .nil (⟨vs,sH,rfl,hvl,hh,fun F' hK j hj=>by
    rw [hg j hj]
    by_cases e:i=j
    · subst e;rw [if_pos rfl,hsv];exact hra1 F' hK
    · rw [if_neg e];exact hra F' hK j hj⟩) pulled)
theorem flat_mem_len {xss:List (List Rc)} {i:Nat} (h:i<xss.length):xss[i]!.length≤xss.flatten.length:=by
 rw [getElem!_pos xss i h]
 exact (List.sublist_flatten_of_mem (List.getElem_mem h)).length_le
theorem allOf_len (hs:List Hd) (rss:List (List Rc)):(allOf hs rss).length=hs.length+rss.flatten.length:=by simp [allOf]
set_option maxHeartbeats 1000000 in
theorem merge_spec {F:Fm} {va:Value} {ls:List Sv} {xss:List (List Rc)} (ha:ArgRR F va ls xss) (hn:xss.length<100000) (hT:xss.flatten.length<1000000) (hR:NR xss.flatten) (how:Int) :
 Spec Tryz.prog 261 #[va,.int .i64 how] F [] fun v s=>∃u er,v=.tuple #[u,.int .i64 er]∧((okHow how=true∧er=0∧Own recE u (sortedG how xss.flatten) s)∨(okHow how=false∧er=1∧u=.slice none 0 0)):=by
 obtain ⟨p,c,rfl⟩:=ha.top.shape
 have hll:=ha.len
 obtain ⟨n,hnn⟩:∃n,n=xss.length:=⟨_,rfl⟩
 rw [←hnn] at hll hn
 rw [hll]
 have hra:=ha.rows
 rw [←hnn] at hra
 have hatop:=ha.top
 rw [hll] at hatop
 refine Spec.of (n:=59) (vs:=[.slice p n c,.int .i64 how]) Tryz.func261 rfl Tryz.ntmps261 rfl ?_
 refine sj [.p,.p] Z<|aj Z<|aj Z<|nl<|wj<|sj [.p,.e,.p] Z<|mj Z<|Rg.callP Z Z Z (mz Z) (right_spec _ _) ?_
 rintro _ rfl
 refine uj Z (Pv.not Z)<|nl<|cj Z (fun h16=>?_) (fun h16=>?_)
 · have hno:okHow how=false:=by simpa only [okHow,Bool.not_eq_true'] using h16
   refine sj [.p,.p] Z<|aj Z<|aj Z<|nl ?_
   exact vr (hl':=[]) rfl (.cons (.tmp rfl) (tz Z)) ⟨_,_,rfl,.inr ⟨hno,rfl,rfl⟩⟩ pulled
 · have hok:okHow how=true:=by simpa [okHow] using h16
   refine kj<|sj [.p,.p,.e,.e,.e] Z<|mj Z<|uj Z (Pv.lenS Z)<|Rg.makeN slRE ⟨none,0,0⟩ rfl rfl rfl rfl rfl (by simp [maxLen];omega) (fun b19 own19=>?_)
   refine Rg.alloc Z Z Z Z (fun b6=>?_)
   refine Rg.store Z Z Z Z Z Z Z Z<|nl<|sj [.e] Z<|Rg.alloc Z Z Z Z (fun b7=>?_)
   refine nl<|sj [.p,.p] Z<|uj Z (Pv.mkF Z Z)<|aj Z<|nl<|wj<|sj [.p,.p,.p] Z<|mj Z<|uj Z (Pv.lenS Z)<|mj Z<|nl<|bj ?_
   refine Vc.loop6 (fun (k:Nat) (vs:List Sv) (rss:List (List Rc)) (hs:List Hd) (sb sH:Hl)=>k≤n∧MStart n k xss hs rss∧(vs.length=n∧∀F':Fm,(∀b o,(b,o)∈sb→F'.at_ b o)→∀j,j<n→Arg recE F' vs[j]!.v rss[j]!)∧HH.HeapAt b7 hs sH) (fun k vs rss hs sb sH=>[(1,.int .i64 how),(6,.pointer (some ⟨b6,0,none⟩)),(7,.pointer (some ⟨b7,0,none⟩)),(8,.func (.func 278) #[] #[.pointer (some ⟨b6,0,none⟩),.pointer (some ⟨b7,0,none⟩)]),(21,.slice p n c),(22,.int .i64 (n:Int)),(23,.int .i64 (k:Int))]) (fun k vs rss hs sb sH=>(b6,cellsO [.slice (some ⟨b19,0,none⟩) n n] 361)::(b19,rowS slRE vs [])::(sH++sb)) (fun k vs rss hs sb sH=>n-k) 0 (List.replicate n ⟨none,0,0⟩) (List.replicate n []) [] [] _ ⟨Nat.zero_le _,hnn▸MStart.nil xss,⟨by simp,fun F' _ j hj=>by rw [getElem!_pos _ j (by simpa using hj),getElem!_pos _ j (by simpa using hj),List.getElem_replicate,List.getElem_replicate];exact Arg.nil⟩,HH.heap_nil b7⟩ (.cons rfl (.cons rfl (.cons rfl (.cons rfl (.cons rfl (.cons rfl (.cons rfl .nil))))))) pulled ?_
   rintro k vs rss hs sb sH ⟨hk,hms,⟨hvl,hrows⟩,hheap⟩
   refine sj [.p] Z<|uj Z (Pv.lss Z Z)<|nl<|wj<|cj Z (fun h24=>?_) (fun h24=>?_)
   · simp only [dt] at h24
     have hk1:k<n:=by omega
     obtain ⟨bl,off,c',e,_⟩:=hatop.block (by omega)
     rw [hll] at e
     cases e
     have hxk:=hra k hk1
     have hxl:=flat_mem_len (xss:=xss) (i:=k) (by omega)
     have hxr:NR xss[k]! := fun r hr=>hR r (List.mem_flatten.2 ⟨_,by rw [getElem!_pos xss k (by omega)];exact List.getElem_mem _,hr⟩)
     have hms1:=hms.step hk1 hnn
     have hal:=hms.perm.length_eq
     have hfl:(xss.take k).flatten.length≤xss.flatten.length:=by
      conv=>rhs;rw [←List.take_append_drop k xss]
      rw [List.flatten_append,ly];omega
     rw [allOf_len] at hal
     obtain ⟨sk,hsk⟩:∃s,ls[k]! = s:=⟨_,rfl⟩
     obtain ⟨pk,mk,ck⟩:=sk
     rw [hsk] at hxk
     obtain rfl:mk=xss[k]!.length:=hxk.cap.1
     generalize xss[k]! = ys at hxk hxl hxr hms1 hsk
     refine kj<|wj<|bj<|sj [.p,.p,.r,.p,.p] Z<|mj Z<|uj Z (Pv.ixA (k) rfl rfl (by omega) (by omega))<|rj Z (Ev.as (.slice pk ys.length ck) (Ev.ldS (E:=slRE) k hatop.src rfl rfl rfl (by omega)) (congrArg slRE.val hsk))<|aj Z<|aj Z<|nl<|wj ?_
     refine Vc.drawS [6] (sd [(0,.read),(1,.pure),(2,.pure),(3,.eff),(4,.eff),(5,.pure),(6,.eff)]) [(b6,cellsO [.slice (some ⟨b19,0,none⟩) n n] 361)] pulled mixed (by kernel_rfl)<|lj Z Z<|mj Z<|mj Z<|Rg.callHN (pre:=[]) Z Z Z (mz Z) (fun F' hF'=>values_specr) ?_
     rintro _ _ ⟨bs,rfl,rfl⟩
     refine Rg.callHN (pre:=[(bs,cellsO [.slice pk ys.length ck] 289)]) rfl rfl rfl (mz Z) (fun F' hF'=>sortedFunc_specr (F:=F') (Sp:=fun p=>p <+: ys) (S:=fun p=>p=ys) cfR cfR_swo 282 (lb:=[.pointer (some ⟨bs,0,none⟩)]) (hi:=[(bs,cellsO [.slice pk ys.length ck] 289)]) (fun F'' h=>values_iterr (hxk.mono fun b o hb=>h b o (hF' b o (.inr hb))) (by omega) bs) (fun pre x hp=>by have:=hp.length_le;simp at this;omega) (fun ys e=>by rw [e];omega) (fun F'' h ys _ x _ y _=>compare_spec _ x y)) ?_
     rintro v32 s32 ⟨ys',zs,rfl,own32,hp,hs32⟩
     obtain rfl:=sorted_of hp hs32
     obtain ⟨q32,c32,rfl⟩:=own32.shape
     refine uj Z (Pv.ixA (k) rfl rfl (by omega) (by omega))<|Rg.storeR (E:=slRE) (z:=⟨q32,(sortL ys').length,c32⟩) k rfl rfl rfl rfl rfl rfl (Nat.zero_add _) (by omega) rfl ?_
     have hrows1:∀F':Fm,(∀b o,(b,o)∈s32++sb→F'.at_ b o)→∀j,j<n→Arg recE F' ((vs.set k ⟨q32,(sortL ys').length,c32⟩)[j]!).v (rss.set k (sortL ys'))[j]! := fun F' hF' j hj=>by
      rw [set_get' _ _ _ _ (by omega),set_get' _ _ _ _ (by rw [hms.inv.len];exact hj)]
      by_cases e:k=j
      · rw [if_pos e,if_pos e];exact Arg.own own32 fun b o hb=>hF' b o (List.mem_append_left _ hb)
      · rw [if_neg e,if_neg e];exact hrows F' (fun b o hb=>hF' b o (List.mem_append_right _ hb)) j hj
     have hsl:(sortL ys').length=ys'.length:=sortL_length _
     refine nl<|tj [.p,.p,.e] Z<|mj Z<|mj Z<|Rg.callH Z Z Z (run_callV rfl rfl) (fun F' hF'=>mnext_spec (F:=F') (fun F''=>∀b o,(b,o)∈s32++sb→F''.at_ b o) (fun F'' h b o hb=>h b o (hF' b o (.inl (by simp at hb ⊢; rcases hb with h | h<;>simp [h])))) b6 b7 b19 n (vs.set k ⟨q32,(sortL ys').length,c32⟩) (rss.set k (sortL ys')) hs sH k hk1 (by simpa using hvl) (by simpa using hms.inv.len) hrows1 hheap (by omega) (by omega) (by rw [set_get' _ _ _ _ (by rw [hms.inv.len];exact hk1),if_pos rfl,hsl];omega)) rfl ?_
     rintro v36 _ ⟨vs1,sH1,rfl,hvl1,hheap1,hrows2⟩
     refine nl<|dj<|tj [.p,.p] Z<|uj Z (Pv.asI (k+1) (Pv.add rfl rfl (by omega)) (by omega))<|mj Z<|nl ?_
     exact Vc.inv6 (k+1) vs1 _ _ (s32++sb) sH1 ⟨⟨hk1,hms1,⟨hvl1,hrows2⟩,hheap1⟩,by omega⟩ (.cons rfl (.cons rfl (.cons rfl (.cons rfl (.cons rfl (.cons rfl (.cons rfl .nil))))))) pulled
   · simp only [df] at h24
     obtain rfl:n=k:=by omega
     have hmd:=hms.done hnn
     refine Vc.exit Z<|sj [.p,.p,.e,.e] Z<|mj Z<|uj Z (Pv.build (c:=#[.int .i64 how,.slice none 0 0]) Z Z)<|Rg.alloc Z Z Z Z (fun b11=>?_)
     refine Rg.storeA Z Z Z Z Z Z Z Z<|nl<|wj<|sj [.e,.p,.p,.p,.e,.e,.p] Z<|Rg.callH Z Z Z (mz Z) (fun F' hF'=>HH.pop_hd F' b7 _ _ hheap (by have:=hms.perm.length_eq;rw [allOf_len,List.take_of_length_le (by omega)] at this;omega)) rfl ?_
     rintro _ sH1 ⟨rfl,hheap1⟩
     refine mj Z<|xj Z Z<|xj Z Z<|Rg.alloc Z Z Z Z (fun b12=>?_)
     refine Rg.storeA (us:=HH.headC (HH.hd hs)) Z Z Z Z Z Z Z Z<|aj Z<|nl<|bj ?_
     refine Vc.loop7 (fun (b12:Nat) (vs:List Sv) (rss:List (List Rc)) (hs:List Hd) (done:List Rc) (sH sf:Hl)=>MDone n xss.flatten done hs rss∧(vs.length=n∧∀F':Fm,(∀b o,(b,o)∈sb→F'.at_ b o)→∀j,j<n→Arg recE F' vs[j]!.v rss[j]!)∧HH.HeapAt b7 (HH.popL hs) sH∧FoldAt b11 how (foldC how done) sf) (fun b12 vs rss hs done sH sf=>[(7,.pointer (some ⟨b7,0,none⟩)),(8,.func (.func 278) #[] #[.pointer (some ⟨b6,0,none⟩),.pointer (some ⟨b7,0,none⟩)]),(11,.pointer (some ⟨b11,0,none⟩)),(12,.pointer (some ⟨b12,0,none⟩)),(13,.bool (decide (0<hs.length)))]) (fun b12 vs rss hs done sH sf=>(b6,cellsO [.slice (some ⟨b19,0,none⟩) n n] 361)::(b19,rowS slRE vs [])::(b12,cellsO (HH.headC (HH.hd hs)) 390)::(sH++(sf++sb))) (fun b12 vs rss hs done sH sf=>(allOf hs rss).length) b12 vs rss hs [] sH1 [(b11,cellsO [.int .i64 how,.slice none 0 0] 398)] ⟨hmd,⟨hvl,hrows⟩,hheap1,⟨_,_,.nil,Z⟩⟩ (.cons Z (.cons Z (.cons Z (.cons Z (.cons Z .nil))))) pulled ?_
     clear hmd hms hvl hrows hheap hheap1
     rintro b12 vs rss hs done sH sf ⟨hmd,⟨hvl,hrows⟩,hheap,hfo⟩
     refine wj<|sj [.p] Z<|mj Z<|nl<|cj Z (fun h44=>?_) (fun h44=>?_)
     · simp only [dt] at h44
       obtain ⟨r,hr,hrun,hmd1,hxm,hal⟩:=hmd.step h44
       have hal2:=hmd.perm.length_eq
       have hfl:=foldC_length how done
       rw [ly,allOf_len] at hal2
       rw [allOf_len] at hal
       have hpl:=HH.popL_length hs
       rw [←HH.hd_get h44] at hrun hmd1 hxm
       generalize hx:HH.hd hs=x at hrun hmd1 hxm ⊢
       have hxv:=hR _ hxm
       have hdn:NN (foldC how done):=(foldC_nr done fun r hr=>hR r (hmd.perm.mem_iff.1 (List.mem_append_left _ hr))).nn
       have hrl:rss[r]!.length<1000000:=by have:=flat_mem_len (xss:=rss) (i:=r) (by rw [hmd.inv.len];exact hr);omega
       refine kj<|wj<|bj<|sj [.p,.r,.e] Z<|fj Z<|rj Z (Ev.as (recV (rcOf x)) (Ev.ldA Z Z) Z) ?_
       refine Rg.callH Z Z Z (mz Z) (fun F' hF'=>putF_spec F' b11 how _ (rcOf x) _ hfo (by omega) hdn hxv.1) rfl ?_
       rintro v51 sf1 hfo1
       refine nl<|tj [.p,.p,.r,.e] Z<|mj Z<|fj Z<|rj Z (Ev.as (.int .i64 (r:Int)) (Ev.ld Z Z) (congrArg (Value.int .i64) hrun)) ?_
       refine Rg.callH Z Z Z (run_callV rfl rfl) (fun F' hF'=>mnext_spec (F:=F') (fun F''=>∀b o,(b,o)∈sb→F''.at_ b o) (fun F'' h b o hb=>h b o (hF' b o (.inl (by simp [hb])))) b6 b7 b19 n vs rss (HH.popL hs) sH r hr hvl hmd.inv.len hrows hheap (by omega) (by omega) hrl) rfl ?_
       rintro v55 _ ⟨vs1,sH1,rfl,hvl1,hheap1,hrows1⟩
       refine nl<|dj<|wj<|sj [.r] Z<|rj Z (Ev.ldA Z Z)<|nl<|tj [.e,.e] Z<|Rg.alloc Z Z Z Z (fun b12=>?_)
       refine Rg.storeA (us:=HH.headC x) Z Z Z Z Z Z Z Z<|nl<|tj [.e,.p,.p,.p,.e,.p] Z<|Rg.callH Z Z Z (mz Z) (fun F' hF'=>HH.pop_hd F' b7 _ _ hheap1 (by rw [allOf_len] at hal;omega)) rfl ?_
       rintro _ sH2 ⟨rfl,hheap2⟩
       refine mj Z<|xj Z Z<|xj Z Z<|Rg.storeA (us:=HH.headC (HH.hd (nextH (HH.popL hs) rss r))) Z Z Z Z Z Z Z Z<|aj Z<|nl ?_
       exact Vc.inv7 b12 vs1 _ _ (done++[rcOf x]) sH2 sf1 ⟨⟨hmd1,⟨hvl1,hrows1⟩,hheap2,by rw [foldC_snoc];exact hfo1⟩,by rw [allOf_len hs] at hal ⊢; rw [allOf_len];omega⟩ (.cons rfl (.cons rfl (.cons rfl (.cons rfl (.cons rfl .nil))))) pulled
     · simp only [df] at h44
       obtain rfl:hs=[]:=List.length_eq_zero_iff.1 (by omega)
       have hdone:=hmd.fin
       subst hdone
       obtain ⟨vf,sg,ownf,rfl⟩:=hfo
       refine Vc.exit Z<|sj [.p,.r,.p,.p] Z<|fj Z<|lj Z Z<|aj Z<|aj Z<|nl ?_
       exact vr rfl (.cons (.tmp rfl) (tz Z)) (⟨_,_,rfl,.inl ⟨hok,rfl,ownf⟩⟩) pulled
end Go.Proofs.YtkpiakgmkpbikaaGreatDoor
namespace Go.Proofs.YtkpiakgmkpbikaaGreatDoor
theorem Tl.from {α:Type} {E:Enc α} {p:Option Addr} {m c:Nat} {xs:List α} {seg:Hl} (h:Tl E (.slice p m c) xs seg) {k:Nat} (hk:k≤xs.length) (h0:0<xs.length):Tl E (.slice (if c=k then p else p.map (·.add (k*E.k))) (m-k) (c-k)) (xs.drop k) seg:=by
 generalize hv:Value.slice p m c=v at h
 cases h with
 | nil=>simp at h0
 | blk b off cc _ zs sp h hc =>
  cases hv
  have:=Tl.blk (E:=E) b (if c=k then off else off+k*E.k) (c-k) (xs.drop k) zs sp (by
   by_cases h1:c=k
   · left;exact List.drop_eq_nil_of_le (by omega)
   · rcases h with rfl | ⟨j,rfl,e⟩
     · simp at h0
     · right;exact ⟨j+k,by rw [if_neg h1,Nat.add_mul],by rw [e,List.drop_drop]⟩) (by simp;omega)
  rw [List.length_drop] at this
  by_cases h1:c=k
  · rw [if_pos h1] at this ⊢; exact this
  · rw [if_neg h1] at this ⊢
    simpa [addr_add] using this
theorem Tl.cap {α:Type} {E:Enc α} {p:Option Addr} {m c:Nat} {xs:List α} {seg:Hl} (h:Tl E (.slice p m c) xs seg):xs.length≤c:=by
 generalize hv:Value.slice p m c=v at h
 cases h with
 | nil=>cases hv;exact Nat.zero_le _
 | blk b off cc _ zs sp h hc=>cases hv;exact hc
theorem Tl.one {α:Type} {E:Enc α} {v:Value} {xs:List α} {seg:Hl} (h:Tl E v xs seg):v.oneCell'=true:=by
 cases h<;>rfl
section
variable {P : Program} {n : Nf} {F : Fm} {l : Env} {hl : Hl} {ty : TypeId} {pos : String} {af : Array Edge} {g : Option (Nat × Bool)}
variable {Qf : Exit → Act → World → Prop} {ks : List KItem} {ops : List Oper} {clr : List Nat} {hs : Hl} {r : Sd} {i : Nat}
theorem Rg.loadAE {t0 t b off k:Nat} {e:TypeId} {x:Operand} {vs us:List Value} {q:Hl} [ht:TyAgg P t k] (ho:nth ops i=some ⟨some t0,.load t x,ty,pos,af,g⟩) (hg:wantB ops l g=some true) (h0:Nat.blt t0 n.n=true)
 (hx:ev l x=some (.pointer (some ⟨b,off,none⟩))) [hb:Has F hl b (cellsO vs e)] (hv:grab vs off k=some us) [hq:PullL hl hs q] (h:Rg P Qf n F ks ops clr hs r ((t0,.agg us.toArray)::l) hl):Rg P Qf n F ks ops clr hs (.st i .eff r) l hl :=
 Rg.run ho hg fun a w hf hh=>by
  have h1:=run_loadVarA (P:=P) (t:=t) (hb.hp hh) hv
  exact ⟨w,_,hl,hs,.inl ⟨_,by simp [execOp,hf.ev hx,Instr.loadAt,Instr.sureAddr,h1],hf.put h0 _⟩,hh,⟨q,hh.perm (hq.perm.trans List.perm_append_comm)⟩,.same,h⟩
theorem Rg.storeAN {t b off k:Nat} {e:TypeId} {x y:Operand} {d:Option Tmp} {us vs q:List Value} {rest q2:Hl} [hs0:TyAgg P t k] (ho:nth ops i=some ⟨d,.store t x y,ty,pos,af,g⟩) (hg:wantB ops l g=some true) (hd:d=none)
 (hx:ev l x=some (.pointer (some ⟨b,off,none⟩))) (hy:ev l y=some (.agg us.toArray)) [hb:Pull1 hl b (cellsO vs e) rest] (hk:(us.length==k&&us.all (·.oneCell'))=true) (hq:setsL vs off us=some q) [hr:PullL rest hs q2]
 (h:Rg P Qf n F ks ops clr hs r l ((b,cellsO q e)::rest)):Rg P Qf n F ks ops clr hs (.st i .eff r) l hl :=
 Rg.run ho hg fun a w hf hh=>by
  subst hd
  simp only [Bool.and_eq_true,beq_iff_eq,List.all_eq_true] at hk
  have hh':=hh.perm hb.perm
  have hrun:=run_storeAt (P:=P) (t:=t) (v:=.agg us.toArray) hs0.size rfl hk.1 hk.2 (hh'.own b _ List.mem_cons_self) hq
  have hh2:=Lens.putB (put:=fun o'=>(b,o')::rest) ⟨[],rest,rfl,fun _=>rfl⟩ hh' (cellsO q e)
  exact ⟨_,l,_,hs,.inr ⟨by simp [execOp,hf.ev hx,hf.ev hy,hrun],hf⟩,hh2,⟨(b,cellsO q e)::q2,hh2.perm ((hr.perm.trans List.perm_append_comm).cons _)⟩,.same,h⟩
end
theorem getB_at {a b c:List UInt8} {k s:Nat} (hk:a.length=k) (hs:b.length=s):getB (a++(b++c)) k s=leNum b:=by
 subst hk;subst hs
 rw [getB,List.drop_left' rfl,List.take_left' rfl]
theorem encG_parts (t rest:List UInt8):encG t++rest=leBytes 2 t.length++(t++(leBytes 4 (crcG (hdG t))++rest)):=by simp [encG,hdG]
theorem decG_encG {t rest:List UInt8} (h:t.length≤1000):decG (encG t++rest)=(t,t.length+6,0):=by
 have hl:=encG_length t
 have h2:(encG t++rest).take 2=leBytes 2 t.length:=by rw [encG_parts,List.take_left' (by simp)]
 have hn:leNum ((encG t++rest).take 2)=t.length:=by rw [h2,leNum_leBytes,Nat.mod_eq_of_lt (by show t.length<256 ^ 2;omega)]
 have hh:(encG t++rest).take (2+t.length)=hdG t:=by
  rw [encG,lx,List.take_left' (by rw [hdG_length];omega)]
 have hc:=crcG_lt (hdG t)
 have hg:getB (encG t++rest) (2+t.length) 4=crcG (hdG t):=by
  rw [encG,lx,getB_at (by rw [hdG_length];omega) (by simp),leNum_leBytes,Nat.mod_eq_of_lt (by show _<256 ^ 4;omega)]
 have ht:((encG t++rest).drop 2).take t.length=t:=by rw [encG_parts,List.drop_left' (by simp),List.take_left' rfl]
 have hll:(encG t++rest).length=t.length+6+rest.length:=by rw [ly,hl]
 unfold decG
 rw [if_neg (by omega),hn,if_neg (by omega),hh,hg,if_neg (by simp),ht]
def rcB (r:Rc):List UInt8:=leBytes 8 r.key.toNat++leBytes 8 r.val.toNat
def rcsB (l:List Rc):List UInt8:=l.flatMap rcB
theorem rcB_length (r:Rc):(rcB r).length=16:=by simp [rcB]
theorem rcsB_length (l:List Rc):(rcsB l).length=16*l.length:=by
 induction l with
 | nil=>rfl
 | cons r l ih=>simp only [rcsB,List.flatMap_cons,ly,rcB_length,List.length_cons] at *; omega
theorem rcsB_snoc (l:List Rc) (r:Rc):rcsB (l++[r])=rcsB l++rcB r:=by simp [rcsB]
theorem rcsB_cons (r:Rc) (l:List Rc):rcsB (r::l)=rcB r++rcsB l:=by simp [rcsB]
def fileB (l:List Rc):List UInt8:=if l=[] then [] else encG (rcsB l)
theorem fileB_length (l:List Rc):(fileB l).length≤16*l.length+6:=by
 unfold fileB
 split
 · simp
 · rw [encG_length,rcsB_length];omega
theorem fileB_ne {l:List Rc} (h:l≠[]):fileB l=encG (rcsB l):=if_neg h
theorem getB_head {r:Rc} {l:List Rc} (hr:InR r):((getB (rcsB (r::l)) 0 8:Nat):Int)=r.key∧((getB (rcsB (r::l)) 8 8:Nat):Int)=r.val:=by
 have e:rcsB (r::l)=leBytes 8 r.key.toNat++(leBytes 8 r.val.toNat++rcsB l):=by simp [rcsB,rcB]
 have h1:=getB_at (a:=[]) (b:=leBytes 8 r.key.toNat) (c:=leBytes 8 r.val.toNat++rcsB l) (k:=0) (s:=8) rfl (by simp)
 have h2:=getB_at (a:=leBytes 8 r.key.toNat) (b:=leBytes 8 r.val.toNat) (c:=rcsB l) (k:=8) (s:=8) (by simp) (by simp)
 rw [List.nil_append] at h1
 have hk:=hr.1
 have hv:=hr.2
 rw [e,h1,h2,leNum_leBytes,leNum_leBytes,Nat.mod_eq_of_lt (by rw [show (256:Nat) ^ 8=18446744073709551616 by decide];omega),Nat.mod_eq_of_lt (by rw [show (256:Nat) ^ 8=18446744073709551616 by decide];omega)]
 omega
theorem drop_head (r:Rc) (l:List Rc):(rcsB (r::l)).drop 16=rcsB l:=by
 rw [rcsB_cons,List.drop_left' (rcB_length r)]
abbrev wtO (db:Nat) (nm:Nm) (tv:Value) (done:Bool):Obj:=cellsO [.pointer (some ⟨db,0,none⟩),kS nm,tv,.bool done] 337
def WtAt (wb db:Nat) (nm:Nm) (l:List Rc) (hl:Hl):Prop:=∃tv s,Own byteE tv (rcsB l) s∧hl.Perm ((wb,wtO db nm tv false)::s)
section
variable {F : Fm} {db wb rb : Nat} {C : Cx} {D : Dk} {s s1 s2 : Hl} {nm : Nm}
theorem newWriter_z (hC:C.Ok) (hD:DiskAt db D s) (hw:Wz C D) (hk:nm∈C.S) (hf:findF D.files nm=none) :
 Spec Tryz.prog 216 #[.pointer (some ⟨db,0,none⟩),kS nm] F s fun v s'=>∃p e D' h1 h2,v=.tuple #[.pointer p,.int .i64 e]∧s'=h1++h2∧DiskAt db D' h2∧Out C (· = nm) (fun D'=>findF D'.files nm=some ⟨[],[]⟩) D 0 e D'∧(e=0→∃wb,p=some ⟨wb,0,none⟩∧WtAt wb db nm [] h1):=by
 refine Spec.of (n:=17) (vs:=[.pointer (some ⟨db,0,none⟩),kS nm]) Tryz.func216 rfl Tryz.ntmps216 rfl ?_
 refine sj [.p,.p] Z<|aj Z<|aj Z<|nl<|wj<|sj [.p,.p,.e,.p] Z<|mj Z<|mj Z<|Rg.callH Z Z Z (mz Z) (fun F' hF'=>create_z (F:=F') hC hD hw hk hf) Z ?_
 rintro _ s9 ⟨e,D',rfl,hD9,hO⟩
 rw [List.append_nil]
 refine aj Z<|nl<|sj [.p,.p] Z<|mj Z<|uj Z (Pv.neq Z Z)<|nl<|cj Z (fun h11=>?_) (fun h11=>?_)
 · simp only [bne_iff_ne,ne_eq] at h11
   refine sj [.p,.p,.p] Z<|mj Z<|aj Z<|aj Z<|nl ?_
   exact vr rfl (.cons (.tmp rfl) (tz Z)) (⟨none,e,D',[],s9,rfl,rfl,hD9,hO,fun h=>absurd h h11⟩) pulled
 · simp only [bne_eq_false_iff_eq] at h11
   subst h11
   refine kj<|sj [.p,.p,.p,.e,.p,.p] Z<|mj Z<|mj Z<|uj Z (Pv.build (c:=#[.pointer (some ⟨db,0,none⟩),kS nm,.slice none 0 0,.bool false]) Z Z)<|Rg.box Z Z Z Z Z (fun b16=>?_)
   refine aj Z<|aj Z<|nl ?_
   exact vr rfl (.cons (.tmp rfl) (tz Z)) (⟨some ⟨b16,0,none⟩,0,D',[(b16,wtO db nm (.slice none 0 0) false)],s9,rfl,rfl,hD9,hO,fun _=>⟨b16,rfl,.slice none 0 0,[],.nil,.refl _⟩⟩) pulled
theorem putR_z {l:List Rc} (hW:WtAt wb db nm l s1) (hl:l.length<49) (r:Rc) (hr:InR r) :
 Spec Tryz.prog 218 #[.pointer (some ⟨wb,0,none⟩),recV r] F s1 fun v s'=>v=.int .i64 0∧WtAt wb db nm (l++[r]) s':=by
 obtain ⟨tv,s,own,hp⟩:=hW
 refine Spec.perm ?_ hp
 obtain ⟨pt,ct,rfl⟩:=own.shape
 obtain ⟨⟨kn,hkn⟩,⟨vn,hvn⟩⟩:(∃kn:Nat,r.key=kn)∧(∃vn:Nat,r.val=vn):=⟨⟨r.key.toNat,by have:=hr.1;omega⟩,⟨r.val.toNat,by have:=hr.2;omega⟩⟩
 have hrl:=rcsB_length l
 refine Spec.of (n:=30) (vs:=[.pointer (some ⟨wb,0,none⟩),recV r]) Tryz.func218 rfl Tryz.ntmps218 rfl ?_
 refine sj [.e,.p] Z<|Rg.box Z Z Z Z Z (fun b3=>?_)
 refine aj Z<|nl<|wj<|sj [.p,.p,.p,.r] Z<|mj Z<|nj Z<|fj Z<|lj Z Z<|nl<|cj Z (fun h8=>absurd h8 (by decide)) (fun h8=>?_)
 refine kj<|wj ?_
 refine Vc.draw [13] (sd [(0,.pure),(1,.pure),(2,.pure),(3,.pure),(4,.read),(5,.pure),(6,.read),(8,.pure),(9,.read),(7,.eff),(10,.eff),(11,.pure),(12,.pure),(13,.eff)]) mixed (by kernel_rfl)<|mj Z<|mj Z<|nj Z<|fj Z<|lj Z Z<|fj Z<|lj Z Z<|fj Z<|lj Z Z ?_
 refine Rg.callA Z Z Z (mz Z) (hkn▸put_spec (Arg.own own frz_sb) (by omega) 8 kn (by omega)) ?_
 rintro v16 s16 own16
 refine Rg.callA Z Z Z (mz Z) (hvn▸put_spec (Arg.own own16 frz_sb) (by simp;omega) 8 vn (by omega)) ?_
 rintro v19 s19 own19
 rw [lx] at own19
 replace own19:Own byteE v19 (rcsB (l++[r])) s19:=by rw [rcsB_snoc,rcB,hkn,hvn];exact own19
 have hrl2:=rcsB_length (l++[r])
 rw [ly,List.length_singleton] at hrl2
 obtain ⟨p19,c19,rfl⟩:=own19.shape
 refine nj Z<|fj Z ?_
 refine Rg.store Z Z Z Z Z Z Z Z<|nl<|wj<|sj [.p,.p,.p,.r,.p,.p] Z<|mj Z<|nj Z<|fj Z<|lj Z Z<|uj Z (Pv.lenS Z)<|uj Z (Pv.lss Z Z)<|nl<|cj Z (fun h27=>?_) (fun h27=>absurd h27 (by simp only [df];omega))
 refine sj [.p] Z<|aj Z<|nl ?_
 exact vr rfl (tz Z) ((show Value.int .i64 0=.int .i64 0∧WtAt wb db nm (l++[r]) ((wb,wtO db nm (.slice p19 (rcsB (l++[r])).length c19) false)::s19) from ⟨rfl,_,s19,own19,.refl _⟩)) pulled
theorem out_z (hC:C.Ok) {l:List Rc} (hW:WtAt wb db nm l s1) (hl:l.length<50) (hD:DiskAt db D s2) (hw:Wz C D) (hup:D.down=false) (hf:findF D.files nm=some ⟨[],[]⟩) (hcap:16*l.length+6≤C.cap) :
 Spec Tryz.prog 246 #[.pointer (some ⟨wb,0,none⟩)] F (s1++s2) fun v s'=>∃e D' tv dn h1 h2,v=.int .i64 e∧s'=(wb,wtO db nm tv dn)::(h1++h2)∧tv.oneCell'=true∧DiskAt db D' h2∧Out C (· = nm) (fun D'=>findF D'.files nm=some ⟨fileB l,[]⟩) D 0 e D':=by
 obtain ⟨tv,s,own,hp⟩:=hW
 refine Spec.perm ?_ (hp.append_right s2)
 rw [List.cons_append]
 obtain ⟨pt,ct,rfl⟩:=own.shape
 have hrl:=rcsB_length l
 refine Spec.of (n:=40) (vs:=[.pointer (some ⟨wb,0,none⟩)]) Tryz.func246 rfl Tryz.ntmps246 rfl ?_
 refine sj [.p] Z<|aj Z<|nl<|wj<|sj [.p,.p,.p,.r,.p,.p] Z<|mj Z<|nj Z<|fj Z<|lj Z Z<|uj Z (Pv.lenS Z)<|uj Z (Pv.eql Z Z)<|nl<|cj Z (fun h10=>?_) (fun h10=>?_)
 · simp only [beq_iff_eq] at h10
   obtain rfl:l=[]:=List.length_eq_zero_iff.1 (by omega)
   refine sj [.p] Z<|aj Z<|nl ?_
   exact vr rfl (tz Z) (⟨0,D,.slice pt (rcsB []).length ct,false,s,s2,rfl,rfl,rfl,hD,hw,.inl ⟨rfl,.refl hup,hf⟩⟩) pulled
 · simp only [beq_eq_false_iff_ne,ne_eq] at h10
   have hne:l≠[]:=fun e=>by rw [e] at hrl;exact h10 (by rw [e];rfl)
   refine kj<|sj [.p,.p,.p,.r,.e,.p,.p,.p,.p,.p] Z<|mj Z<|nj Z<|fj Z<|lj Z Z ?_
   refine Rg.callA Z Z Z (mz Z) (encode_spec (Arg.own own frz_sb) (by omega)) ?_
   rintro _ s16 ⟨u16,rfl,own16⟩
   rw [←fileB_ne hne] at own16
   have hbl:=fileB_length l
   refine mj Z<|xj Z Z<|xj Z Z<|aj Z<|aj Z<|nl<|wj<|sj [.p,.p] Z<|mj Z<|uj Z (Pv.eql Z Z)<|nl<|cj Z (fun h20=>?_) (fun h20=>absurd h20 (by decide))
   refine Vc.draw [9] (sd [(0,.pure),(1,.pure),(2,.pure),(3,.read),(4,.pure),(5,.pure),(6,.pure),(7,.read),(8,.pure),(9,.eff),(10,.pure)]) mixed (by kernel_rfl)<|mj Z<|nj Z<|fj Z<|lj Z Z<|mj Z<|nj Z<|fj Z<|lj Z Z<|mj Z ?_
   refine Rg.callH Z Z Z (mz Z) (fun F' hF'=>append_z (F:=F') hC hD hw hf (Arg.own own16 fun b o hb=>hF' b o (.inl (by simp [hb]))) (by simp only [List.length_nil];omega)) rfl ?_
   rintro _ s30 ⟨e,D',rfl,hD30,hO⟩
   rw [List.nil_append] at hO
   refine aj Z<|nl<|sj [.p,.p,.p,.p,.p,.p,.e,.p,.p,.e] Z<|mj Z<|mj Z<|mj Z<|uj Z (Pv.neq Z Z)<|nj Z<|fj Z ?_
   refine Rg.store Z Z Z Z Z Z Z Z<|nj Z<|fj Z ?_
   refine Rg.store Z Z Z Z Z Z Z Z<|nl<|sj [.p,.p] Z<|mj Z<|aj Z<|nl ?_
   exact Vc.ret (Vc.retsH rfl (tz Z) ((show ∃e' D' tv dn h1 h2,Value.int .i64 e=.int .i64 e'∧(wb,wtO db nm (.slice none 0 0) (e != 0))::s30=(wb,wtO db nm tv dn)::(h1++h2)∧tv.oneCell'=true∧DiskAt db D' h2∧Out C (· = nm) (fun D'=>findF D'.files nm=some ⟨fileB l,[]⟩) D 0 e' D' from
    ⟨e,D',.slice none 0 0,(e != 0),[],s30,rfl,rfl,rfl,hD30,hO⟩)) pulled)
theorem closeR_z (hC:C.Ok) {l:List Rc} (hW:WtAt wb db nm l s1) (hl:l.length<50) (hD:DiskAt db D s2) (hw:Wz C D) (hup:D.down=false) (hf:findF D.files nm=some ⟨[],[]⟩) (hcap:16*l.length+6≤C.cap) :
 Spec Tryz.prog 220 #[.pointer (some ⟨wb,0,none⟩)] F (s1++s2) fun v s'=>∃e D',v=.int .i64 e∧DiskAt db D' s'∧Out C (· = nm) (fun D'=>findF D'.files nm=some ⟨fileB l,fileB l⟩) D 0 e D':=by
 have hW0:=hW
 obtain ⟨tv,s,own,hp⟩:=hW
 refine Spec.perm ?_ (hp.append_right s2)
 rw [List.cons_append]
 obtain ⟨pt,ct,rfl⟩:=own.shape
 refine Spec.of (n:=25) (vs:=[.pointer (some ⟨wb,0,none⟩)]) Tryz.func220 rfl Tryz.ntmps220 rfl ?_
 refine sj [.p] Z<|aj Z<|nl<|wj<|sj [.p,.p,.p,.r] Z<|mj Z<|nj Z<|fj Z<|lj Z Z<|nl<|cj Z (fun h7=>absurd h7 (by decide)) (fun h7=>?_)
 refine kj<|sj [.p,.e,.p] Z<|mj Z<|Rg.callH Z Z Z (mz Z) (fun F' hF'=>out_z (F:=F') (s1:=(wb,wtO db nm (.slice pt (rcsB l).length ct) false)::s) hC ⟨_,s,own,.refl _⟩ hl hD hw hup hf hcap) Z ?_
 rintro _ _ ⟨e,D1,tv9,dn,h1,h2,rfl,rfl,h1c,hD9,hO⟩
 rw [List.append_nil]
 refine aj Z<|nl<|wj<|sj [.p,.p] Z<|mj Z<|uj Z (Pv.eql Z Z)<|nl<|cj Z (fun h11=>?_) (fun h11=>?_)
 · simp only [beq_iff_eq] at h11
   subst h11
   obtain ⟨_,hG,hf1⟩:=hO.good (by decide)
   refine Vc.draw [8] (sd [(0,.pure),(1,.pure),(2,.pure),(3,.read),(4,.pure),(5,.pure),(6,.pure),(7,.read),(8,.eff),(9,.pure)]) mixed (by kernel_rfl)<|mj Z<|nj Z<|fj Z<|lj Z Z<|mj Z<|nj Z<|fj Z<|lj Z Z ?_
   refine Rg.callH Z Z Z (mz Z) (fun F' hF'=>sync_z (F:=F') hC hD9 hO.wz hf1) Z ?_
   rintro _ s20 ⟨e2,D2,rfl,hD20,hO2⟩
   refine aj Z<|nl<|sj [.p,.p,.p,.e] Z<|mj Z<|nj Z<|fj Z ?_
   refine Rg.store Z Z Z Z Z Z Z Z<|nl<|sj [.p,.p] Z<|mj Z<|aj Z<|nl ?_
   exact vr (hl':=s20) rfl (tz Z) ⟨e2,D2,rfl,hD20,hO2.wz,hO2.2.imp (fun x=>⟨x.1,hG.trans x.2.1,x.2.2⟩) (fun x=>⟨x.1,hG.dn x.2⟩)⟩ pulled
 · simp only [beq_eq_false_iff_ne,ne_eq] at h11
   obtain ⟨he7,hB⟩:=hO.bad h11
   refine kj<|sj [.p,.p,.p,.e] Z<|mj Z<|nj Z<|fj Z ?_
   refine Rg.store Z Z Z Z Z Z Z Z<|nl<|sj [.p,.p] Z<|mj Z<|aj Z<|nl ?_
   exact vr (hl':=h2) rfl (tz Z) ⟨e,D1,rfl,hD9,hO.wz,.inr ⟨he7,hB⟩⟩ pulled
end
abbrev rdO (db:Nat) (nm:Nm) (at_ sz:Nat) (tv:Value) (short:Bool) (err:Int):Obj:=cellsO [.pointer (some ⟨db,0,none⟩),kS nm,.int .i64 (at_:Int),.int .i64 (sz:Int),tv,.bool short,.int .i64 err] 340
def RdT (rb db:Nat) (nm:Nm) (l:List Rc) (fresh:Bool) (hl:Hl):Prop:=∃(at_ sz:Nat) (p:Option Addr) (c:Nat) (text:List UInt8) (short:Bool) (q:Hl),Tl byteE (.slice p text.length c) text q∧hl.Perm ((rb,rdO db nm at_ sz (.slice p text.length c) short 0)::q) ∧
 ((fresh=true∧l≠[]∧text=[]∧at_=0∧sz=(fileB l).length∧short=false)∨(fresh=false∧text=rcsB l∧at_=sz))
def InRs (l:List Rc):Prop:=∀r∈l,InR r
theorem InRs.nr {l:List Rc} (h:InRs l):NR l:=fun r hr=>(h r hr).2
section
variable {F : Fm} {db wb rb : Nat} {C : Cx} {D : Dk} {s s1 s2 : Hl} {nm : Nm}
theorem newReader_z (hC:C.Ok) (hD:DiskAt db D s) (hw:Wz C D) {f:Fl} {l:List Rc} (hf:findF D.files nm=some f) (hl:f.now=fileB l) :
 Spec Tryz.prog 221 #[.pointer (some ⟨db,0,none⟩),kS nm] F s fun v s'=>∃p e D' h1 h2,v=.tuple #[.pointer p,.int .i64 e]∧s'=h1++h2∧DiskAt db D' h2∧Out C none1 (fun _=>True) D 0 e D'∧(e=0→∃rb,p=some ⟨rb,0,none⟩∧RdT rb db nm l (decide (l≠[])) h1):=by
 refine Spec.of (n:=22) (vs:=[.pointer (some ⟨db,0,none⟩),kS nm]) Tryz.func221 rfl Tryz.ntmps221 rfl ?_
 refine sj [.p,.p] Z<|aj Z<|aj Z<|nl<|sj [.p,.p,.e,.p,.p,.p,.p,.p] Z<|mj Z<|mj Z<|Rg.callH Z Z Z (mz Z) (fun F' hF'=>size_z (F:=F') hC hD hw hf) Z ?_
 rintro _ s11 ⟨m,e,D',rfl,hD11,hO⟩
 rw [List.append_nil]
 have hO':Out C none1 (fun _=>True) D 0 e D':=⟨hO.1,hO.2.imp (fun x=>⟨x.1,x.2.1,trivial⟩) id⟩
 refine mj Z<|xj Z Z<|xj Z Z<|aj Z<|aj Z<|nl<|wj<|sj [.p,.p] Z<|mj Z<|uj Z (Pv.neq Z Z)<|nl<|cj Z (fun h15=>?_) (fun h15=>?_)
 · simp only [bne_iff_ne,ne_eq] at h15
   refine sj [.p,.p,.p] Z<|mj Z<|aj Z<|aj Z<|nl ?_
   exact vr rfl (.cons (.tmp rfl) (tz Z)) (⟨none,e,D',[],s11,rfl,rfl,hD11,hO',fun h=>absurd h h15⟩) pulled
 · simp only [bne_eq_false_iff_eq] at h15
   subst h15
   obtain ⟨_,_,hm⟩:=hO.good (by decide)
   subst hm
   refine kj<|sj [.p,.p,.p,.p,.e,.p,.p] Z<|mj Z<|mj Z<|mj Z<|uj Z (Pv.build (c:=#[.pointer (some ⟨db,0,none⟩),kS nm,.int .i64 0,.int .i64 ((f.now.length:Nat):Int),.slice none 0 0,.bool false,.int .i64 0]) Z Z)<|Rg.box Z Z Z Z Z (fun b21=>?_)
   refine aj Z<|aj Z<|nl ?_
   exact Vc.ret (Vc.retsH rfl (.cons (.tmp rfl) (tz Z)) (⟨some ⟨b21,0,none⟩,0,D',[(b21,rdO db nm 0 f.now.length (.slice none 0 0) false 0)],s11,rfl,rfl,hD11,hO',fun _=>⟨b21,rfl,0,f.now.length,none,0,[],false,[],.nil,.refl _,by
    by_cases hn:l=[]
    · refine .inr ⟨by simp [hn],by rw [hn];rfl,?_⟩
      rw [hl,hn];rfl
    · exact .inl ⟨by simp [hn],hn,rfl,rfl,by rw [hl],rfl⟩⟩⟩) pulled)
set_option maxHeartbeats 2000000 in
theorem in_z (hC:C.Ok) {l:List Rc} {p0:Option Addr} {c0:Nat} {q0:Hl} (own0:Tl byteE (.slice p0 0 c0) [] q0) (hne:l≠[]) (hll:l.length<50) (hD:DiskAt db D s2) (hw:Wz C D) {f:Fl} (hf:findF D.files nm=some f) (hl:f.now=fileB l) :
 Spec Tryz.prog 286 #[.pointer (some ⟨rb,0,none⟩)] F ((rb,rdO db nm 0 (fileB l).length (.slice p0 0 c0) false 0)::(q0++s2)) fun v s'=>∃(e:Int) (D':Dk) (at_:Nat) (p:Option Addr) (c:Nat) (text:List UInt8) (short:Bool) (h1 h2:Hl),v=.int .i64 e∧s'=(rb,rdO db nm at_ (fileB l).length (.slice p text.length c) short 0)::(h1++h2)∧Tl byteE (.slice p text.length c) text h1∧text.length≤800∧DiskAt db D' h2∧Out C none1 (fun _=>text=rcsB l∧at_=(fileB l).length) D 0 e D':=by
 obtain ⟨n,hn⟩:∃n,n=(fileB l).length:=⟨_,rfl⟩
 have hfl:f.now.length=n:=by rw [hl,hn]
 have hnl:=fileB_length l
 have hrl:=rcsB_length l
 have hpos:0<l.length:=List.length_pos_iff.2 hne
 have hdec:decG (fileB l)=(rcsB l,(rcsB l).length+6,0):=by
  have:=decG_encG (t:=rcsB l) (rest:=[]) (by omega)
  rw [List.append_nil] at this
  rw [fileB_ne hne];exact this
 have hnn:n=(rcsB l).length+6:=by rw [hn,fileB_ne hne,encG_length]
 rw [←hn] at hnl ⊢
 refine Spec.of (n:=84) (vs:=[.pointer (some ⟨rb,0,none⟩)]) Tryz.func286 rfl Tryz.ntmps286 rfl ?_
 refine sj [.p] Z<|aj Z<|nl<|wj ?_
 refine Vc.draw [22] (sd [(0,.pure),(1,.pure),(2,.pure),(3,.read),(4,.pure),(5,.pure),(6,.pure),(7,.read),(8,.pure),(9,.pure),(10,.pure),(11,.read),(12,.pure),(13,.pure),(14,.pure),(15,.read),(16,.pure),(17,.pure),(18,.pure),(19,.read),(20,.pure),(21,.pure),(22,.eff),(23,.pure),(24,.pure),(25,.pure),(26,.pure),(27,.pure)]) mixed (by kernel_rfl)<|mj Z<|nj Z<|fj Z<|lj Z Z<|mj Z<|nj Z<|fj Z<|lj Z Z<|mj Z<|nj Z<|fj Z<|lj Z Z<|mj Z<|nj Z ?_
 refine fj Z<|lj Z Z<|mj Z<|nj Z<|fj Z<|lj Z Z<|uj Z (Pv.asI (n) (Pv.sub rfl rfl (by omega)) (by omega))<|uj Z (Pv.asI (n) (Pv.min rfl rfl) (by omega)) ?_
 refine Rg.callH Z Z Z (mz Z) (fun F' hF'=>read_z (F:=F') hC hD hw hf (a:=0) (m:=n) (by omega)) rfl ?_
 rintro _ _ ⟨u30,q30,s30,bs,e,D',rfl,own30,hD30,hO,rfl⟩
 rw [lx]
 refine mj Z<|xj Z Z<|xj Z Z<|aj Z<|aj Z<|nl<|wj<|sj [.p,.p] Z<|mj Z<|uj Z (Pv.neq Z Z)<|nl<|cj Z (fun h34=>?_) (fun h34=>?_)
 · simp only [bne_iff_ne,ne_eq] at h34
   obtain ⟨he7,hB⟩:=hO.bad h34
   refine sj [.p,.p] Z<|mj Z<|aj Z<|nl ?_
   exact vr (hl':=(rb,rdO db nm 0 n (.slice p0 0 c0) false 0)::(q0++s30)) rfl (tz Z) ⟨e,D',0,p0,c0,[],false,q0,s30,rfl,rfl,own0,Nat.zero_le _,hD30,hO.wz,.inr ⟨he7,hB⟩⟩ pulled
 · simp only [bne_eq_false_iff_eq] at h34
   subst h34
   obtain ⟨_,hG,hbs⟩:=hO.good (by decide)
   rw [List.drop_zero,List.take_of_length_le (by omega),hl] at hbs
   subst hbs
   refine kj<|sj [.p,.e,.p,.p,.p,.p,.p,.p,.p] Z<|mj Z<|Rg.callA Z Z Z (mz Z) (decode_spec (Arg.own own30 frz_sb) (by omega)) ?_
   rintro _ s38 ⟨u38,rfl,own38⟩
   rw [hdec] at own38 ⊢
   simp only at own38 ⊢
   obtain ⟨pt,ct,rfl⟩:=own38.shape
   refine mj Z<|xj Z Z<|xj Z Z<|xj Z Z<|aj Z<|aj Z<|aj Z<|nl<|wj<|sj [.p,.p] Z<|mj Z<|uj Z (Pv.neq Z Z)<|nl<|cj Z (fun h43=>absurd h43 (by simp)) (fun h43=>?_)
   refine kj<|wj<|sj [.p,.p,.p,.p,.p,.p,.p,.p,.p,.p,.p,.p,.p,.p,.p,.p,.p,.p,.r,.p] Z<|mj Z<|uj Z (Pv.lenS Z)<|uj Z (Pv.eql Z Z)<|mj Z<|Rg.split (t:=48) rfl (fun h48=>absurd h48 (by (simp only [beq_iff_eq];omega))) (fun h48=>?_)
   refine mj Z<|uj Z (Pv.lenS Z)<|uj Z (Pv.asI ((rcsB l).length % 16) (Pv.rem rfl rfl (by omega)) (by omega))<|uj Z (Pv.neq Z Z)<|pj Z Z<|mj Z<|Rg.split (t:=54) rfl (fun h54=>absurd h54 (by (simp only [bne_iff_ne,ne_eq,Classical.not_not];omega))) (fun h54=>?_)
   refine mj Z<|uj Z (Pv.lenS Z)<|uj Z (Pv.gtr Z Z)<|pj Z Z<|mj Z<|Rg.split (t:=59) rfl (fun h59=>absurd h59 (by (simp only [dt];omega))) (fun h59=>?_)
   refine mj Z<|nj Z<|fj Z<|lj Z Z<|pj Z Z<|nl<|cj Z (fun h64=>absurd h64 (by decide)) (fun h64=>?_)
   refine kj<|sj [.p,.p,.p,.p,.p,.p,.r,.p,.p,.p,.p,.p,.p,.p,.p,.e,.p,.p,.e,.p,.p,.e] Z<|mj Z<|mj Z<|mj Z<|mj Z<|nj Z<|fj Z<|lj Z Z<|mj Z<|uj Z (Pv.asI (n) (Pv.add rfl rfl (by omega)) (by omega))<|mj Z<|mj Z<|uj Z (Pv.lenS Z)<|uj Z (Pv.lss Z Z) ?_
   refine nj Z<|fj Z ?_
   refine Rg.store Z Z Z Z Z Z Z Z<|nj Z<|fj Z ?_
   refine Rg.store Z Z Z Z Z Z Z Z<|nj Z<|fj Z ?_
   refine Rg.store Z Z Z Z Z Z Z Z<|nl<|sj [.p] Z<|aj Z<|nl ?_
   exact vr rfl (tz Z) (⟨0,D',n,pt,ct,rcsB l,decide (((rcsB l).length:Int)<800),s38,s30,rfl,rfl,own38.tl,by omega,hD30,hO.wz,.inl ⟨rfl,hG,rfl,rfl⟩⟩) pulled
structure RdS where
 at_:Nat
 sz:Nat
 p:Option Addr
 c:Nat
 text:List UInt8
 short:Bool
 e:Int
 D:Dk
 q1:Hl
 q2:Hl
set_option maxHeartbeats 4000000 in
theorem next_z (hC:C.Ok) {l:List Rc} {fresh:Bool} (hR:RdT rb db nm l fresh s1) (hll:l.length<50) (hI:InRs l) (hD:DiskAt db D s2) (hw:Wz C D) (hup:D.down=false) (hf:fresh=true→∃f,findF D.files nm=some f∧f.now=fileB l) :
 Spec Tryz.prog 266 #[.pointer (some ⟨rb,0,none⟩)] F (s1++s2) fun v s'=>∃x is e D' h1 h2,v=.tuple #[recV x,.bool is,.int .i64 e]∧s'=h1++h2∧DiskAt db D' h2∧Out C none1 (fun _=>(l=[]∧is=false)∨(∃t,l=x::t∧is=true)) D 0 e D'∧(e=0→RdT rb db nm l.tail false h1)∧(e≠0→is=false)∧(is=false→x=⟨0,0⟩):=by
 obtain ⟨at0,sz0,p0,c0,text0,short0,q0,own,hp,hst⟩:=hR
 refine Spec.perm ?_ (hp.append_right s2)
 rw [List.cons_append]
 have hrl:=rcsB_length l
 refine Spec.of (n:=79) (vs:=[.pointer (some ⟨rb,0,none⟩)]) Tryz.func266 rfl Tryz.ntmps266 rfl ?_
 refine sj [.e,.p,.p] Z<|Rg.alloc Z Z Z Z (fun b2=>?_)
 refine aj Z<|aj Z<|nl<|wj<|wj<|Vc.cut1 (fun (bb:Bool)=>bb=fresh) (fun bb=>[(28,.bool bb),(0,.pointer (some ⟨rb,0,none⟩)),(2,.pointer (some ⟨b2,0,none⟩))]) (fun bb=>(b2,cellsO [.int .u64 0,.int .u64 0] 293)::(rb,rdO db nm at0 sz0 (.slice p0 text0.length c0) short0 0)::(q0++s2)) ?_ ?_
 · refine Vc.draw [] (sd [(0,.pure),(1,.pure),(2,.pure),(3,.read),(4,.pure),(5,.pure),(6,.pure),(7,.pure),(8,.pure),(9,.read),(10,.pure),(11,.pure),(12,.pure),(13,.pure),(14,.pure),(15,.pure),(16,.pure),(17,.read),(18,.pure),(19,.pure),(20,.pure),(21,.read),(22,.pure),(23,.pure)]) mixed (by kernel_rfl)<|mj Z<|nj Z<|fj Z<|lj Z Z<|uj Z (Pv.eql Z Z)<|mj Z ?_
   refine Rg.split (t:=10) rfl (fun h10=>?_) (fun h10=>absurd h10 (by simp))
   refine mj Z<|nj Z<|fj Z<|lj Z Z<|uj Z (Pv.lenS Z)<|uj Z (Pv.eql Z Z)<|qj Z Z<|mj Z ?_
   refine Rg.split (t:=18) Z (fun h18=>?_) (fun h18=>?_)
   · simp only [beq_iff_eq] at h18
     refine mj Z<|nj Z<|fj Z<|lj Z Z<|mj Z<|nj Z<|fj Z<|lj Z Z<|uj Z (Pv.lss Z Z)<|qj Z Z<|nl ?_
     exact Vc.inv1 _ (by
      rcases hst with ⟨rfl,hne,_,rfl,rfl,_⟩ | ⟨rfl,_,rfl⟩
      · rw [dt,fileB_ne hne,encG_length];omega
      · rw [df];omega) (.cons rfl (.cons rfl (.cons rfl .nil))) pulled
   · simp only [beq_eq_false_iff_ne,ne_eq] at h18
     iterate 9 (first | refine Rg.skipP rfl rfl rfl ?_ | refine Rg.skipR rfl rfl rfl ?_ | refine Rg.skipE rfl rfl rfl ?_)
     refine pj Z Z<|nl ?_
     exact Vc.inv1 false (by
      rcases hst with ⟨_,_,rfl,_⟩ | ⟨rfl,_⟩
      · exact absurd rfl h18
      · rfl) (.cons rfl (.cons rfl (.cons rfl .nil))) pulled
 · rintro bb rfl
   refine Vc.cut1 (fun (R:RdS)=>Tl byteE (.slice R.p R.text.length R.c) R.text R.q1∧R.text.length≤800∧DiskAt db R.D R.q2∧Out C none1 (fun _=>R.text=rcsB l∧R.at_=R.sz) D 0 R.e R.D) (fun R=>[(0,.pointer (some ⟨rb,0,none⟩)),(2,.pointer (some ⟨b2,0,none⟩))]) (fun R=>(b2,cellsO [.int .u64 0,.int .u64 0] 293)::(rb,rdO db nm R.at_ R.sz (.slice R.p R.text.length R.c) R.short R.e)::(R.q1++R.q2)) ?_ ?_
   · refine cj Z (fun h28=>?_) (fun h28=>?_)
     · subst h28
       obtain ⟨f,hff,hfl⟩:=hf rfl
       obtain ⟨_,hne,rfl,rfl,rfl,rfl⟩:=hst.resolve_right (fun h=>by cases h.1)
       refine tj [.p,.p,.e,.p,.p,.e] Z<|mj Z<|mj Z<|Rg.callH Z Z Z (mz Z) (fun F' hF'=>in_z (F:=F') (rb:=rb) hC own hne hll hD hw hff hfl) Z ?_
       rintro _ _ ⟨e,D',at1,p1,c1,text1,short1,g1,g2,rfl,rfl,own31,hle,hD31,hO⟩
       rw [List.cons_append,lx]
       refine nj Z<|fj Z ?_
       refine Rg.store Z Z Z Z Z Z Z Z<|nl ?_
       exact Vc.inv1 (⟨at1,(fileB l).length,p1,c1,text1,short1,e,D',g1,g2⟩:RdS) ⟨own31,hle,hD31,hO⟩ (.cons rfl (.cons rfl .nil)) pulled
     · subst h28
       obtain ⟨_,rfl,rfl⟩:=hst.resolve_left (fun h=>by cases h.1)
       refine kj ?_
       exact Vc.inv1 (⟨at0,at0,p0,c0,rcsB l,short0,0,D,q0,s2⟩:RdS) ⟨own,by (show (rcsB l).length≤800);omega,hD,hw,.inl ⟨rfl,.refl hup,rfl,rfl⟩⟩ (.cons rfl (.cons rfl .nil)) pulled
   · rintro ⟨at1,sz1,p1,c1,text1,short1,e,D1,g1,g2⟩ ⟨ownR,hle,hDR,hO⟩
     simp only at ownR hle hDR hO ⊢
     have hcap:=ownR.cap
     refine wj<|sj [.p,.p,.p,.r,.p,.p,.p,.p,.p,.r,.p,.p,.p] Z<|mj Z<|nj Z<|fj Z<|lj Z Z<|uj Z (Pv.neq Z Z)<|mj Z ?_
     refine Rg.split (t:=39) Z (fun h39=>?_) (fun h39=>?_)
     · simp only [bne_iff_ne,ne_eq] at h39
       obtain ⟨he7,hB⟩:=hO.bad h39
       iterate 6 (first | refine Rg.skipP rfl rfl rfl ?_ | refine Rg.skipR rfl rfl rfl ?_ | refine Rg.skipE rfl rfl rfl ?_)
       refine qj Z Z<|nl<|Vc.condT Z<|wj ?_
       refine Vc.drawS [] (sd [(1,.pure),(2,.pure),(3,.pure),(4,.read),(0,.eff),(5,.eff),(6,.pure),(7,.pure)]) [(rb,rdO db nm at1 sz1 (.slice p1 text1.length c1) short1 e)] pulled mixed (by kernel_rfl)<|mj Z<|nj Z<|fj Z<|lj Z Z ?_
       refine Rg.loadAE Z Z Z Z Z<|Rg.storeAN Z Z Z Z Z Z Z<|aj Z<|aj Z<|nl ?_
       exact vr rfl (.cons (.cellA rfl rfl) (.cons (.tmp rfl) (tz Z))) (⟨⟨0,0⟩,false,e,D1,(rb,rdO db nm at1 sz1 (.slice p1 text1.length c1) short1 e)::g1,g2,rfl,rfl,hDR,⟨hO.wz,.inr ⟨he7,hB⟩⟩,fun h=>absurd h h39,fun _=>rfl,fun _=>rfl⟩) pulled
     · simp only [bne_eq_false_iff_eq] at h39
       subst h39
       obtain ⟨_,hG,htx,hat⟩:=hO.good (by decide)
       subst htx
       subst hat
       refine mj Z<|nj Z<|fj Z<|lj Z Z<|uj Z (Pv.lenS Z)<|uj Z (Pv.eql Z Z)<|pj Z Z<|nl<|cj Z (fun h46=>?_) (fun h46=>?_)
       · simp only [beq_iff_eq] at h46
         obtain rfl:l=[]:=List.length_eq_zero_iff.1 (by omega)
         refine wj ?_
         refine Vc.drawS [] (sd [(1,.pure),(2,.pure),(3,.pure),(4,.read),(0,.eff),(5,.eff),(6,.pure),(7,.pure)]) [(rb,rdO db nm at1 at1 (.slice p1 (rcsB []).length c1) short1 0)] pulled mixed (by kernel_rfl)<|mj Z<|nj Z<|fj Z<|lj Z Z ?_
         refine Rg.loadAE Z Z Z Z Z<|Rg.storeAN Z Z Z Z Z Z Z<|aj Z<|aj Z<|nl ?_
         exact vr rfl (.cons (.cellA rfl rfl) (.cons (.tmp rfl) (tz Z))) (⟨⟨0,0⟩,false,0,D1,(rb,rdO db nm at1 at1 (.slice p1 (rcsB []).length c1) short1 0)::g1,g2,rfl,rfl,hDR,⟨hO.wz,.inl ⟨rfl,hG,.inl ⟨rfl,rfl⟩⟩⟩,fun _=>⟨at1,at1,p1,c1,rcsB [],short1,g1,ownR,.refl _,.inr ⟨rfl,rfl,rfl⟩⟩,fun h=>absurd rfl h,fun _=>rfl⟩) pulled
       · simp only [beq_eq_false_iff_ne,ne_eq] at h46
         obtain ⟨x,t,rfl⟩:∃x t,l=x::t:=by
          cases l with
          | nil=>exact absurd rfl h46
          | cons x t=>exact ⟨x,t,rfl⟩
         obtain ⟨hg1,hg2⟩:=getB_head (l:=t) (hI x (by simp))
         have hfrom:Tl byteE (.slice (if c1=16 then p1 else Option.map (fun x=>x.add (16*1)) p1) ((rcsB (x::t)).length-16) (c1-16)) (rcsB t) g1:=by
          have:=ownR.from (k:=16) (by omega) (by omega)
          rw [drop_head] at this
          exact this
         have hlt:(rcsB (x::t)).length-16=(rcsB t).length:=by rw [rcsB_length,rcsB_length,List.length_cons];omega
         rw [hlt] at hfrom
         refine kj<|sj [.p,.p,.p,.r,.e,.p,.p,.p,.p,.e] Z<|mj Z<|nj Z<|fj Z<|lj Z Z ?_
         refine Rg.callP Z Z Z (mz Z) (get_spec (Arg.tl ownR frz_sb) (by omega) 0 8 (by omega) (by omega) (by omega)) ?_
         rintro _ rfl
         refine mj Z<|xj Z Z<|xj Z Z<|fj Z ?_
         refine Rg.store Z Z Z Z Z Z Z Z<|nl<|sj [.p,.p,.p,.r,.e,.p,.p,.p,.p,.e] Z<|mj Z<|nj Z<|fj Z<|lj Z Z ?_
         refine Rg.callP Z Z Z (mz Z) (get_spec (Arg.tl ownR frz_sb) (by omega) 8 8 (by omega) (by omega) (by omega)) ?_
         rintro _ rfl
         refine mj Z<|xj Z Z<|xj Z Z<|fj Z ?_
         refine Rg.store Z Z Z Z Z Z Z Z<|nl<|sj [.p,.p,.p,.p,.r,.p,.p,.p,.e] Z<|mj Z<|mj Z<|nj Z<|fj Z<|lj Z Z<|uj Z (Pv.sl (lv:=some (.int .i64 ((16:Nat):Int))) (hv:=none) 16 (rcsB (x::t)).length rfl rfl rfl (by omega) hcap (fun _=>hcap))<|nj Z<|fj Z ?_
         refine Rg.store Z Z Z Z Z (by rfl) rfl rfl<|nl<|wj ?_
         rw [hg1,hg2,hlt]
         refine tj [.r,.e,.p,.p] Z<|rj Z (Ev.ldA Z Z)<|Rg.storeA Z Z Z Z Z Z Z Z<|aj Z<|aj Z<|nl ?_
         exact vr rfl (.cons (.cellA rfl rfl) (.cons (.tmp rfl) (tz Z))) (⟨x,true,0,D1,(rb,rdO db nm at1 at1 (.slice (if c1=16 then p1 else Option.map (fun x=>x.add (16*1)) p1) (rcsB t).length (c1-16)) short1 0)::g1,g2,rfl,rfl,hDR,⟨hO.wz,.inl ⟨rfl,hG,.inr ⟨t,rfl,rfl⟩⟩⟩,fun _=>⟨at1,at1,_,_,rcsB t,short1,g1,hfrom,.refl _,.inr ⟨rfl,rfl,rfl⟩⟩,fun h=>absurd rfl h,fun h=>(by cases h)⟩) pulled
set_option maxHeartbeats 2000000 in
theorem write_z (hC:C.Ok) (hD:DiskAt db D s) (hw:Wz C D) (hk:nm∈C.S) (hf:findF D.files nm=none) {vl:Value} {l:List Rc} (ha:Arg recE F vl l) (hI:InRs l) (hl:l.length<50) (hcap:16*l.length+6≤C.cap) :
 Spec Tryz.prog 252 #[.pointer (some ⟨db,0,none⟩),kS nm,vl] F s fun v s'=>∃e D',v=.int .i64 e∧DiskAt db D' s'∧Out C (· = nm) (fun D'=>findF D'.files nm=some ⟨fileB l,fileB l⟩) D 0 e D':=by
 obtain ⟨p,c,rfl⟩:=ha.shape
 refine Spec.of (n:=36) (vs:=[.pointer (some ⟨db,0,none⟩),kS nm,.slice p l.length c]) Tryz.func252 rfl Tryz.ntmps252 rfl ?_
 refine sj [.p] Z<|aj Z<|nl<|sj [.p,.p,.e,.p,.p,.p,.p,.p] Z<|mj Z<|mj Z<|Rg.callH Z Z Z (mz Z) (fun F' hF'=>newWriter_z (F:=F') hC hD hw hk hf) Z ?_
 rintro _ _ ⟨pw,e,D1,h1,h2,rfl,rfl,hD1,hO1,hW1⟩
 refine mj Z<|xj Z Z<|xj Z Z<|aj Z<|aj Z<|nl<|wj<|sj [.p,.p] Z<|mj Z<|uj Z (Pv.neq Z Z)<|nl<|cj Z (fun h19=>?_) (fun h19=>?_)
 · simp only [bne_iff_ne,ne_eq] at h19
   obtain ⟨he7,hB⟩:=hO1.bad h19
   refine sj [.p,.p] Z<|mj Z<|aj Z<|nl ?_
   exact vr (hl':=h2) (rest:=h1) rfl (tz Z) ⟨e,D1,rfl,hD1,hO1.wz,.inr ⟨he7,hB⟩⟩ ((List.Perm.of_eq (List.append_nil _)).trans List.perm_append_comm)
 · simp only [bne_eq_false_iff_eq] at h19
   subst h19
   obtain ⟨_,hG1,hf1⟩:=hO1.good (by decide)
   obtain ⟨wb,rfl,hW⟩:=hW1 rfl
   rw [List.append_nil]
   refine kj<|wj<|sj [.p,.p,.p] Z<|mj Z<|uj Z (Pv.lenS Z)<|mj Z<|nl<|bj ?_
   refine Vc.loop2 (fun (i:Nat) (s1:Hl)=>i≤l.length∧WtAt wb db nm (l.take i) s1) (fun i s1=>[(7,.pointer (some ⟨wb,0,none⟩)),(21,.slice p l.length c),(22,.int .i64 (l.length:Int)),(23,.int .i64 (i:Int))]) (fun i s1=>s1++h2) (fun i s1=>l.length-i) 0 h1 ⟨Nat.zero_le _,hW⟩ (.cons Z (.cons Z (.cons Z (.cons Z .nil)))) pulled ?_
   rintro i s1 ⟨hi,hWi⟩
   have htl:(l.take i).length=i:=by rw [List.length_take];omega
   refine sj [.p] Z<|uj Z (Pv.lss Z Z)<|nl<|wj<|cj Z (fun h24=>?_) (fun h24=>?_)
   · simp only [dt] at h24
     have hi1:i<l.length:=by omega
     obtain ⟨b,off,c1,e,_⟩:=ha.block (by omega)
     cases e
     have htk:l.take (i+1)=l.take i++[l[i]!]:=by rw [List.take_succ_eq_append_getElem hi1,getElem!_pos l i hi1]
     have hri:InR l[i]! := hI _ (by rw [getElem!_pos l i hi1];exact List.getElem_mem _)
     refine kj<|wj<|bj<|sj [.p,.r,.e,.e] Z<|uj Z (Pv.ixA (i) rfl rfl (by omega) (by omega))<|rj Z (Ev.as (recV l[i]!) (Ev.ldS (E:=recE) i ha.src rfl rfl rfl (by omega)) rfl)<|Rg.alloc Z Z Z Z (fun b10=>?_)
     refine Rg.storeA Z Z Z Z Z Z Z Z<|nl<|sj [.p,.r,.e,.p] Z<|mj Z<|rj Z (Ev.ldA Z Z)<|Rg.callH Z Z Z (mz Z) (fun F' hF'=>putR_z (F:=F') hWi (by omega) l[i]! hri) rfl ?_
     rintro _ g1 ⟨rfl,hW29⟩
     rw [←htk] at hW29
     refine aj Z<|nl<|sj [.p,.p] Z<|mj Z<|uj Z (Pv.neq Z Z)<|nl<|cj Z (fun h31=>absurd h31 (by decide)) (fun h31=>?_)
     refine kj<|dj<|tj [.p,.p] Z<|uj Z (Pv.asI (i+1) (Pv.add rfl rfl (by omega)) (by omega))<|mj Z<|nl ?_
     exact Vc.inv2 (i+1) g1 ⟨⟨by omega,hW29⟩,by omega⟩ (.cons rfl (.cons rfl (.cons rfl (.cons rfl .nil)))) pulled
   · simp only [df] at h24
     obtain rfl:i=l.length:=by omega
     rw [List.take_length] at hWi
     refine Vc.exit Z<|sj [.p,.e,.p] Z<|mj Z<|Rg.callH Z Z Z (mz Z) (fun F' hF'=>closeR_z (F:=F') hC hWi hl hD1 hO1.wz hG1.up hf1 hcap) Z ?_
     rintro _ s35 ⟨e2,D2,rfl,hD2,hO2⟩
     refine aj Z<|nl ?_
     exact vr rfl (tz Z) (⟨e2,D2,rfl,hD2,hO2.wz,hO2.2.imp (fun x=>⟨x.1,hG1.trans x.2.1,x.2.2⟩) (fun x=>⟨x.1,hG1.dn x.2⟩)⟩) pulled
set_option maxHeartbeats 2000000 in
theorem readR_z (hC:C.Ok) (hD:DiskAt db D s) (hw:Wz C D) {f:Fl} {l:List Rc} (hf:findF D.files nm=some f) (hl:f.now=fileB l) (hll:l.length<50) (hI:InRs l) :
 Spec Tryz.prog 260 #[.pointer (some ⟨db,0,none⟩),kS nm] F s fun v s'=>∃u e D' h1 h2,v=.tuple #[u,.int .i64 e]∧s'=h1++h2∧DiskAt db D' h2∧Out C none1 (fun _=>Own recE u l h1) D 0 e D':=by
 refine Spec.of (n:=37) (vs:=[.pointer (some ⟨db,0,none⟩),kS nm]) Tryz.func260 rfl Tryz.ntmps260 rfl ?_
 refine sj [.p,.p] Z<|aj Z<|aj Z<|nl<|sj [.p,.p,.e,.p,.p,.p,.p,.p] Z<|mj Z<|mj Z<|Rg.callH Z Z Z (mz Z) (fun F' hF'=>newReader_z (F:=F') hC hD hw hf hl) Z ?_
 rintro _ _ ⟨p,e,D1,h1,h2,rfl,rfl,hD1,hO1,hR1⟩
 refine mj Z<|xj Z Z<|xj Z Z<|aj Z<|aj Z<|nl<|wj<|sj [.p,.p] Z<|mj Z<|uj Z (Pv.neq Z Z)<|nl<|cj Z (fun h17=>?_) (fun h17=>?_)
 · simp only [bne_iff_ne,ne_eq] at h17
   obtain ⟨he7,hB⟩:=hO1.bad h17
   refine sj [.p,.p,.p] Z<|mj Z<|aj Z<|aj Z<|nl ?_
   exact vr (hl':=[]++h2) (rest:=h1) rfl (.cons (.tmp rfl) (tz Z)) ⟨_,e,D1,[],h2,rfl,rfl,hD1,hO1.wz,.inr ⟨he7,hB⟩⟩ ((List.Perm.of_eq (List.append_nil _)).trans List.perm_append_comm)
 · simp only [bne_eq_false_iff_eq] at h17
   subst h17
   obtain ⟨_,hG1,_⟩:=hO1.good (by decide)
   obtain ⟨rb,rfl,hR⟩:=hR1 rfl
   rw [List.append_nil]
   refine kj<|bj ?_
   refine Vc.loop7 (fun (acc rest:List Rc) (fresh:Bool) (D':Dk) (q1 q2:Hl) (w:Value×Hl)=>acc++rest=l∧Gd none1 D D'∧Wz C D'∧RdT rb db nm rest fresh q1∧DiskAt db D' q2∧Own recE w.1 acc w.2∧(fresh=true→rest=l)) (fun acc rest fresh D' q1 q2 w=>[(4,w.1),(6,.pointer (some ⟨rb,0,none⟩))]) (fun acc rest fresh D' q1 q2 w=>q1++(q2++w.2)) (fun acc rest fresh D' q1 q2 w=>rest.length) [] l (decide (l≠[])) D1 h1 h2 (_,[]) ⟨Z,hG1,hO1.wz,hR,hD1,.nil,fun _=>Z⟩ (.cons Z (.cons Z .nil)) pulled ?_
   rintro acc rest fresh D' q1 q2 ⟨w1,w2⟩ ⟨hl2,hG,hW,hR,hD,own,hfr⟩
   simp only at own ⊢
   have hacc:=congrArg List.length hl2
   rw [ly] at hacc
   obtain ⟨pa,ca,rfl⟩:=own.shape
   rw [←lx]
   refine bj<|sj [.p,.e,.p,.p,.p,.p,.e,.e,.p,.p] Z<|mj Z<|Rg.callH Z Z Z (mz Z) (fun F' hF'=>next_z (F:=F') hC hR (by omega) (fun r hr=>hI r (by rw [←hl2];simp [hr])) hD hW hG.up (fun h=>⟨f,by rw [hG.same _ (fun h=>h.elim)];exact hf,by rw [hfr h];exact hl⟩)) rfl ?_
   rintro _ _ ⟨x,is,e,D2,g1,g2,rfl,rfl,hD21,hO21,hR21,hi21,_⟩
   rw [lx]
   refine mj Z<|xj Z Z<|xj Z Z<|xj Z Z<|Rg.alloc Z Z Z Z (fun b7=>?_)
   refine Rg.storeA Z Z Z Z Z Z Z Z<|aj Z<|aj Z<|nl<|bj<|sj [.p,.p,.p] Z<|mj Z<|uj Z (Pv.neq Z Z)<|aj Z<|nl<|cj Z (fun h29=>?_) (fun h29=>?_)
   · simp only [bne_iff_ne,ne_eq] at h29
     obtain ⟨he7,hB⟩:=hO21.bad h29
     refine sj [.p,.p,.p] Z<|mj Z<|aj Z<|aj Z<|nl ?_
     exact vr (hl':=[]++g2) rfl (.cons (.tmp rfl) (tz Z)) ⟨_,e,D2,[],g2,rfl,rfl,hD21,hO21.wz,.inr ⟨he7,hG.dn hB⟩⟩ pulled
   · simp only [bne_eq_false_iff_eq] at h29
     subst h29
     obtain ⟨_,hG21,hcase⟩:=hO21.good (by decide)
     have hR22:=hR21 rfl
     refine sj [.p,.p,.p] Z<|mj Z<|uj Z (Pv.not Z)<|aj Z<|nl<|cj Z (fun h33=>?_) (fun h33=>?_)
     · simp only [Bool.not_eq_true'] at h33
       obtain ⟨rfl,_⟩:=hcase.resolve_right (fun ⟨t,_,h⟩=>by rw [h] at h33;cases h33)
       rw [List.append_nil] at hl2
       subst hl2
       refine sj [.p,.p,.p] Z<|mj Z<|aj Z<|aj Z<|nl ?_
       exact vr (hl':=w2++g2) rfl (.cons (.tmp rfl) (tz Z)) ⟨_,0,D2,w2,g2,rfl,rfl,hD21,hO21.wz,.inl ⟨rfl,hG.trans hG21,own⟩⟩ pulled
     · simp only [Bool.not_eq_false'] at h33
       obtain ⟨t,rfl,_⟩:=hcase.resolve_left (fun ⟨_,h⟩=>by rw [h] at h33;cases h33)
       refine tj [.p,.r,.e,.e,.p] Z<|mj Z<|rj Z (Ev.ldA Z Z)<|Rg.bslice1 Z Z Z Z Z Z Z (fun b27=>?_)
       refine Rg.append Z Z Z Z Z own (Src.one (y:=x) rfl) (by simp<;>omega) (by simp [maxLen]<;>omega) rfl (fun v28 s28 own28=>?_)
       refine aj Z<|nl<|dj<|dj ?_
       exact Vc.inv7 (acc++[x]) t false D2 g1 g2 (v28,s28) ⟨⟨by rw [←hl2];simp,hG.trans hG21,hO21.wz,hR22,hD21,own28,fun h=>by cases h⟩,by simp⟩ (.cons rfl (.cons rfl .nil)) pulled
end
section
variable {P : Program} {n : Nf} {F : Fm} {l : Env} {hl : Hl} {d : Option Tmp} {ty : TypeId} {pos : String} {af : Array Edge} {g : Option (Nat × Bool)}
theorem Pv.slStr {t:TypeId} {s:ByteArray} {x:Operand} {lo hi:Option Operand} (i j:Nat) [ht:TyUnder P t .string] (hx:ev l x=some (.string s))
 (hlo:match lo with | none=>i=0 | some y=>ev l y=some (.int .i64 (i:Int))) (hhi:match hi with | none=>j=s.size | some y=>ev l y=some (.int .i64 (j:Int))) (hij:i≤j) (hj:j≤s.size) :
 Pv P n l ⟨d,.slice t x lo hi none,ty,pos,af,g⟩ (.string (s.extract i j)):=fun a w hf=>by
 cases lo with
 | none =>
  simp only at hlo;subst hlo
  cases hi with
  | none=>simp only at hhi;subst hhi;simp [execOp,Instr.sliceAt,Instr.slice,Instr.sliceBounds,run_underlying ht.under,hf.ev hx]
  | some y=>simp only at hhi;simp [execOp,Instr.sliceAt,Instr.slice,Instr.sliceBounds,Instr.sliceBound,run_underlying ht.under,hf.ev hx,hf.ev hhi,asIntOf,hj]
 | some z =>
  simp only at hlo
  cases hi with
  | none=>simp only at hhi;subst hhi;simp [execOp,Instr.sliceAt,Instr.slice,Instr.sliceBounds,Instr.sliceBound,run_underlying ht.under,hf.ev hx,hf.ev hlo,asIntOf,hij]
  | some y=>simp only at hhi;simp [execOp,Instr.sliceAt,Instr.slice,Instr.sliceBounds,Instr.sliceBound,run_underlying ht.under,hf.ev hx,hf.ev hhi,hf.ev hlo,asIntOf,hj,hij]
theorem Pv.addS {t t':TypeId} {x y:Operand} {p q:ByteArray} (hx:ev l x=some (.string p)) (hy:ev l y=some (.string q)) (h:p.size+q.size≤9223372036854775807):Pv P n l ⟨d,.binOp .add t x y t',ty,pos,af,g⟩ (.string (p++q)):=fun a w hf=>by
 have : ¬(((p.size+q.size:Nat):Int)>IntKind.i64.max):=by show ¬(_>(9223372036854775807:Int));omega
 simp [execOp,hf.ev hx,hf.ev hy,eqGuard,binOp,Op.stringOp]
 omega
end
theorem str_app (a b:List UInt8):(⟨a.toArray⟩:ByteArray)++⟨b.toArray⟩=⟨(a++b).toArray⟩:=by
 apply ByteArray.ext
 simp
theorem str_ext (a:List UInt8) (i j:Nat):(⟨a.toArray⟩:ByteArray).extract i j=⟨((a.drop i).take (j-i)).toArray⟩:=by
 apply ByteArray.ext
 simp
theorem str_size (a:List UInt8):(⟨a.toArray⟩:ByteArray).size=a.length:=rfl
section
variable {P : Program} {n : Nf} {l : Env} {d : Option Tmp} {ty : TypeId} {pos : String} {af : Array Edge} {g : Option (Nat × Bool)}
theorem Pv.addK {t t':TypeId} {x y:Operand} {p q:List UInt8} (hx:ev l x=some (kS p)) (hy:ev l y=some (kS q)) (h:p.length+q.length≤9223372036854775807):Pv P n l ⟨d,.binOp .add t x y t',ty,pos,af,g⟩ (kS (p++q)):=by
 have:=Pv.addS (P:=P) (n:=n) (l:=l) (d:=d) (ty:=ty) (pos:=pos) (af:=af) (g:=g) (t:=t) (t':=t') hx hy h
 rwa [str_app] at this
theorem Pv.slK {t:TypeId} {s:List UInt8} {x:Operand} {lo hi:Option Operand} (i j:Nat) [ht:TyUnder P t .string] (hx:ev l x=some (kS s))
 (hlo:match lo with | none=>i=0 | some y=>ev l y=some (.int .i64 (i:Int))) (hhi:match hi with | none=>j=s.length | some y=>ev l y=some (.int .i64 (j:Int))) (hij:i≤j) (hj:j≤s.length) :
 Pv P n l ⟨d,.slice t x lo hi none,ty,pos,af,g⟩ (kS ((s.drop i).take (j-i))):=by
 have:=Pv.slStr (P:=P) (n:=n) (l:=l) (d:=d) (ty:=ty) (pos:=pos) (af:=af) (g:=g) (t:=t) (s:=⟨s.toArray⟩) (lo:=lo) (hi:=hi) i j hx hlo hhi hij hj
 rwa [str_ext] at this
end
def dig (i:Nat):List UInt8:=if i<10 then [UInt8.ofNat (48+i)] else [UInt8.ofNat (48+i / 10),UInt8.ofNat (48+i % 10)]
theorem dig_len (i:Nat):(dig i).length≤2:=by unfold dig;split<;>simp
theorem small_spec {F:Fm} (i:Nat) (hi:i<100):Spec Tryz.prog 123 #[.int .i64 (i:Int)] F [] fun v _=>v=kS (dig i):=by
 refine Spec.of (n:=15) (vs:=[.int .i64 (i:Int)]) Tryz.func123 rfl Tryz.ntmps123 rfl ?_
 refine sj [.p] Z<|aj Z<|nl<|wj<|sj [.p,.p] Z<|mj Z<|uj Z (Pv.lss Z Z)<|nl<|cj Z (fun h4=>?_) (fun h4=>?_)
 · simp only [dt] at h4
   have hi10:i<10:=by omega
   refine sj [.p,.p,.p,.p,.p] Z<|mj Z<|mj Z<|uj Z (Pv.asI (i+1) (Pv.add rfl rfl (by omega)) (by omega))<|uj Z (Pv.slStr i (i+1) rfl rfl rfl (by omega) (by (show i+1≤36);omega))<|aj Z<|nl<|vz Z (tz Z) ?_
   exact (show Value.string _=kS (dig i) from by
    have key:∀j,j<10→(⟨#[48,49,50,51,52,53,54,55,56,57,97,98,99,100,101,102,103,104,105,106,107,108,109,110,111,112,113,114,115,116,117,118,119,120,121,122]⟩:ByteArray).extract j (j+1)=⟨(dig j).toArray⟩:=by decide +kernel
    exact congrArg Value.string (key i hi10))
 · simp only [df] at h4
   have hi10:10≤i:=by omega
   refine kj<|sj [.p,.p,.p,.p,.p,.p,.p] Z<|mj Z<|uj Z (Pv.asI (2*i) (Pv.mul rfl rfl (by omega)) (by omega))<|mj Z<|uj Z (Pv.asI (2*i) (Pv.mul rfl rfl (by omega)) (by omega))<|uj Z (Pv.asI (2*i+2) (Pv.add rfl rfl (by omega)) (by omega))<|uj Z (Pv.slStr (2*i) (2*i+2) rfl rfl rfl (by omega) (by (show 2*i+2≤200);omega))<|aj Z<|nl<|vz Z (tz Z) ?_
   exact (show Value.string (ByteArray.extract _ (2*i) (2*i+2))=kS (dig i) from by
    refine congrArg Value.string ?_
    have key:∀j,j<100→10≤j→(⟨((List.range 100).flatMap fun k=>[UInt8.ofNat (48+k / 10),UInt8.ofNat (48+k % 10)]).toArray⟩:ByteArray).extract (2*j) (2*j+2)=⟨(dig j).toArray⟩:=by decide +kernel
    rw [←key i hi hi10]
    refine congrArg (fun s:ByteArray=>s.extract (2*i) (2*i+2)) ?_
    decide +kernel)
theorem formatInt_spec {F:Fm} (i:Nat) (hi:i<100):Spec Tryz.prog 105 #[.int .i64 (i:Int),.int .i64 10] F [] fun v _=>v=kS (dig i):=by
 refine Spec.of (n:=54) (vs:=[.int .i64 (i:Int),.int .i64 10]) Tryz.func105 rfl Tryz.ntmps105 rfl ?_
 refine sj [.p] Z<|aj Z<|nl<|wj<|sj [.p,.p] Z<|mj Z<|uj Z (Pv.eql Z Z)<|nl<|cj Z (fun h11=>?_) (fun h11=>absurd h11 (by decide))
 refine wj<|sj [.p,.p,.p,.p,.p,.p] Z<|mj Z<|uj Z (Pv.leq Z Z)<|mj Z<|Rg.split (t:=14) rfl (fun h14=>?_) (fun h14=>absurd h14 (by (simp only [df];omega)))
 refine mj Z<|uj Z (Pv.lss Z Z)<|qj Z Z<|nl<|cj Z (fun h17=>?_) (fun h17=>absurd h17 (by (simp only [df];omega)))
 refine sj [.p,.e,.p] Z<|mj Z<|Rg.callP Z Z Z (mz Z) (small_spec i hi) ?_
 rintro _ rfl
 refine aj Z<|nl<|vz Z (tz Z) ?_
 rfl
theorem iitoa_spec {F:Fm} (i:Nat) (hi:i<100):Spec Tryz.prog 87 #[.int .i64 (i:Int)] F [] fun v _=>v=kS (dig i):=by
 refine Spec.of (n:=5) (vs:=[.int .i64 (i:Int)]) Tryz.func87 rfl Tryz.ntmps87 rfl ?_
 refine sj [.p] Z<|aj Z<|nl<|sj [.p,.e,.p] Z<|mj Z<|Rg.callP Z Z Z (mz Z) (formatInt_spec i hi) ?_
 rintro _ rfl
 refine aj Z<|nl<|vz Z (tz Z) ?_
 rfl
theorem itoa_spec {F:Fm} (i:Nat) (hi:i<100):Spec Tryz.prog 74 #[.int .i64 (i:Int)] F [] fun v _=>v=kS (dig i):=by
 refine Spec.of (n:=5) (vs:=[.int .i64 (i:Int)]) Tryz.func74 rfl Tryz.ntmps74 rfl ?_
 refine sj [.p] Z<|aj Z<|nl<|sj [.p,.e,.p] Z<|mj Z<|Rg.callP Z Z Z (mz Z) (iitoa_spec i hi) ?_
 rintro _ rfl
 refine aj Z<|nl<|vz Z (tz Z) ?_
 rfl
theorem iformatUint_spec {F:Fm} (i:Nat) (hi:i<100):Spec Tryz.prog 233 #[.int .u64 (i:Int),.int .i64 10] F [] fun v _=>v=kS (dig i):=by
 refine Spec.of (n:=32) (vs:=[.int .u64 (i:Int),.int .i64 10]) Tryz.func233 rfl Tryz.ntmps233 rfl ?_
 refine sj [.p] Z<|aj Z<|nl<|wj<|sj [.p,.p] Z<|mj Z<|uj Z (Pv.eql Z Z)<|nl<|cj Z (fun h10=>?_) (fun h10=>absurd h10 (by decide))
 refine wj<|sj [.p,.p] Z<|mj Z<|uj Z (Pv.lss Z Z)<|nl<|cj Z (fun h12=>?_) (fun h12=>absurd h12 (by (simp only [df];omega)))
 refine sj [.p,.p,.e,.p] Z<|mj Z<|uj Z (Pv.asI i (Pv.convI rfl) (i64_wrap (by omega)))<|Rg.callP Z Z Z (mz Z) (small_spec i hi) ?_
 rintro _ rfl
 refine aj Z<|nl<|vz Z (tz Z) ?_
 rfl
theorem formatUint_spec {F:Fm} (i:Nat) (hi:i<100):Spec Tryz.prog 202 #[.int .u64 (i:Int),.int .i64 10] F [] fun v _=>v=kS (dig i):=by
 refine Spec.of (n:=8) (vs:=[.int .u64 (i:Int),.int .i64 10]) Tryz.func202 rfl Tryz.ntmps202 rfl ?_
 refine sj [.p] Z<|aj Z<|nl<|sj [.p,.p,.e,.p] Z<|mj Z<|mj Z<|Rg.callP Z Z Z (mz Z) (iformatUint_spec i hi) ?_
 rintro _ rfl
 refine aj Z<|nl<|vz Z (tz Z) ?_
 rfl
theorem hasPrefix_spec {F:Fm} (s p:List UInt8) (hs:s.length<4611686018427387904):Spec Tryz.prog 117 #[kS s,kS p] F [] fun v _=>v=.bool (decide (p <+: s)):=by
 refine Spec.of (n:=18) (vs:=[kS s,kS p]) Tryz.func117 rfl Tryz.ntmps117 rfl ?_
 refine sj [.p] Z<|aj Z<|nl<|sj [.p,.p,.p,.p,.p,.p,.p,.p,.p,.p,.p,.p,.p,.p] Z<|mj Z<|uj Z (Pv.lenStr Z)<|mj Z<|uj Z (Pv.lenStr Z)<|uj Z (Pv.geq Z Z)<|mj Z<|Rg.split (t:=10) Z (fun h10=>?_) (fun h10=>?_)
 · simp only [dt,str_size] at h10
   refine mj Z<|mj Z<|uj Z (Pv.lenStr Z)<|uj Z (Pv.slK 0 p.length rfl rfl rfl (Nat.zero_le _) (by omega))<|mj Z<|uj Z (Pv.eqlS Z Z)<|qj Z Z<|aj Z<|nl<|vz Z (tz Z) ?_
   exact congrArg Value.bool (by
    rw [Bool.eq_iff_iff,dt,dt,kS_ne,List.drop_zero,Nat.sub_zero,List.prefix_iff_eq_take,eq_comm])
 · simp only [df,str_size] at h10
   iterate 6 (first | refine Rg.skipP rfl rfl rfl ?_ | refine Rg.skipR rfl rfl rfl ?_ | refine Rg.skipE rfl rfl rfl ?_)
   refine pj Z Z<|aj Z<|nl<|vz Z (tz Z) ?_
   exact congrArg Value.bool (by
    rw [eq_comm,df]
    intro h
    have:=h.length_le
    omega)
theorem icutPrefix_spec {F:Fm} (s p:List UInt8) (hs:s.length<4611686018427387904):Spec Tryz.prog 102 #[kS s,kS p] F [] fun v _=>v=.tuple #[kS (if p <+: s then s.drop p.length else s),.bool (decide (p <+: s))]:=by
 refine Spec.of (n:=15) (vs:=[kS s,kS p]) Tryz.func102 rfl Tryz.ntmps102 rfl ?_
 refine sj [.p,.p] Z<|aj Z<|aj Z<|nl<|wj<|sj [.p,.p,.e,.p] Z<|mj Z<|mj Z<|Rg.callP Z Z Z (mz Z) (hasPrefix_spec s p hs) ?_
 rintro _ rfl
 refine uj Z (Pv.not Z)<|nl<|cj Z (fun h9=>?_) (fun h9=>?_)
 · simp only [Bool.not_eq_true',df] at h9
   refine sj [.p,.p,.p] Z<|mj Z<|aj Z<|aj Z<|nl<|Vc.ret (Vc.rets Z (.cons (.tmp Z) (tz Z)) ?_)
   rw [if_neg h9,decide_eq_false h9]
   rfl
 · simp only [Bool.not_eq_false',dt] at h9
   have hple:=h9.length_le
   refine kj<|sj [.p,.p,.p,.p,.p,.p] Z<|mj Z<|mj Z<|uj Z (Pv.lenStr Z)<|uj Z (Pv.slK p.length s.length Z Z Z hple (Nat.le_refl _))<|aj Z<|aj Z<|nl<|Vc.ret (Vc.rets Z (.cons (.tmp Z) (tz Z)) ?_)
   rw [if_pos h9,decide_eq_true h9,List.take_of_length_le (by rw [List.length_drop];omega)]
   rfl
theorem cutPrefix_spec {F:Fm} (s p:List UInt8) (hs:s.length<4611686018427387904):Spec Tryz.prog 80 #[kS s,kS p] F [] fun v _=>v=.tuple #[kS (if p <+: s then s.drop p.length else s),.bool (decide (p <+: s))]:=by
 refine Spec.of (n:=11) (vs:=[kS s,kS p]) Tryz.func80 rfl Tryz.ntmps80 rfl ?_
 refine sj [.p,.p] Z<|aj Z<|aj Z<|nl<|sj [.p,.p,.e,.p,.p,.p,.p] Z<|mj Z<|mj Z<|Rg.callP Z Z Z (mz Z) (icutPrefix_spec s p hs) ?_
 rintro _ rfl
 refine xj Z Z<|xj Z Z<|aj Z<|aj Z<|nl<|Vc.ret (Vc.rets Z (.cons (.tmp Z) (tz Z)) ?_)
 rfl
end Go.Proofs.YtkpiakgmkpbikaaGreatDoor
