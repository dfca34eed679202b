/- Steps of the proof. -/
import Derived.Test.YtkpiakgmkpbikaaGreatDoorSlD
import Derived.Laws.BytesArg
import Derived.Maps.RangeRun
import Derived.MapKept
import Derived.WideKeyRuns
import Derived.Laws.MakeOwn
import Derived.Laws.Strings
set_option linter.unusedVariables false
namespace Go.Proofs.YtkpiakgmkpbikaaGreatDoor
class TySl (P:Program) (t:TypeId) {α:Type} (E:Enc α) (B:outParam Nat):Prop where
 under:P.underlying t=some (.slice E.tid)
 info:∃i z,P.info? E.tid=some i∧i.zero=some z∧i.size=E.k∧i.bytes=B∧z.cells.size=E.k
inductive Own {α:Type} (E:Enc α):Value→List α→Hl→Prop where
 | nil:Own E (.slice none 0 0) [] []
 | blk (b cap:Nat) (xs:List α) (sp:List Value) (hc:xs.length*E.k+sp.length=cap*E.k) (hm:cap≤maxLen):Own E (.slice (some ⟨b,0,none⟩) xs.length cap) xs [(b,rowS E xs sp)]
theorem Own.blk' {α:Type} {E:Enc α} (b cap m:Nat) (xs:List α) (sp:List Value) (hm:m=xs.length) (hc:m*E.k+sp.length=cap*E.k) (hcm:cap≤maxLen):Own E (.slice (some ⟨b,0,none⟩) m cap) xs [(b,rowS E xs sp)]:=by
 subst hm;exact .blk b cap xs sp hc hcm
theorem Own.shape {α:Type} {E:Enc α} {v:Value} {xs:List α} {seg:Hl} (h:Own E v xs seg):∃p cap,v=.slice p xs.length cap:=by
 cases h with
 | nil=>exact ⟨none,0,rfl⟩
 | blk b cap _ sp hc hm=>exact ⟨_,_,rfl⟩
theorem Own.block {α:Type} {E:Enc α} {v:Value} {xs:List α} {seg:Hl} (h:Own E v xs seg) (hx:0<xs.length):∃b cap sp,v=.slice (some ⟨b,0,none⟩) xs.length cap∧seg=[(b,rowS E xs sp)]∧xs.length*E.k+sp.length=cap*E.k∧cap≤maxLen:=by
 cases h with
 | nil=>simp at hx
 | blk b cap _ sp hc hm=>exact ⟨b,cap,sp,rfl,rfl,hc,hm⟩
theorem Own.one {α:Type} {E:Enc α} {v:Value} {xs:List α} {seg:Hl} (h:Own E v xs seg):v.oneCell'=true:=by
 cases h<;>rfl
inductive Tl {α:Type} (E:Enc α):Value→List α→Hl→Prop where
 | nil:Tl E (.slice none 0 0) [] []
 | blk (b off c:Nat) (ys zs:List α) (sp:List Value) (h:ys=[]∨∃j,off=j*E.k∧ys=zs.drop j) (hc:ys.length≤c):Tl E (.slice (some ⟨b,off,none⟩) ys.length c) ys [(b,rowS E zs sp)]
theorem Own.tl {α:Type} {E:Enc α} {v:Value} {xs:List α} {seg:Hl} (h:Own E v xs seg):Tl E v xs seg:=by
 cases h with
 | nil=>exact .nil
 | blk b cap _ sp hc hm=>exact .blk b 0 cap xs xs sp (.inr ⟨0,by simp,rfl⟩) (Nat.le_of_mul_le_mul_right (show xs.length*E.k≤cap*E.k by omega) E.pos)
theorem Tl.shape {α:Type} {E:Enc α} {v:Value} {xs:List α} {seg:Hl} (h:Tl E v xs seg):∃p c,v=.slice p xs.length c:=by
 cases h with
 | nil=>exact ⟨none,0,rfl⟩
 | blk b off c _ zs sp h hc=>exact ⟨_,_,rfl⟩
def Src {α:Type} (E:Enc α) (F:Fm) (hl:Hl) (v:Value) (ys:List α):Prop :=
 ((∃p c,v=.slice p 0 c)∧ys=[])∨∃b off c,v=.slice (some ⟨b,off,none⟩) ys.length c∧∀w,St F hl w→∀j u,(flat E ys)[j]? = some u→w.cell? ⟨b,off+j,none⟩=some u
def Arg {α:Type} (E:Enc α) (F:Fm) (v:Value) (ys:List α):Prop :=
 ((∃p c,v=.slice p 0 c)∧ys=[])∨∃b off c,v=.slice (some ⟨b,off,none⟩) ys.length c∧ys.length≤c∧∀w:World,(∀b o,F.at_ b o→w.heap[b]? = some o)→∀j u,(flat E ys)[j]? = some u→w.cell? ⟨b,off+j,none⟩=some u
theorem Arg.src {α:Type} {E:Enc α} {F:Fm} {v:Value} {ys:List α} (h:Arg E F v ys) {hl:Hl}:Src E F hl v ys:=by
 rcases h with h | ⟨b,off,c,e,_,h⟩
 · exact .inl h
 · exact .inr ⟨b,off,c,e,fun w ⟨_,hw⟩=>h w hw.frame⟩
theorem Arg.nil {α:Type} {E:Enc α} {F:Fm} {p:Option Addr} {c:Nat}:Arg E F (.slice p 0 c) []:=.inl ⟨⟨p,c,rfl⟩,rfl⟩
theorem Arg.mono {α:Type} {E:Enc α} {F F':Fm} {v:Value} {ys:List α} (h:Arg E F v ys) (hF:∀b o,F.at_ b o→F'.at_ b o):Arg E F' v ys:=by
 rcases h with h | ⟨b,off,c,e,hc,h⟩
 · exact .inl h
 · exact .inr ⟨b,off,c,e,hc,fun w hw=>h w fun b o ho=>hw b o (hF b o ho)⟩
theorem Arg.shape {α:Type} {E:Enc α} {F:Fm} {v:Value} {ys:List α} (h:Arg E F v ys):∃p c,v=.slice p ys.length c:=by
 rcases h with ⟨⟨p,c,rfl⟩,rfl⟩ | ⟨b,off,c,e,h⟩
 · exact ⟨p,c,rfl⟩
 · exact ⟨_,_,e⟩
theorem Arg.own {α:Type} {E:Enc α} {F:Fm} {v:Value} {ys:List α} {seg:Hl} (h:Own E v ys seg) (hF:∀b o,(b,o)∈seg→F.at_ b o):Arg E F v ys:=by
 cases h with
 | nil=>exact .inl ⟨⟨_,_,rfl⟩,rfl⟩
 | blk b cap _ sp hc hm =>
  refine .inr ⟨b,0,cap,rfl,Nat.le_of_mul_le_mul_right (show ys.length*E.k≤cap*E.k by omega) E.pos,fun w hw j u hu=>?_⟩
  have:=hw b _ (hF b _ List.mem_cons_self)
  simp only [World.cell?,this,rowS,Option.isSome_none,Bool.false_eq_true,if_false,Nat.zero_add,List.getElem?_toArray]
  rw [List.getElem?_append_left ((List.getElem?_eq_some_iff.1 hu).1),hu]
theorem Arg.tl {α:Type} {E:Enc α} {F:Fm} {v:Value} {ys:List α} {seg:Hl} (h:Tl E v ys seg) (hF:∀b o,(b,o)∈seg→F.at_ b o):Arg E F v ys:=by
 cases h with
 | nil=>exact .inl ⟨⟨_,_,rfl⟩,rfl⟩
 | blk b off c _ zs sp h hc =>
  refine .inr ⟨b,off,c,rfl,hc,fun w hw j u hu=>?_⟩
  have:=hw b _ (hF b _ List.mem_cons_self)
  rcases h with rfl | ⟨i,rfl,rfl⟩
  · simp [flat] at hu
  · simp only [World.cell?,this,rowS,Option.isSome_none,Bool.false_eq_true,if_false,List.getElem?_toArray]
    have e:flat E zs=flat E (zs.take i)++flat E (zs.drop i):=by
     conv=>lhs;rw [←List.take_append_drop i zs]
     simp only [flat,List.flatMap_append]
    have hj:=(List.getElem?_eq_some_iff.1 hu).1
    have hlen:(flat E (zs.take i)).length=i*E.k:=by
     rw [flat_length]
     congr 1
     by_cases hi:i≤zs.length
     · simp;omega
     · rw [List.drop_eq_nil_of_le (by omega)] at hj;simp [flat] at hj
    rw [e,lx,List.getElem?_append_right (by omega),hlen,show i*E.k+j-i*E.k=j by omega,List.getElem?_append_left hj,hu]
section
variable {P : Program} {n : Nf} {F : Fm} {l : Env} {hl : Hl} {ty : TypeId} {pos : String} {af : Array Edge} {g : Option (Nat × Bool)} {α : Type} {E : Enc α}
variable {Qf : Exit → Act → World → Prop} {ks : List KItem} {ops : List Oper} {clr : List Nat} {hs : Hl} {r : Sd} {i : Nat}
theorem flat_append (xs ys:List α):flat E (xs++ys)=flat E xs++flat E ys:=by simp [flat]
theorem flat_one (xs:List α):∀u∈flat E xs,u.oneCell'=true:=fun u hu=>by
 obtain ⟨x,_,hx⟩:=List.mem_flatMap.1 hu
 exact E.one x u hx
theorem cell_row {w:World} {b:Nat} {vs:List Value} {e:TypeId} {z:Nat×Nat} (hb:w.heap[b]? = some (.cells vs.toArray e z)) (j:Nat):w.cell? ⟨b,j,none⟩=vs[j]? := by
 simp [World.cell?,hb]
theorem Src.nil:Src E F hl (.slice none 0 0) []:=.inl ⟨⟨_,_,rfl⟩,rfl⟩
theorem Src.one {b c:Nat} {y:α} {vs:List Value} {e:TypeId} [hb:Has F hl b (cellsO vs e)] (hv:vs=E.cells y):Src E F hl (.slice (some ⟨b,0,none⟩) 1 c) [y]:=by
 refine .inr ⟨b,0,c,rfl,fun w hs j u hu=>?_⟩
 rw [cell_row (hb.st hs),Nat.zero_add,hv]
 simpa [flat] using hu
theorem Src.own {v:Value} {ys:List α} {seg rest:Hl} (h:Own E v ys seg) (hs:∀x∈seg,x∈hl):Src E F hl v ys:=by
 cases h with
 | nil=>exact Src.nil
 | blk b cap _ sp hc hm =>
  refine .inr ⟨b,0,cap,rfl,fun w ⟨hn,hw⟩ j u hu=>?_⟩
  have h:=hw.own b _ (List.mem_append_right _ (hs _ List.mem_cons_self))
  rw [cell_row h,Nat.zero_add,List.getElem?_append_left ((List.getElem?_eq_some_iff.1 hu).1),hu]
theorem run_append_seg {t B:Nat} [ht:TySl P t E B] {v xv:Value} {xs ys:List α} {seg rest:Hl} {w:World} (hown:Own E v xs seg) (hh:Hp F (seg++rest) w) (hsrc:Src E F (seg++rest) xv ys)
 (hlen:(xs.length+ys.length)*B≤140737488355328∧xs.length+ys.length≤9223372036854775807) (hml:xs.length+ys.length≤maxLen) :
 ∃v' seg' w',(Builtin.append_ #[t,t] ty #[v,xv]).run P w=.ok v' w'∧Own E v' (xs++ys) seg'∧Hp F (seg'++rest) w':=by
 obtain ⟨inf,z,hi,hz,hsz,hby,hzs⟩:=ht.info
 have hgrown:∀(old:Nat) (w1:World),Hp F rest w1→grownCap w (xs.length+ys.length) old E.tid≤maxLen→xs.length+ys.length≤grownCap w (xs.length+ys.length) old E.tid →
  ∃seg',Own E (.slice (some ⟨w1.heap.size,0,none⟩) (xs.length+ys.length) (grownCap w (xs.length+ys.length) old E.tid)) (xs++ys) seg' ∧
   Hp F (seg'++rest) (w1.alloc (.cells ((flat E xs).toArray++(flat E ys).toArray++Builtin.zeroCells z.cells (grownCap w (xs.length+ys.length) old E.tid-(xs.length+ys.length))) E.tid)):=by
  intro old w1 h1 hcm hge
  have hobj:(Obj.cells ((flat E xs).toArray++(flat E ys).toArray++Builtin.zeroCells z.cells (grownCap w (xs.length+ys.length) old E.tid-(xs.length+ys.length))) E.tid) =
   rowS E (xs++ys) (Builtin.zeroCells z.cells (grownCap w (xs.length+ys.length) old E.tid-(xs.length+ys.length))).toList:=by
   unfold rowS
   congr 1
   rw [flat_append]
   apply Array.ext'
   simp
  rw [hobj]
  refine ⟨[(w1.heap.size,rowS E (xs++ys) (Builtin.zeroCells z.cells (grownCap w (xs.length+ys.length) old E.tid-(xs.length+ys.length))).toList)],?_,h1.alloc _⟩
  have:=Own.blk (E:=E) w1.heap.size (grownCap w (xs.length+ys.length) old E.tid) (xs++ys) (Builtin.zeroCells z.cells (grownCap w (xs.length+ys.length) old E.tid-(xs.length+ys.length))).toList (by
   have hZ:(Builtin.zeroCells z.cells (grownCap w (xs.length+ys.length) old E.tid-(xs.length+ys.length))).toList.length=(grownCap w (xs.length+ys.length) old E.tid-(xs.length+ys.length))*E.k:=by
    simp [size_zeroCells,hzs]
   rw [hZ,ly,←Nat.add_mul]
   congr 1
   omega) hcm
  rw [ly] at this
  exact this
 cases hown with
 | nil =>
  rcases hsrc with ⟨⟨p,c,rfl⟩,rfl⟩ | ⟨b2,off,c,rfl,hc⟩
  · refine ⟨.slice none 0 0,[],w,?_,.nil,hh⟩
    cases p<;>simp [Builtin.append_,run_underlying ht.under,sizeOf,typeInfo,hi,Builtin.lenOf,Builtin.firstCells,loadCells,loadCellsFrom]
  · by_cases h0:ys.length=0
    · have hy:ys=[]:=List.eq_nil_of_length_eq_zero h0
      subst hy
      refine ⟨.slice none 0 0,[],w,?_,.nil,hh⟩
      simp [Builtin.append_,run_underlying ht.under,sizeOf,typeInfo,hi,Builtin.lenOf,Builtin.firstCells,loadCells,loadCellsFrom]
    · have hr:=run_append_nil (P:=P) w t ty E.tid inf z ht.under hi hz ⟨b2,off,none⟩ ys.length c (flat E ys) (by rw [flat_length,hsz]) (fun j u hu=>by rw [addr_add];exact hc w hh.st j u hu) (by omega) (by simp at hlen;omega) (by
       rw [hby];have:=hlen.1;simp only [List.length_nil,Nat.zero_add] at this;omega)
      obtain ⟨seg',h1,h2⟩:=hgrown 0 w.drew hh.drew (grownCap_le_maxLen w _ 0 _ hml) (grownCap_ge w _ 0 _)
      simp only [List.length_nil,Nat.zero_add,flat,List.flatMap_nil] at h1 h2
      refine ⟨_,seg',_,hr,?_,?_⟩
      · simpa using h1
      · simpa [flat] using h2
 | blk b cap _ sp hcap hcm =>
  have hb:w.heap[b]? = some (rowS E xs sp):=hh.own b _ (by simp)
  have hnews:∃b2 off c,((∃p c,xv=.slice p 0 c)∧ys=[])∨(xv=.slice (some ⟨b2,off,none⟩) ys.length c∧∀j u,(flat E ys)[j]? = some u→w.cell? ⟨b2,off+j,none⟩=some u):=by
   rcases hsrc with h | ⟨b2,off,c,rfl,hc⟩
   · exact ⟨0,0,0,.inl h⟩
   · exact ⟨b2,off,c,.inr ⟨rfl,hc w hh.st⟩⟩
  obtain ⟨b2,off,c,hnews⟩:=hnews
  rcases hnews with ⟨⟨p,c',rfl⟩,rfl⟩ | ⟨rfl,hc⟩
  · have hxc:xs.length≤cap:=by
     have:xs.length*E.k≤cap*E.k:=by omega
     exact Nat.le_of_mul_le_mul_right this E.pos
    refine ⟨.slice (some ⟨b,0,none⟩) xs.length cap,[(b,rowS E xs sp)],w,?_,by simpa using Own.blk b cap xs sp hcap hcm,hh⟩
    cases p<;>simp [Builtin.append_,run_underlying ht.under,sizeOf,typeInfo,hi,Builtin.lenOf,Builtin.firstCells,loadCells,loadCellsFrom,hxc,storeCells]
  · by_cases hroom:xs.length+ys.length≤cap
    · have hfx:(flat E xs).length=xs.length*E.k:=flat_length E xs
      have hfl:(flat E ys).length≤sp.length:=by
       have:=Nat.mul_le_mul_right E.k hroom
       rw [flat_length]
       rw [Nat.add_mul] at this
       omega
      have hr:=run_append_room (P:=P) w t ty E.tid inf ht.under hi b xs.length cap (flat E xs++sp).toArray hb ⟨b2,off,none⟩ ys.length c (flat E ys) (by rw [flat_length,hsz]) (fun j u hu=>by rw [addr_add];exact hc j u hu) (flat_one ys) hroom (by
       rw [hsz,List.size_toArray,ly,hfx];omega)
      have e:((flat E xs++sp).toArray.toList.take (xs.length*inf.size)++flat E ys++(flat E xs++sp).toArray.toList.drop (xs.length*inf.size+(flat E ys).length))=flat E (xs++ys)++sp.drop (flat E ys).length:=by
       rw [hsz,←flat_length E xs]
       simp [flat_append,List.drop_append]
      rw [e] at hr
      have hk:Own E (.slice (some ⟨b,0,none⟩) (xs.length+ys.length) cap) (xs++ys) [(b,rowS E (xs++ys) (sp.drop (flat E ys).length))]:=by
       have:=Own.blk (E:=E) b cap (xs++ys) (sp.drop (flat E ys).length) (by
        rw [ly,List.length_drop,flat_length,Nat.add_mul]
        rw [flat_length] at hfl
        omega) hcm
       rw [ly] at this
       exact this
      refine ⟨_,_,_,hr,hk,?_⟩
      have:=Hp.set (A:=[]) (B:=rest) (o':=rowS E (xs++ys) (sp.drop (flat E ys).length)) (w':=w.setRow b (flat E (xs++ys)++sp.drop (flat E ys).length).toArray) hh (setRow_heap w b _ _ _ _ hb) (fun k hk=>setRow_other w b k _ hk) rfl rfl rfl (Nat.le_refl _)
      exact this
    · have hr:=run_append_grow (P:=P) w t ty E.tid inf z ht.under hi hz ⟨b,0,none⟩ xs.length cap (flat E xs) (by rw [flat_length,hsz]) (fun j u hu=>by
       rw [addr_add,Nat.zero_add,cell_row hb,List.getElem?_append_left ((List.getElem?_eq_some_iff.1 hu).1)];exact hu)
       ⟨b2,off,none⟩ ys.length c (flat E ys) (by rw [flat_length,hsz]) (fun j u hu=>by rw [addr_add];exact hc j u hu) (by omega) (by omega) (by rw [hby];exact growslice_fits (by omega) hlen.1)
      obtain ⟨seg',h1,h2⟩:=hgrown cap w.drew (Hp.tail hh).drew (grownCap_le_maxLen w _ cap _ hml) (grownCap_ge w _ cap _)
      exact ⟨_,seg',_,hr,h1,h2⟩
theorem Rg.append {t0 t B:Nat} {s x:Operand} {v xv:Value} {xs ys:List α} {seg rest:Hl} [ht:TySl P t E B] (ho:nth ops i=some ⟨some t0,.call { callee:=.builtin .append,args:=#[s,x],argTypes:=#[t,t] },ty,pos,af,g⟩) (hg:wantB ops l g=some true) (h0:Nat.blt t0 n.n=true)
 (hsv:ev l s=some v) (hx:ev l x=some xv) (hown:Own E v xs seg) [hp:PullL hl seg rest] (hsrc:Src E F hl xv ys) (hlen:(xs.length+ys.length)*B≤140737488355328∧xs.length+ys.length≤9223372036854775807) (hml:xs.length+ys.length≤maxLen)
 (hclr:clr.contains i=true) (h:∀v' seg',Own E v' (xs++ys) seg'→Rg P Qf n F ks ops clr (seg'++rest) r ((t0,v')::l) (seg'++rest)):Rg P Qf n F ks ops clr hs (.st i .eff r) l hl :=
 Rg.run ho hg fun a w hf hh=>by
  have hsrc':Src E F (seg++rest) xv ys:=by
   rcases hsrc with h | ⟨b,off,c,e,hc⟩
   · exact .inl h
   · exact .inr ⟨b,off,c,e,fun w' ⟨hn,hw'⟩=>hc w' ⟨hn,hw'.perm (hp.perm.symm.append_left hn)⟩⟩
  obtain ⟨v',seg',w',hr,hown',hh'⟩:=run_append_seg (P:=P) (t:=t) (ty:=ty) hown (hh.perm hp.perm) hsrc' hlen hml
  exact ⟨w',_,_,_,.inl ⟨v',by simp [execOp,resolve,invoke,builtin,hf.ev hsv,hf.ev hx,hr],hf.put h0 v'⟩,hh',hh'.st,.inl hclr,h v' seg' hown'⟩
theorem Rg.appendN {t0 t B:Nat} {s x:Operand} {v xv:Value} {xs ys:List α} {seg rest q:Hl} [ht:TySl P t E B] (ho:nth ops i=some ⟨some t0,.call { callee:=.builtin .append,args:=#[s,x],argTypes:=#[t,t] },ty,pos,af,g⟩) (hg:wantB ops l g=some true) (h0:Nat.blt t0 n.n=true)
 (hsv:ev l s=some v) (hx:ev l x=some xv) (hown:Own E v xs seg) [hp:PullL hl seg rest] [hq:PullL rest hs q] (hsrc:Src E F hl xv ys) (hlen:(xs.length+ys.length)*B≤140737488355328∧xs.length+ys.length≤9223372036854775807) (hml:xs.length+ys.length≤maxLen)
 (h:∀v' seg',Own E v' (xs++ys) seg'→Rg P Qf n F ks ops clr hs r ((t0,v')::l) (seg'++rest)):Rg P Qf n F ks ops clr hs (.st i .eff r) l hl :=
 Rg.run ho hg fun a w hf hh=>by
  have hsrc':Src E F (seg++rest) xv ys:=by
   rcases hsrc with h | ⟨b,off,c,e,hc⟩
   · exact .inl h
   · exact .inr ⟨b,off,c,e,fun w' ⟨hn,hw'⟩=>hc w' ⟨hn,hw'.perm (hp.perm.symm.append_left hn)⟩⟩
  obtain ⟨v',seg',w',hr,hown',hh'⟩:=run_append_seg (P:=P) (t:=t) (ty:=ty) hown (hh.perm hp.perm) hsrc' hlen hml
  exact ⟨w',_,_,_,.inl ⟨v',by simp [execOp,resolve,invoke,builtin,hf.ev hsv,hf.ev hx,hr],hf.put h0 v'⟩,hh',⟨seg'++q,hh'.perm (by rw [lx];exact (hq.perm.trans List.perm_append_comm).append_left seg')⟩,.same,h v' seg' hown'⟩
theorem Rg.bslice0 {t st B:Nat} [hs0:TySl P st E B] (ho:nth ops i=some ⟨some t,.buildSlice st 0 #[],ty,pos,af,g⟩) (hg:wantB ops l g=some true) (ht:Nat.blt t n.n=true)
 (h:∀b,Own E (.slice (some ⟨b,0,none⟩) 0 0) [] [(b,rowS E [] [])]→Rg P Qf n F ks ops clr ((b,rowS E [] [])::hl) r ((t,.slice (some ⟨b,0,none⟩) 0 0)::l) ((b,rowS E [] [])::hl)):Rg P Qf n F ks ops clr hl (.st i .eff r) l hl :=
 Rg.run ho hg fun a w hf hh=>by
  obtain ⟨inf,z,hi,hz,hsz,hby,hzs⟩:=hs0.info
  have hsize:(sizeOf E.tid).run P w=.ok E.k w:=by simp [sizeOf,typeInfo,hi,hsz]
  exact ⟨{ w with heap:=w.heap.push (rowS E [] []) },(t,.slice (some ⟨w.heap.size,0,none⟩) 0 0)::l,(w.heap.size,rowS E [] [])::hl,_,
   .inl ⟨_,by simp [execOp,Instr.buildSlice,run_underlying hs0.under,hsize,Instr.fill,newRow,arange0,rowS,flat],hf.put ht _⟩,hh.alloc _,(hh.alloc _).st,.one,h _ (.blk _ 0 [] [] (by simp) (by simp))⟩
theorem Rg.bslice1 {t st e k:Nat} {x:Operand} {v z:Value} {vs zs:List Value} [hu:TyUnder P st (.slice e)] [hs0:TySize P e k] [hz:TyZero P e z] (ho:nth ops i=some ⟨some t,.buildSlice st 1 #[(0,x)],ty,pos,af,g⟩) (hg:wantB ops l g=some true) (ht:Nat.blt t n.n=true)
 (hx:ev l x=some v) (hc:cl v=some vs) (hcz:cl z=some zs) (hk:(vs.length==k&&zs.length==k&&Nat.blt 0 k&&Nat.ble k 16777216)=true)
 (h:∀b,Rg P Qf n F ks ops clr ((b,cellsO vs e)::hl) r ((t,.slice (some ⟨b,0,none⟩) 1 1)::l) ((b,cellsO vs e)::hl)):Rg P Qf n F ks ops clr hl (.st i .eff r) l hl :=
 Rg.run ho hg fun a w hf hh=>by
  simp only [Bool.and_eq_true,beq_iff_eq,Nat.blt_eq,Nat.ble_eq] at hk
  obtain ⟨⟨⟨hk1,hk2⟩,hk3⟩,hk4⟩:=hk
  have hfold:∀(us pre:List Value) (cs:List Value),pre.length+us.length=cs.length→cs.take pre.length=pre→(us.zipIdx pre.length).foldl (fun (c:Array Value) (p:Value×Nat)=>c.setIfInBounds p.2 p.1) cs.toArray=(pre++us).toArray:=by
   intro us
   induction us with
   | nil =>
    intro pre cs ho hp
    rw [List.take_of_length_le (by simp at ho;omega)] at hp
    simp [hp]
   | cons u us ih =>
    intro pre cs ho hp
    simp only [List.length_cons] at ho
    rw [List.zipIdx_cons,List.foldl_cons]
    have:=ih (pre++[u]) (cs.set pre.length u) (by simp;omega) (by
     rw [ly,List.length_singleton,List.take_succ_eq_append_getElem (by simp;omega),List.take_set,hp,List.set_eq_of_length_le (Nat.le_refl _)]
     simp)
    simp only [List.setIfInBounds_toArray]
    rw [ly,List.length_singleton] at this
    rw [this]
    simp
  have hfill:Instr.fill (fun i=>some (i*k,k)) ((Array.range (1*k)).map (fun j=>z.cells[j % z.cells.size]!)) [(0,v)]=some vs.toArray:=by
   have h1:v.cells=vs.toArray:=(cl_spec hc).1
   have h2:((Array.range (1*k)).map (fun j=>z.cells[j % z.cells.size]!)).size=k:=by simp
   generalize (Array.range (1*k)).map (fun j=>z.cells[j % z.cells.size]!)=cs at h2
   have h3:=hfold vs [] cs.toList (by simp [hk1,h2]) (by simp)
   rw [Array.toArray_toList] at h3
   simp only [Instr.fill,h1,List.size_toArray,hk1,Nat.zero_mul,Nat.zero_add,h2,Nat.lt_irrefl,ne_eq,not_true_eq_false,decide_false,Bool.or_self,Bool.false_eq_true,if_false,gt_iff_lt]
   simp only [List.length_nil,List.nil_append] at h3
   rw [←Array.foldl_toList]
   simp only [Array.toList_zipIdx]
   exact congrArg some h3
  refine ⟨{ w with heap:=w.heap.push (cellsO vs e) },(t,.slice (some ⟨w.heap.size,0,none⟩) 1 1)::l,(w.heap.size,cellsO vs e)::hl,_,.inl ⟨_,?_,hf.put ht _⟩,hh.alloc _,(hh.alloc _).st,.one,h _⟩
  have h2 : ¬(1*k>2 ^ 24):=by omega
  have h3 : ¬(1*k=0):=by omega
  simp only [execOp,Instr.buildSlice,Sem.run_bind,run_underlying hu.under,Result.andThen_ok,hs0.size,h2,h3,if_false,hz.zero,Sem.run_pure,List.map_toArray,List.map_cons,List.map_nil,hf.ev hx]
  rw [hfill]
  rfl
theorem Rg.bslice1N {t st e k:Nat} {x:Operand} {v z:Value} {vs zs:List Value} {q:Hl} [hu:TyUnder P st (.slice e)] [hs0:TySize P e k] [hz:TyZero P e z] (ho:nth ops i=some ⟨some t,.buildSlice st 1 #[(0,x)],ty,pos,af,g⟩) (hg:wantB ops l g=some true) (ht:Nat.blt t n.n=true)
 (hx:ev l x=some v) (hc:cl v=some vs) (hcz:cl z=some zs) (hk:(vs.length==k&&zs.length==k&&Nat.blt 0 k&&Nat.ble k 16777216)=true)
 [hq:PullL hl hs q] (h:∀b,Rg P Qf n F ks ops clr hs r ((t,.slice (some ⟨b,0,none⟩) 1 1)::l) ((b,cellsO vs e)::hl)):Rg P Qf n F ks ops clr hs (.st i .eff r) l hl :=
 Rg.run ho hg fun a w hf hh=>by
  simp only [Bool.and_eq_true,beq_iff_eq,Nat.blt_eq,Nat.ble_eq] at hk
  obtain ⟨⟨⟨hk1,hk2⟩,hk3⟩,hk4⟩:=hk
  have hfold:∀(us pre:List Value) (cs:List Value),pre.length+us.length=cs.length→cs.take pre.length=pre→(us.zipIdx pre.length).foldl (fun (c:Array Value) (p:Value×Nat)=>c.setIfInBounds p.2 p.1) cs.toArray=(pre++us).toArray:=by
   intro us
   induction us with
   | nil =>
    intro pre cs ho hp
    rw [List.take_of_length_le (by simp at ho;omega)] at hp
    simp [hp]
   | cons u us ih =>
    intro pre cs ho hp
    simp only [List.length_cons] at ho
    rw [List.zipIdx_cons,List.foldl_cons]
    have:=ih (pre++[u]) (cs.set pre.length u) (by simp;omega) (by
     rw [ly,List.length_singleton,List.take_succ_eq_append_getElem (by simp;omega),List.take_set,hp,List.set_eq_of_length_le (Nat.le_refl _)]
     simp)
    simp only [List.setIfInBounds_toArray]
    rw [ly,List.length_singleton] at this
    rw [this]
    simp
  have hfill:Instr.fill (fun i=>some (i*k,k)) ((Array.range (1*k)).map (fun j=>z.cells[j % z.cells.size]!)) [(0,v)]=some vs.toArray:=by
   have h1:v.cells=vs.toArray:=(cl_spec hc).1
   have h2:((Array.range (1*k)).map (fun j=>z.cells[j % z.cells.size]!)).size=k:=by simp
   generalize (Array.range (1*k)).map (fun j=>z.cells[j % z.cells.size]!)=cs at h2
   have h3:=hfold vs [] cs.toList (by simp [hk1,h2]) (by simp)
   rw [Array.toArray_toList] at h3
   simp only [Instr.fill,h1,List.size_toArray,hk1,Nat.zero_mul,Nat.zero_add,h2,Nat.lt_irrefl,ne_eq,not_true_eq_false,decide_false,Bool.or_self,Bool.false_eq_true,if_false,gt_iff_lt]
   simp only [List.length_nil,List.nil_append] at h3
   rw [←Array.foldl_toList]
   simp only [Array.toList_zipIdx]
   exact congrArg some h3
  refine ⟨{ w with heap:=w.heap.push (cellsO vs e) },(t,.slice (some ⟨w.heap.size,0,none⟩) 1 1)::l,(w.heap.size,cellsO vs e)::hl,_,.inl ⟨_,?_,hf.put ht _⟩,hh.alloc _,⟨(w.heap.size,cellsO vs e)::q,(hh.alloc _).perm ((hq.perm.trans List.perm_append_comm).cons _)⟩,.same,h _⟩
  have h2 : ¬(1*k>2 ^ 24):=by omega
  have h3 : ¬(1*k=0):=by omega
  simp only [execOp,Instr.buildSlice,Sem.run_bind,run_underlying hu.under,Result.andThen_ok,hs0.size,h2,h3,if_false,hz.zero,Sem.run_pure,List.map_toArray,List.map_cons,List.map_nil,hf.ev hx]
  rw [hfill]
  rfl
theorem setsL_mk:∀(us:List Value) (vs:List Value) (off:Nat),off+us.length≤vs.length→setsL vs off us=some (vs.take off++us++vs.drop (off+us.length))
 | [],vs,off,h=>by simp [setsL]
 | u::us,vs,off,h=>by
  simp only [List.length_cons] at h
  have:=setsL_mk us (vs.set off u) (off+1) (by simp;omega)
  simp only [setsL,setL_mk u (show off<vs.length by omega),this]
  congr 1
  rw [List.take_succ_eq_append_getElem (by simp;omega),List.take_set,List.set_eq_of_length_le (by simp;omega)]
  simp only [List.getElem_set_self,lx,List.cons_append,List.nil_append]
  congr 3
  rw [List.drop_set_of_lt (by omega)]
  congr 1
  simp;omega
theorem flat_set (ys:List α) (j:Nat) (y:α) (hj:j<ys.length):flat E (ys.set j y)=(flat E ys).take (j*E.k)++E.cells y++(flat E ys).drop (j*E.k+E.k):=by
 have e1:ys=ys.take j++(ys[j]::ys.drop (j+1)):=by rw [←List.drop_eq_getElem_cons hj,List.take_append_drop]
 have ht:(flat E (ys.take j)).length=j*E.k:=by rw [flat_length];congr 1;simp;omega
 have e2:flat E ys=flat E (ys.take j)++(E.cells ys[j]++flat E (ys.drop (j+1))) :=
  (congrArg (flat E) e1).trans (by rw [flat_append];rfl)
 have e3:ys.set j y=ys.take j++(y::ys.drop (j+1)):=by
  rw [List.set_eq_take_append_cons_drop,if_pos hj]
 rw [e3,flat_append,e2]
 have e4:flat E (y::ys.drop (j+1))=E.cells y++flat E (ys.drop (j+1)):=rfl
 rw [e4]
 have hB:=E.len ys[j]
 generalize flat E (ys.take j)=A at ht
 generalize flat E (ys.drop (j+1))=C
 generalize E.cells ys[j]=B at hB
 simp [List.drop_append,ht,hB]
theorem Rg.storeR [Inhabited α] {t b off:Nat} {x y:Operand} {d:Option Tmp} {z:α} {v:Value} {ys:List α} {sp:List Value} {put:Obj→Hl} (j:Nat) (ho:nth ops i=some ⟨d,.store t x y,ty,pos,af,g⟩) (hg:wantB ops l g=some true) (hd:d=none)
 (hx:ev l x=some (.pointer (some ⟨b,off,none⟩))) (hy:ev l y=some v) [hb:Lens hl b (rowS E ys sp) put] [ht:RowTy P E t] (hv:v=E.val z) (hoff:off=j*E.k) (hj:j<ys.length) (hclr:clr.contains i=true)
 (h:Rg P Qf n F ks ops clr (put (rowS E (ys.set j z) sp)) r l (put (rowS E (ys.set j z) sp))):Rg P Qf n F ks ops clr hs (.st i .eff r) l hl :=
 Rg.run ho hg fun a w hf hh=>by
  subst hd;subst hv;subst hoff
  have hlen:=flat_lt E ys (i:=E.k-1) hj (by have:=E.pos;omega)
  have hpos:=E.pos
  have hq:setsL (flat E ys++sp) (j*E.k) (E.cells z)=some (flat E (ys.set j z)++sp):=by
   rw [setsL_mk _ _ _ (by rw [E.len,ly];omega),flat_set ys j z hj,E.len]
   congr 1
   rw [List.take_append_of_le_length (by omega),List.drop_append_of_le_length (by omega)]
   simp
  have hc:(E.val z).cells=(E.cells z).toArray:=by rw [←E.vc]
  have hrun:=run_storeAt (P:=P) (t:=t) ht.size hc (E.len z) (E.one z) (hh.own b _ hb.mem) hq
  exact ⟨_,l,_,_,.inr ⟨by simp [execOp,hf.ev hx,hf.ev hy,hrun,rowS],hf⟩,hb.putB hh _,(hb.putB hh _).st,.inl hclr,h⟩
theorem run_loadCells' {w:World} {b off:Nat}:∀(us:List Value) (i:Nat) (acc:Array Value),(∀j u,us[j]? = some u→w.cell? ⟨b,off+i+j,none⟩=some u) →
 (loadCellsFrom ⟨b,off,none⟩ i us.length acc).run P w=.ok (acc++us.toArray) w
 | [],i,acc,h=>by simp [loadCellsFrom]
 | u::us,i,acc,h=>by
  have h0:=h 0 u rfl
  have h1:(load ⟨b,off+i,none⟩).run P w=.ok u w:=by
   rw [Nat.add_zero] at h0
   simp [load,Sem.run,h0]
  have h2:=run_loadCells' us (i+1) (acc.push u) (fun j v hv=>by
   have:=h (j+1) v (by simpa using hv)
   rwa [show off+i+(j+1)=off+(i+1)+j by omega] at this)
  simp only [List.length_cons,loadCellsFrom,addr_add,Sem.run_bind,h1,Result.andThen_ok,h2]
  simp
theorem run_loadArg [Inhabited α] {t b off j:Nat} {ys:List α} {w:World} (ht:RowTy P E t) (hc:∀j u,(flat E ys)[j]? = some u→w.cell? ⟨b,off+j,none⟩=some u) (hj:j<ys.length):(loadVar t ⟨b,off+j*E.k,none⟩).run P w=.ok (E.val ys[j]!) w:=by
 have hcell:∀i u,(E.cells ys[j]!)[i]? = some u→w.cell? ⟨b,off+j*E.k+i,none⟩=some u:=fun i u hu=>by
  have hi:i<E.k:=by rw [←E.len ys[j]!];exact (List.getElem?_eq_some_iff.1 hu).1
  rw [Nat.add_assoc]
  refine hc _ u ?_
  rw [flat_get E ys j i ys[j]! (by rw [getElem!_pos ys j hj];exact List.getElem?_eq_getElem hj) hi]
  exact hu
 rcases ht.load with ⟨h1,h2⟩ | ⟨h1,hk,h2⟩
 · rw [h2]
   have:=run_loadCells' (P:=P) (b:=b) (off:=off+j*E.k) (w:=w) (E.cells ys[j]!) 0 #[] (by simpa using hcell)
   rw [E.len] at this
   simp only [loadVar,Sem.run_bind,h1,ht.size,Result.andThen_ok,if_true,loadCells,this]
   simp
 · have h0:=hcell 0 (E.val ys[j]!) (by rw [h2];rfl)
   rw [Nat.add_zero] at h0
   simp only [loadVar,Sem.run_bind,h1,Result.andThen_ok,Bool.false_eq_true,if_false]
   simp [load,Sem.run,h0]
theorem Ev.ldS [Inhabited α] {t b off o c m:Nat} {v:Value} {ys:List α} {x:Operand} {d:Option Tmp} (j:Nat) (hsrc:Src E F hl v ys) (hv:v=.slice (some ⟨b,off,none⟩) m c) (hx:ev l x=some (.pointer (some ⟨b,o,none⟩))) [ht:RowTy P E t] (ho:o=off+j*E.k) (hj:j<ys.length) :
 Ev P n F l hl ⟨d,.load t x,ty,pos,af,g⟩ (E.val ys[j]!):=fun a w hf hs=>by
 subst hv;subst ho
 rcases hsrc with ⟨_,rfl⟩ | ⟨b',off',c',e,h⟩
 · exact absurd hj (Nat.not_lt_zero _)
 · cases e
   have h1:=run_loadArg (j:=j) ht (h w hs) hj
   simp [execOp,hf.ev hx,Instr.loadAt,Instr.sureAddr,h1]
theorem Ev.ldSf [Inhabited α] {t b off o c m:Nat} {v u:Value} {ys:List α} {x:Operand} {d:Option Tmp} (j i:Nat) (hsrc:Src E F hl v ys) (hv:v=.slice (some ⟨b,off,none⟩) m c) (hx:ev l x=some (.pointer (some ⟨b,o,none⟩))) [ht:TyOne P t] (ho:o=off+j*E.k+i) (hj:j<ys.length)
 (hu:(E.cells ys[j]!)[i]? = some u):Ev P n F l hl ⟨d,.load t x,ty,pos,af,g⟩ u:=fun a w hf hs=>by
 subst hv;subst ho
 rcases hsrc with ⟨_,rfl⟩ | ⟨b',off',c',e,h⟩
 · exact absurd hj (Nat.not_lt_zero _)
 · cases e
   have hi:i<E.k:=by rw [←E.len ys[j]!];exact (List.getElem?_eq_some_iff.1 hu).1
   have hc:w.cell? ⟨b,off+j*E.k+i,none⟩=some u:=by
    rw [Nat.add_assoc]
    refine h w hs _ u ?_
    rw [flat_get E ys j i ys[j]! (by rw [getElem!_pos ys j hj];exact List.getElem?_eq_getElem hj) hi]
    exact hu
   have h0:(load ⟨b,off+j*E.k+i,none⟩).run P w=.ok u w:=by simp [load,Sem.run,hc]
   have h1:(loadVar t ⟨b,off+j*E.k+i,none⟩).run P w=.ok u w:=by
    simp only [loadVar,Sem.run_bind,ht.agg,Result.andThen_ok,Bool.false_eq_true,if_false]
    exact h0
   simp [execOp,hf.ev hx,Instr.loadAt,Instr.sureAddr,h1]
theorem Ev.ldRf [Inhabited α] {t b off:Nat} {ys:List α} {sp:List Value} {u:Value} {x:Operand} {d:Option Tmp} (j i:Nat) (hx:ev l x=some (.pointer (some ⟨b,off,none⟩))) [hb:Has F hl b (rowS E ys sp)] [ht:TyOne P t] (ho:off=j*E.k+i) (hj:j<ys.length)
 (hu:(E.cells ys[j]!)[i]? = some u):Ev P n F l hl ⟨d,.load t x,ty,pos,af,g⟩ u:=fun a w hf hs=>by
 subst ho
 have hi:i<E.k:=by rw [←E.len ys[j]!];exact (List.getElem?_eq_some_iff.1 hu).1
 have hv:nth (flat E ys++sp) (j*E.k+i)=some u:=by
  rw [nth_eq,List.getElem?_append_left (flat_lt E ys hj hi),flat_get E ys j i ys[j]! (by rw [getElem!_pos ys j hj];exact List.getElem?_eq_getElem hj) hi]
  exact hu
 have h1:=run_loadVar1 (P:=P) (t:=t) (hb.st hs) hv
 simp [execOp,hf.ev hx,Instr.loadAt,Instr.sureAddr,h1]
theorem Arg.block {v:Value} {ys:List α} (h:Arg E F v ys) (h0:0<ys.length):∃b off c,v=.slice (some ⟨b,off,none⟩) ys.length c∧ys.length≤c:=by
 rcases h with ⟨_,rfl⟩ | ⟨b,off,c,e,hc,_⟩
 · simp at h0
 · exact ⟨b,off,c,e,hc⟩
theorem Arg.take {p:Option Addr} {m c:Nat} {ys:List α} (h:Arg E F (.slice p m c) ys) {k:Nat} (hk:k≤ys.length):Arg E F (.slice p k c) (ys.take k):=by
 rcases h with ⟨_,rfl⟩ | ⟨b,off,c,e,hc,h⟩
 · have:k=0:=by simpa using hk
   subst this
   exact .inl ⟨⟨_,_,rfl⟩,rfl⟩
 · cases e
   refine .inr ⟨b,off,c,by simp [Nat.min_eq_left hk],by simp;omega,fun w hw j u hu=>h w hw j u ?_⟩
   have e:flat E ys=flat E (ys.take k)++flat E (ys.drop k):=by
    conv=>lhs;rw [←List.take_append_drop k ys]
    simp only [flat,List.flatMap_append]
   rw [e,List.getElem?_append_left (List.getElem?_eq_some_iff.1 hu).1,hu]
end
def YSpec (P:Program) (lr:Nat) (args:Array Value) (F:Fm) (hl:Hl) (post:Value→Hl→Prop):Prop :=
 ∀w,Hp F hl w→∃fn tmps assign body,(Instr.yield lr args).run P w=.ok (.round lr fn tmps assign body) w ∧
  RoundIn (Fe none) 0 P lr fn tmps assign body w fun e w'=>∃v hl',e=.returned v∧post v hl'∧Hp F hl' w'
def Iter (P:Program) (gf:Nat) (lb:List Value) (F:Fm) {α:Type} (enc:α→List Value) (Sp S:List α→Prop) (hi:Hl):Prop :=
 ∀(lr:Nat) (J:List α→Hl→Prop) (F1:Fm),(∀b o,F.at_ b o→F1.at_ b o) →
  (∀pre x,Sp (pre++[x])→∀hc,J pre hc→∀F2,(∀b o,F1.at_ b o→F2.at_ b o)→YSpec P lr (enc x).toArray F2 hc fun v hc'=>v=.bool true∧J (pre++[x]) hc') →
  ∀hc,J [] hc→Spec P gf (.func (.yield lr) #[] #[]::lb).toArray F1 (hi++hc) fun _ s=>∃xs,S xs∧J xs s
section
variable {P : Program} {n : Nf} {F : Fm} {l : Env} {hl : Hl} {ty : TypeId} {pos : String} {af : Array Edge} {g : Option (Nat × Bool)}
variable {Qf : Exit → Act → World → Prop} {ks : List KItem} {ops : List Oper} {clr : List Nat} {hs : Hl} {r : Sd} {i : Nat}
theorem run_callY {lr:Nat} {x:Operand} {xs:List Operand} {vs:List Value} {ats:Array TypeId} {d:Option Tmp} (hx:ev l x=some (.func (.yield lr) #[] #[])) (hv:evs l xs=some vs) (a:Act) (w:World) (h:Fr n l a) :
 (execOp a.eval ⟨d,.call { callee:=.value x,args:=xs.toArray,argTypes:=ats },ty,pos,af,g⟩).run P w=(Instr.yield lr vs.toArray).run P w:=by
 simp [execOp,resolve,Deferred.ofValue,h.ev hx,invoke,h.evs hv]
theorem Rg.yieldH {t lr:Nat} {x:Operand} {xs:List Operand} {vs:List Value} {ats:Array TypeId} {pre rest:Hl} {post:Value→Hl→Prop}
 (ho:nth ops i=some ⟨some t,.call { callee:=.value x,args:=xs.toArray,argTypes:=ats },ty,pos,af,g⟩) (hg:wantB ops l g=some true) (ht:Nat.blt t n.n=true) (hx:ev l x=some (.func (.yield lr) #[] #[])) (hv:evs l xs=some vs)
 (hspec:∀F',(∀b o,(b,o)∈rest∨F.at_ b o→F'.at_ b o)→YSpec P lr vs.toArray F' pre post) [hp:PullL hl pre rest] (hclr:clr.contains i=true)
 (h:∀v hl',post v hl'→Rg P Qf n F ks ops clr (hl'++rest) r ((t,v)::l) (hl'++rest)):Rg P Qf n F ks ops clr hs (.st i .eff r) l hl:=fun a w hf hh=>by
 show wpOpX _ _ _ _ _ _ _ _
 unfold wpOpX wpOpIn
 rw [nth_eq] at ho
 have ho':ops.toArray[i]? = some ⟨some t,.call { callee:=.value x,args:=xs.toArray,argTypes:=ats },ty,pos,af,g⟩:=by simpa using ho
 simp only [ho',wantB_spec (o:=⟨some t,.call { callee:=.value x,args:=xs.toArray,argTypes:=ats },ty,pos,af,g⟩) hg hf,if_true]
 unfold Oper.wpIn
 refine ⟨fun _ _=>trivial,?_⟩
 obtain ⟨h1,h2,h3⟩:=Hp.frz_iff.1 (hh.perm hp.perm)
 obtain ⟨fn,tmps,assign,body,hy,hR⟩:=hspec (frz F rest) (fun _ _ h=>h) w h1
 have hrun:=run_callY (P:=P) (ty:=ty) (pos:=pos) (af:=af) (g:=g) (d:=some t) (ats:=ats) hx hv a w hf
 rw [hy] at hrun
 rw [semAt_run hrun (by intro d h;cases h)]
 refine ⟨(by intro h;cases h),hR.mono fun e w' ⟨v,hl',he,hpost,hh'⟩=>?_⟩
 subst he
 have hfin:Hp F (hl'++rest) w':=Hp.frz_iff.2 ⟨hh',h2,h3⟩
 exact ⟨St F (hl'++rest),(fun hc=>by rw [hclr] at hc;cases hc),hfin.st,h v hl' hpost _ w' (hf.put ht v) hfin⟩
theorem Vc.begin {lr:Nat} {rc:Loop} {put:Obj→Hl} [hb:Lens hl lr (.loop rc) put] (h:Vc P Qf n F ks l (put (.loop { rc with state:=.busy }))):Vc P Qf n F (.begin lr rc::ks) l hl:=fun a w hf hh =>
 ⟨hh.own _ _ hb.mem,h a _ hf (hb.putB hh _)⟩
def QRd (F:Fm) (lr:Nat) (rc:Loop) (I:Hl→Prop):Exit→Act→World→Prop
 | .normal,_,w=>∃hc,I hc∧Hp F ((lr,.loop { rc with state:=.busy })::hc) w
 | _,_,_=>False
theorem Vc.finR {lr:Nat} {rc:Loop} {I:Hl→Prop} (hc:Hl) {rest:Hl} (hI:I hc) (hp:hl.Perm (((lr,.loop { rc with state:=.busy })::hc)++rest)):Vc P (QRd F lr rc I) n F [] l hl:=fun a w hf hh =>
 ⟨hc,hI,(hh.perm hp).forget⟩
def envZ (l:Env) (ps:List Nat) (vs:List Value):Env:=(ps.zip vs).foldl (fun l (p,v)=>(p,v)::l) l
theorem fr_zip {l:Env}:∀(ps:List Nat) (vs:List Value) {n:Nf} {l:Env} {a:Act},Fr n l a→(ps.all fun p=>Nat.blt p n.n)=true→Fr n (envZ l ps vs) { a with tmps:=(ps.zip vs).foldl (fun t (p,v)=>t.setIfInBounds p v) a.tmps }
 | [],_,_,_,_,h,_=>h
 | _::_,[],_,_,_,h,_=>h
 | p::ps,v::vs,n,l,a,h,hb=>by
  simp only [List.all_cons,Bool.and_eq_true] at hb
  exact fr_zip (l:=l) ps vs (h.put hb.1 v) hb.2
theorem zip_list (ps:List Nat) (vs:List Value) (t:Array Value):(ps.toArray.zip vs.toArray).foldl (fun t (p,v)=>t.setIfInBounds p v) t=(ps.zip vs).foldl (fun t (p,v)=>t.setIfInBounds p v) t:=by
 rw [←Array.foldl_toList]
 simp
theorem wp_round {P:Program} {lr fn:Nat} {tmps:Array Value} {assign body:Code} {rc:Loop} {w:World} {F:Fm} {hc:Hl} {m:Nat} {l:Env} {I:Hl→Prop} (hl:w.heap[lr]? = some (.loop rc)) (hr:rc.state=.ready) (hpe:rc.pending=none)
 (hsz:tmps.size=m) (hf:Fr ⟨m,some lr,[],[]⟩ l { tmps:=tmps,defers:=[] }) (hh:Hp F ((lr,.loop rc)::hc) w) (h:Vc P (QRd F lr rc I) ⟨m,some lr,[],[]⟩ F [.code assign,.begin lr rc,.code body] l ((lr,.loop rc)::hc)) :
 RoundIn (Fe none) 0 P lr fn tmps assign body w fun e w'=>∃v hl',e=.returned v∧(v=.bool true∧∃hc',I hc'∧hl'=(lr,.loop rc)::hc')∧Hp F hl' w':=by
 refine roundIn_of_wpIn (F:=Fe none) trivial ?_
 refine wpIn_mono (F:=Fe (some lr)) (h _ w hf hh) fun e a₁ w₁ q=>?_
 cases e with
 | normal =>
  obtain ⟨h1,h2⟩:=q
  refine ⟨_,run_beginRound h1 hr,wpIn_mono (F:=Fe (some lr)) h2 fun e a₂ w₂ q=>?_⟩
  cases e with
  | normal =>
   obtain ⟨hc',hI,hh'⟩:=q
   have hl2:=hh'.own lr _ List.mem_cons_self
   refine ⟨_,_,run_endRound none hl2,_,(lr,.loop rc)::hc',rfl,⟨rfl,hc',hI,rfl⟩,?_⟩
   have e1:({ { rc with state:=.busy } with state:=(if (none:Option Code).isNone then .ready else .done),pending:=none }:Loop)=rc:=by
    cases rc;simp_all
   rw [e1]
   exact Lens.putB (put:=fun o'=>(lr,o')::hc') ⟨[],hc',rfl,fun _=>rfl⟩ hh' _
  | _=>exact (q:False).elim
 | ret=>exact (q.2:False).elim
 | exit id=>exact absurd q.1 (by simp)
 | goto id=>exact absurd q.1 (by simp)
 | panic c=>exact absurd q.1 (by simp)
 | outgrown=>exact absurd q.1 (by simp)
theorem Mk.cons {ds:List Nat} {F0 F1:Fm} {D:Nat} (h:Mk ds F0 F1) (hD:∀o,¬F1.at_ D o):Mk (D::ds) F0 (frz F1 [(D,markO)]) where
 at_:=fun E hE=>by
  rcases List.mem_cons.1 hE with rfl | hE
  · exact .inl (by simp)
  · exact .inr (h.at_ E hE)
 nodup:=List.nodup_cons.2 ⟨fun hm=>hD _ (h.at_ D hm),h.nodup⟩
 old:=fun b o hb=>by
  obtain ⟨h1,h2⟩:=h.old b o hb
  refine ⟨.inr h1,fun hm=>?_⟩
  rcases List.mem_cons.1 hm with rfl | hm
  · exact hD _ h1
  · exact h2 hm
 os:=h.os
 tape:=h.tape
 output:=h.output
 drawn:=h.drawn
theorem Mk.one {D:Nat} (hD:∀o,¬F.at_ D o):Mk [D] F (frz F [(D,markO)]):=Mk.cons Mk.nil hD
theorem Vc.rangeFunc {α:Type} {gv:Operand} {ps:List Nat} {assign body:Code} {gf:Nat} {lb:List Value} {enc:α→List Value} {Sp S:List α→Prop} {hi rest:Hl} (I:List α→Hl→Prop) (hc0:Hl)
 (hro:n.ro=none) (hg:ev l gv=some (.func (.func gf) #[] lb.toArray)) [hcf:TyCall P gf] (hps:∀x,(enc x).length=ps.length) (hbl:(ps.all fun p=>Nat.blt p n.n)=true)
 (hp:hl.Perm ((hi++hc0)++rest)) (hit:∀F1,(∀b o,(b,o)∈rest∨F.at_ b o→F1.at_ b o)→Iter P gf lb F1 enc Sp S hi) (h0:I [] hc0)
 (round:∀(lr:Nat) (rc:Loop) (pre:List α) (x:α) (hc:Hl) (F1:Fm),(∀b o,(b,o)∈rest∨F.at_ b o→F1.at_ b o)→Sp (pre++[x])→I pre hc →
  Vc P (QRd F1 lr rc (I (pre++[x]))) ⟨n.n,some lr,[],[]⟩ F1 [.code assign,.begin lr rc,.code body] (envZ l ps (enc x)) ((lr,.loop rc)::hc))
 (done:∀(D:Nat) (xs:List α) (hc:Hl),(∀o,¬F.at_ D o)→S xs→I xs hc→Vc P Qf ⟨n.n,n.ro,D::n.ds,n.dx⟩ (frz F [(D,markO)]) ks l (hc++rest)) :
 Vc P Qf n F (.code (.rangeFunc gv ps.toArray assign body)::ks) l hl:=fun a w hf hh=>by
 show (Code.rangeFunc gv ps.toArray assign body).wpIn (Fe n.ro) 0 P (postK P n.ro Qf ks) a w
 refine wpIn_rangeFunc ?_
 intro fn hfn
 rw [show (Fe n.ro).round=none from hro]
 obtain ⟨rec,hrec⟩:∃rec:Loop,rec={ state:=.ready,pending:=none,fn,tmps:=a.tmps,params:=ps.toArray,assign,body,defers:=w.heap.size }:=⟨_,rfl⟩
 have hh1:Hp F ((w.heap.size+1,.loop rec)::(w.heap.size,markO)::hl) ((w.alloc markO).alloc (.loop rec)):=by
  have h:=(hh.alloc markO).alloc (.loop rec)
  rw [show ({ w with heap:=w.heap.push markO }:World).heap.size=w.heap.size+1 by simp] at h
  exact h
 have hpm:((w.heap.size+1,Obj.loop rec)::(w.heap.size,markO)::hl).Perm ((hi++((w.heap.size+1,Obj.loop rec)::hc0))++(rest++[(w.heap.size,markO)])):=by
  have e1:((w.heap.size+1,Obj.loop rec)::(w.heap.size,markO)::hl).Perm ((w.heap.size+1,Obj.loop rec)::(w.heap.size,markO)::((hi++hc0)++rest)):=(hp.cons _).cons _
  refine e1.trans ?_
  have e2:((w.heap.size,markO)::((hi++hc0)++rest)).Perm ((hi++hc0)++(rest++[(w.heap.size,markO)])):=by
   rw [←lx]
   exact (List.perm_append_comm (l₁:=[(w.heap.size,markO)]))
  refine (e2.cons _).trans ?_
  rw [lx,lx,List.cons_append]
  exact List.perm_middle.symm
 obtain ⟨k1,k2,k3⟩:=Hp.frz_iff.1 (hh1.perm hpm)
 have hF1:∀b o,(b,o)∈rest∨F.at_ b o→(frz F (rest++[(w.heap.size,markO)])).at_ b o:=fun b o h=>h.imp (fun h=>List.mem_append_left _ h) id
 have hsp:=hit (frz F (rest++[(w.heap.size,markO)])) hF1 (w.heap.size+1) (fun pre h=>∃hc,I pre hc∧h=(w.heap.size+1,Obj.loop rec)::hc) (frz F (rest++[(w.heap.size,markO)])) (fun _ _ h=>h)
  (fun pre x hx hc ⟨hc',hI,e⟩ F2 hF2=>by
   subst e
   intro W hW
   have hlr:=hW.own (w.heap.size+1) _ List.mem_cons_self
   have hy:=run_yield (P:=P) (args:=(enc x).toArray) hlr (by rw [hrec];simpa using hps x)
   refine ⟨_,_,_,_,hy,?_⟩
   rw [show rec.fn=fn by rw [hrec],show rec.tmps=a.tmps by rw [hrec],show rec.params=ps.toArray by rw [hrec],show rec.assign=assign by rw [hrec],show rec.body=body by rw [hrec]]
   have hfr:Fr ⟨n.n,some (w.heap.size+1),[],[]⟩ (envZ l ps (enc x)) { tmps:=(ps.zip (enc x)).foldl (fun t (p,v)=>t.setIfInBounds p v) a.tmps,defers:=[] }:=by
    have h1:Fr ⟨n.n,some (w.heap.size+1),[],[]⟩ l { tmps:=a.tmps,defers:=[] }:=⟨rfl,hf.size,hf.has⟩
    exact fr_zip (l:=l) ps (enc x) h1 hbl
   have hz:=zip_list ps (enc x) a.tmps
   have:=wp_round (fn:=fn) (tmps:=(ps.zip (enc x)).foldl (fun t (p,v)=>t.setIfInBounds p v) a.tmps) (assign:=assign) (body:=body) (m:=n.n) hlr (by rw [hrec]) (by rw [hrec]) hfr.size hfr hW
    (round (w.heap.size+1) rec pre x hc' F2 (fun b o h=>hF2 b o (hF1 b o h)) hx hI)
   rw [←hz] at this
   exact this.mono fun e w' ⟨v,hl',h1,⟨h2,hc',h3,h4⟩,h5⟩=>⟨v,hl',h1,⟨h2,hc',h3,h4⟩,h5⟩)
  ((w.heap.size+1,Obj.loop rec)::hc0) ⟨hc0,h0,rfl⟩
 refine ⟨w.heap.size+1,[markD w.heap.size],(w.alloc markO).alloc (.loop rec),{ target:=.fn (.func gf) lb.toArray,args:=#[.func (.yield (w.heap.size+1)) #[] #[]] },(w.alloc markO).alloc (.loop rec),gf,
  (.func (.yield (w.heap.size+1)) #[] #[]::lb).toArray,(w.alloc markO).alloc (.loop rec),?_,?_,fun _ _=>trivial,?_,(by intro h;cases h),fe_calls ?_⟩
 · rw [hrec];exact run_enterLoop_outer _ _ _ _ _
 · simp only [resolve,hf.ev hg]
   simp [go_sem,Deferred.ofValue]
 · simp [invoke,hcf.call]
 · refine (hsp _ k1).mono fun e w' ⟨v,s,he,⟨xs,hS,hc,hI,es⟩,hh'⟩=>?_
   subst he;subst es
   have hlr:=hh'.own (w.heap.size+1) _ List.mem_cons_self
   refine ⟨rec.pending,_,run_endLoop (P:=P) hlr (by rw [hrec];simp),?_⟩
   have h4:Hp (frz F (rest++[(w.heap.size,markO)])) hc (w'.putObj (w.heap.size+1) (.loop { rec with state:=.exhausted })) :=
    Hp.tail (Lens.putB (put:=fun o'=>(w.heap.size+1,o')::hc) ⟨[],hc,rfl,fun _=>rfl⟩ hh' _)
   have h5:Hp F (hc++(rest++[(w.heap.size,markO)])) _:=Hp.frz_iff.2 ⟨h4,k2,k3⟩
   rw [←lx] at h5
   have h6:=(Hp.frz_iff.1 h5).1
   have hfd:Fr ⟨n.n,n.ro,w.heap.size::n.ds,n.dx⟩ l { a with defers:=[markD w.heap.size]++a.defers }:=⟨by simp [hf.dfr],hf.size,hf.has⟩
   split
   · exact done w.heap.size xs hc (fun o=>k3 w.heap.size markO o (by simp)) hS hI _ _ hfd h6
   · rename_i hc;rw [hrec] at hc;cases hc
end
def byteEnc (t:TypeId):Enc UInt8 where
 k:=1
 tid:=t
 cells:=fun b=>[.int .u8 (b.toNat:Int)]
 val:=fun b=>.int .u8 (b.toNat:Int)
 pos:=by decide
 len:=fun _=>rfl
 one:=fun x v hv=>by simp at hv;subst hv;rfl
 vc:=fun _=>rfl
theorem wrap_u8 (n:Nat):IntKind.u8.wrap (n:Int)=((UInt8.ofNat n).toNat:Int):=by
 simp only [IntKind.wrap,IntKind.bits,IntKind.signed]
 simp
theorem wrap_u {k:IntKind} (hk:k.signed=false) (n:Nat):k.wrap (n:Int)=((n % 2 ^ k.bits:Nat):Int):=by
 simp [IntKind.wrap,hk]
theorem wrap_ult {k:IntKind} (hk:k.signed=false) {n:Nat} (hn:n<2 ^ k.bits):k.wrap (n:Int)=(n:Int):=by
 rw [wrap_u hk,Nat.mod_eq_of_lt hn]
section
variable {P : Program} {n : Nf} {F : Fm} {l : Env} {hl : Hl} {d : Option Tmp} {ty : TypeId} {pos : String} {af : Array Edge} {g : Option (Nat × Bool)}
theorem Pv.convI {s t:TypeId} {x:Operand} {k k':IntKind} {z:Int} {ds:TypeDesc} [hs:TyUnder P s ds] [ht:TyUnder P t (.int k)] (hx:ev l x=some (.int k' z)):Pv P n l ⟨d,.convert s t x,ty,pos,af,g⟩ (.int k (k.wrap z)):=fun a w hf=>by
 simp [execOp,hf.ev hx,Go.convert,run_underlying hs.under,run_underlying ht.under,Conv.intToInt]
theorem Ev.str {tb s t:TypeId} {x:Operand} {v:Value} {xs:List UInt8} [hs:TyUnder P s (.slice tb)] [hb:TyUnder P tb (.int .u8)] [ht:TyUnder P t .string] (hsrc:Src (byteEnc tb) F hl v xs) (hx:ev l x=some v) :
 Ev P n F l hl ⟨d,.convert s t x,ty,pos,af,g⟩ (.string ⟨xs.toArray⟩):=fun a w hf hst=>by
 rcases hsrc with ⟨⟨p,c,rfl⟩,rfl⟩ | ⟨b,off,c,rfl,h⟩
 · cases p with
   | none =>
    have:=run_convert_bytes_nil (P:=P) w s tb hs.under hb.under 0 c t ht.under
    simp only [execOp,hf.ev hx,this,Sem.run_bind,Result.andThen_ok,Sem.run_pure]
    rfl
   | some a =>
    have:=run_convert_bytes_string (P:=P) w s t tb (some a) 0 c hs.under hb.under ht.under
    simp [execOp,hf.ev hx,this,Conv.bytesToString,loadCells,loadCellsFrom]
    rfl
 · have hlen:(xs.map fun b:UInt8=>(b.toNat:Int)).length=xs.length:=List.length_map _
   have:=run_convert_bytes_arg (P:=P) w s tb hs.under hb.under b off xs.length c (xs.map fun b:UInt8=>(b.toNat:Int)) hlen (fun i hi=>by
    have h1:=h w hst i (.int .u8 ((xs[i].toNat:Nat):Int)) (by
     have:=flat_get (byteEnc tb) xs i 0 xs[i] (List.getElem?_eq_getElem hi) (by simp [byteEnc])
     simp only [byteEnc,Nat.mul_one,Nat.add_zero] at this
     exact this)
    rw [h1]
    simp [List.getD,hi]) t ht.under
   have e:strOfNums (xs.map fun b:UInt8=>(b.toNat:Int))=⟨xs.toArray⟩:=by
    simp [strOfNums,List.map_map,Function.comp_def]
   rw [e] at this
   simp [execOp,hf.ev hx,this]
theorem Pv.shr {t t':TypeId} {x y:Operand} {k k':IntKind} {p:Int} (m:Nat) (hx:ev l x=some (.int k p)) (hy:ev l y=some (.int k' (m:Int))):Pv P n l ⟨d,.binOp .shr t x y t',ty,pos,af,g⟩ (.int k (p.fdiv (2 ^ Min.min m k.bits))):=fun a w hf=>by
 have h0 : ¬((m:Int)<0):=by omega
 simp [execOp,hf.ev hx,hf.ev hy,eqGuard_int,binOp,Op.shift,h0,Int.toNat_natCast]
theorem Pv.shl {t t':TypeId} {x y:Operand} {k k':IntKind} {p:Int} (m:Nat) (hx:ev l x=some (.int k p)) (hy:ev l y=some (.int k' (m:Int))):Pv P n l ⟨d,.binOp .shl t x y t',ty,pos,af,g⟩ (.int k (k.wrap (p*2 ^ Min.min m k.bits))):=fun a w hf=>by
 have h0 : ¬((m:Int)<0):=by omega
 simp [execOp,hf.ev hx,hf.ev hy,eqGuard_int,binOp,Op.shift,h0,Int.toNat_natCast]
theorem Pv.shrN {t t':TypeId} {x y:Operand} {k k':IntKind} (p m:Nat) (hx:ev l x=some (.int k (p:Int))) (hy:ev l y=some (.int k' (m:Int))) (hm:m≤k.bits):Pv P n l ⟨d,.binOp .shr t x y t',ty,pos,af,g⟩ (.int k ((p / 2 ^ m:Nat):Int)):=by
 have h:=Pv.shr (P:=P) (n:=n) (d:=d) (ty:=ty) (pos:=pos) (af:=af) (g:=g) (t:=t) (t':=t') m hx hy
 rw [Nat.min_eq_left hm,Int.fdiv_eq_ediv_of_nonneg _ (by exact_mod_cast Nat.zero_le _)] at h
 exact_mod_cast h
theorem Pv.shlN {t t':TypeId} {x y:Operand} {k k':IntKind} (p m:Nat) (hk:k.signed=false) (hx:ev l x=some (.int k (p:Int))) (hy:ev l y=some (.int k' (m:Int))) (hm:m≤k.bits):Pv P n l ⟨d,.binOp .shl t x y t',ty,pos,af,g⟩ (.int k ((p*2 ^ m % 2 ^ k.bits:Nat):Int)):=by
 have h:=Pv.shl (P:=P) (n:=n) (d:=d) (ty:=ty) (pos:=pos) (af:=af) (g:=g) (t:=t) (t':=t') m hx hy
 rw [Nat.min_eq_left hm,show ((p:Int)*2 ^ m)=((p*2 ^ m:Nat):Int) by push_cast;rfl,wrap_u hk] at h
 exact h
theorem ofInt_nat (m p:Nat):(BitVec.ofInt m (p:Int))=BitVec.ofNat m p:=by
 apply BitVec.eq_of_toNat_eq
 simp [BitVec.toNat_ofNat]
theorem Pv.orN {t t':TypeId} {x y:Operand} {k:IntKind} (p q:Nat) (hk:k.signed=false) (hx:ev l x=some (.int k (p:Int))) (hy:ev l y=some (.int k (q:Int))) (hp:p<2 ^ k.bits) (hq:q<2 ^ k.bits):Pv P n l ⟨d,.binOp .or t x y t',ty,pos,af,g⟩ (.int k ((p ||| q:Nat):Int)):=Pv.ar hx hy fun w=>by
 rw [show binOp .or t (.int k p) (.int k q)=Op.intBits .or k p q by simp [binOp]]
 show Result.ok (Value.int k (k.wrap ((BitVec.ofInt k.bits p ||| BitVec.ofInt k.bits q).toNat:Nat))) w=_
 rw [ofInt_nat,ofInt_nat,BitVec.toNat_or,BitVec.toNat_ofNat,BitVec.toNat_ofNat,Nat.mod_eq_of_lt hp,Nat.mod_eq_of_lt hq,wrap_ult hk (Nat.or_lt_two_pow hp hq)]
theorem Pv.andN' {t t':TypeId} {x y:Operand} {k:IntKind} (p q:Nat) (hk:k.signed=false) (hx:ev l x=some (.int k (p:Int))) (hy:ev l y=some (.int k (q:Int))) (hp:p<2 ^ k.bits) (hq:q<2 ^ k.bits):Pv P n l ⟨d,.binOp .and t x y t',ty,pos,af,g⟩ (.int k ((p &&& q:Nat):Int)):=Pv.ar hx hy fun w=>by
 rw [show binOp .and t (.int k p) (.int k q)=Op.intBits .and k p q by simp [binOp]]
 show Result.ok (Value.int k (k.wrap ((BitVec.ofInt k.bits p &&& BitVec.ofInt k.bits q).toNat:Nat))) w=_
 rw [ofInt_nat,ofInt_nat,BitVec.toNat_and,BitVec.toNat_ofNat,BitVec.toNat_ofNat,Nat.mod_eq_of_lt hp,Nat.mod_eq_of_lt hq,wrap_ult hk (Nat.lt_of_le_of_lt Nat.and_le_left hp)]
theorem Pv.xorN {t t':TypeId} {x y:Operand} {k:IntKind} (p q:Nat) (hk:k.signed=false) (hx:ev l x=some (.int k (p:Int))) (hy:ev l y=some (.int k (q:Int))) (hp:p<2 ^ k.bits) (hq:q<2 ^ k.bits):Pv P n l ⟨d,.binOp .xor t x y t',ty,pos,af,g⟩ (.int k ((p ^^^ q:Nat):Int)):=Pv.ar hx hy fun w=>by
 rw [show binOp .xor t (.int k p) (.int k q)=Op.intBits .xor k p q by simp [binOp]]
 show Result.ok (Value.int k (k.wrap ((BitVec.ofInt k.bits p ^^^ BitVec.ofInt k.bits q).toNat:Nat))) w=_
 rw [ofInt_nat,ofInt_nat,BitVec.toNat_xor,BitVec.toNat_ofNat,BitVec.toNat_ofNat,Nat.mod_eq_of_lt hp,Nat.mod_eq_of_lt hq,wrap_ult hk (Nat.xor_lt_two_pow hp hq)]
theorem run_equal_nilS {t e:TypeId} {p:Option Addr} {m c:Nat} {w:World} (h:P.underlying t=some (.slice e)):(Op.equal t (.slice p m c) (.slice none 0 0)).run P w=.ok p.isNone w:=by
 have key:∀n,(Op.equalIn (n+1) t (.slice p m c) (.slice none 0 0)).run P w=.ok p.isNone w:=fun n=>by
  cases p<;>simp [Op.equalIn,run_underlying h]
 exact key 9999
theorem Pv.eqlNilS {t t' e:TypeId} {x y:Operand} {p:Option Addr} {m c:Nat} [h:TyUnder P t (.slice e)] (hx:ev l x=some (.slice p m c)) (hy:ev l y=some (.slice none 0 0)):Pv P n l ⟨d,.binOp .eql t x y t',ty,pos,af,g⟩ (.bool p.isNone):=fun a w hf=>by
 have:=run_equal_nilS (P:=P) (t:=t) (p:=p) (m:=m) (c:=c) (w:=w) h.under
 cases p<;>simp [execOp,hf.ev hx,hf.ev hy,eqGuard,binOp,this]
theorem Arg.sub {α:Type} {E:Enc α} {b off m c:Nat} {xs:List α} (h:Arg E F (.slice (some ⟨b,off,none⟩) m c) xs) (i j:Nat) (hij:i≤j) (hj:j≤xs.length) :
 Arg E F (.slice (some ⟨b,if c=i then off else off+i*E.k,none⟩) (j-i) (c-i)) ((xs.drop i).take (j-i)):=by
 rcases h with ⟨_,rfl⟩ | ⟨b',off',c',e,hc,hcell⟩
 · obtain rfl:j=0:=by simpa using hj
   obtain rfl:i=0:=by omega
   exact .inl ⟨⟨_,_,rfl⟩,by simp⟩
 · cases e
   have hlen:((xs.drop i).take (j-i)).length=j-i:=by simp;omega
   by_cases hci:c=i
   · have h0:j-i=0:=by omega
     rw [if_pos hci]
     refine .inr ⟨b,off,c-i,by rw [hlen],by rw [hlen];omega,fun w hw q u hu=>?_⟩
     rw [h0,List.take_zero] at hu
     simp [flat] at hu
   · rw [if_neg hci]
     refine .inr ⟨b,off+i*E.k,c-i,by rw [hlen],by rw [hlen];omega,fun w hw q u hu=>?_⟩
     have e1:flat E xs=flat E (xs.take i)++(flat E ((xs.drop i).take (j-i))++flat E ((xs.drop i).drop (j-i))):=by
      rw [←flat_append,List.take_append_drop,←flat_append,List.take_append_drop]
     have hl2:(flat E (xs.take i)).length=i*E.k:=by rw [flat_length];congr 1;simp;omega
     have:=hcell w hw (i*E.k+q) u (by
      rw [e1,List.getElem?_append_right (by omega),hl2,show i*E.k+q-i*E.k=q by omega,List.getElem?_append_left (List.getElem?_eq_some_iff.1 hu).1,hu])
     rwa [←Nat.add_assoc] at this
theorem Pv.buildA {t e k m:Nat} {z:Value} {ps:List (Nat×Operand)} {vs:List (Nat×Value)} {c:Array Value} [hu:TyUnder P t (.array m e)] [hs:TySize P e k] [hz:TyZero P t z] (hp:evp l ps=some vs) (hc:Instr.fill (fun i=>some (i*k,k)) z.cells vs=some c):Pv P n l ⟨d,.build t ps.toArray,ty,pos,af,g⟩ (.agg c):=fun a w hf=>by
 simp [execOp,hf.evp hp,Instr.build,run_underlying hu.under,hz.zero,hs.size,hc]
theorem Pv.index {t e m:Nat} {cs:List Value} {v:Value} {k:IntKind} {x y:Operand} (j:Nat) [hu:TyUnder P t (.array m e)] [h1:TyOne P e] (hx:ev l x=some (.agg cs.toArray)) (hy:ev l y=some (.int k (j:Int))) (hj:j<m) (hv:cs[j]? = some v) (ho:v.oneCell'=true):Pv P n l ⟨d,.index t x y,ty,pos,af,g⟩ v:=fun a w hf=>by
 simp [execOp,Instr.index,asIntOf,run_underlying hu.under,hf.ev hx,hf.ev hy,hj,h1.size,part,h1.agg,hv,Int.toNat_natCast]
theorem Pv.indexS {t:Nat} {s:ByteArray} {k:IntKind} {x y:Operand} (j:Nat) {b:UInt8} [hu:TyUnder P t .string] (hx:ev l x=some (.string s)) (hy:ev l y=some (.int k (j:Int))) (hv:s[j]? = some b):Pv P n l ⟨d,.index t x y,ty,pos,af,g⟩ (.int .u8 (b.toNat:Int)):=fun a w hf=>by
 simp [execOp,Instr.index,asIntOf,run_underlying hu.under,hf.ev hx,hf.ev hy,Int.toNat_natCast,hv]
variable {Qf : Exit → Act → World → Prop} {ks : List KItem} {ops : List Oper} {clr : List Nat} {hs : Hl} {r : Sd} {i : Nat}
theorem rep_get (zs:List Value):∀(m j:Nat),j<m*zs.length→((List.replicate m zs).flatten)[j]? = zs[j % zs.length]?
 | 0,j,h=>by simp at h
 | m+1,j,h=>by
  rw [List.replicate_succ,List.flatten_cons]
  by_cases hj:j<zs.length
  · rw [List.getElem?_append_left hj,Nat.mod_eq_of_lt hj]
  · rw [List.getElem?_append_right (by omega),rep_get zs m (j-zs.length) (by rw [Nat.add_mul] at h;omega),←Nat.mod_eq_sub_mod (by omega)]
theorem rep_cells (zs:List Value) (hz:0<zs.length) (m:Nat):(Array.range (m*zs.length)).map (fun j=>zs.toArray[j % zs.toArray.size]!)=((List.replicate m zs).flatten).toArray:=by
 apply Array.ext_getElem?
 intro j
 rw [Array.getElem?_map,show (((List.replicate m zs).flatten).toArray)[j]? = ((List.replicate m zs).flatten)[j]? by simp,List.size_toArray]
 by_cases hj:j<m*zs.length
 · have hm:j % zs.length<zs.length:=Nat.mod_lt _ hz
   rw [rep_get zs m j hj,Array.getElem?_range,if_pos hj,Option.map_some,List.getElem?_eq_getElem hm]
   congr 1
   rw [getElem!_pos zs.toArray _ (by simpa using hm)]
   simp
 · have hl:((List.replicate m zs).flatten).length=m*zs.length:=by simp
   rw [List.getElem?_eq_none (by omega),Array.getElem?_range,if_neg hj]
   rfl
theorem Rg.bsliceN {t st e k m:Nat} {ps:List (Nat×Operand)} {vs:List (Nat×Value)} {z:Value} {zs cs:List Value} [hu:TyUnder P st (.slice e)] [hs0:TySize P e k] [hz:TyZero P e z] (ho:nth ops i=some ⟨some t,.buildSlice st m ps.toArray,ty,pos,af,g⟩) (hg:wantB ops l g=some true) (ht:Nat.blt t n.n=true)
 (hv:evp l ps=some vs) (hcz:cl z=some zs) (hk:(zs.length==k&&Nat.blt 0 k&&Nat.blt 0 m&&Nat.ble (m*k) 16777216)=true) (hc:Instr.fill (fun i=>some (i*k,k)) ((List.replicate m zs).flatten).toArray vs=some cs.toArray)
 (h:∀b,Rg P Qf n F ks ops clr ((b,cellsO cs e)::hl) r ((t,.slice (some ⟨b,0,none⟩) m m)::l) ((b,cellsO cs e)::hl)):Rg P Qf n F ks ops clr hl (.st i .eff r) l hl :=
 Rg.run ho hg fun a w hf hh=>by
  simp only [Bool.and_eq_true,beq_iff_eq,Nat.blt_eq,Nat.ble_eq] at hk
  obtain ⟨⟨⟨hk1,hk2⟩,hk3⟩,hk4⟩:=hk
  refine ⟨{ w with heap:=w.heap.push (cellsO cs e) },(t,.slice (some ⟨w.heap.size,0,none⟩) m m)::l,(w.heap.size,cellsO cs e)::hl,_,.inl ⟨_,?_,hf.put ht _⟩,hh.alloc _,(hh.alloc _).st,.one,h _⟩
  have h2 : ¬(m*k>2 ^ 24):=by omega
  have h3 : ¬(m*k=0):=by
   intro e0
   rcases Nat.mul_eq_zero.1 e0 with h | h<;>omega
  have h4:=rep_cells zs (by omega) m
  rw [hk1] at h4
  simp only [execOp,Instr.buildSlice,Sem.run_bind,run_underlying hu.under,Result.andThen_ok,hs0.size,h2,h3,if_false,hz.zero,Sem.run_pure,List.map_toArray,hf.evp hv,(cl_spec hcz).1,h4]
  rw [hc]
  rfl
end
set_option linter.unusedSectionVars false
open Go.MapKept (IsKey findNow_spec run_findKey run_checkKey run_setObj_map)
structure Me (κ:Type) where
 k:κ
 v:Value
 born:Nat
abbrev ent {κ:Type} (kv:κ→Value) (m:Me κ):MapEntry:=⟨kv m.k,m.v,m.born⟩
def mapO {κ:Type} (kv:κ→Value) (ms:List (Me κ)) (clock:Nat):Obj:=.map (ms.map (ent kv)).toArray clock
class KeyTy (P:Program) (kt:TypeId) {κ:Type} (kv:κ→Value):Prop where
 fnd:∀(l:List MapEntry) (k:κ),(∀x∈l,∃a,x.key=kv a) →
  ((∀x∈l,x.key≠kv k)∧∀w,(Instr.findKey kt (kv k) l).run P w=.ok none w)∨∃j e,l[j]? = some e∧e.key=kv k∧∀w,(Instr.findKey kt (kv k) l).run P w=.ok (some (j,e.val)) w
 chk:∀(e:Bool) (k:κ) (w:World),(Instr.checkKey e 10000 kt (kv k)).run P w=.ok () w
 inj:∀a b,kv a=kv b→a=b
theorem KeyTy.of {P:Program} {kt:TypeId} {κ:Type} {kv:κ→Value} (h:∃d,P.underlying kt=some d∧∀a,IsKey d (kv a)) (inj:∀a b,kv a=kv b→a=b):KeyTy P kt kv:=by
 obtain ⟨d,hd,hk⟩:=h
 refine ⟨fun l k hl=>?_,fun e k w=>run_checkKey hd (hk k) e 9999,inj⟩
 rcases findNow_spec (hk k) l 0 (fun x hx=>by obtain ⟨a,ha⟩:=hl x hx;rw [ha];exact hk a) with ⟨h1,h2⟩ | ⟨j,e,h1,h2,h3⟩
 · exact .inl ⟨h2,fun w=>run_findKey hd h1⟩
 · exact .inr ⟨j,e,h2,h3,fun w=>by rw [Nat.zero_add] at h1;exact run_findKey hd h1⟩
section
variable {P : Program} {κ : Type} [DecidableEq κ] {kv : κ → Value} {kt : TypeId}
def findM (ms:List (Me κ)) (k:κ):Option (Me κ):=ms.find? fun m=>decide (m.k=k)
def cutM (ms:List (Me κ)) (k:κ):List (Me κ):=ms.filter fun m=>!decide (m.k=k)
theorem findM_none {ms:List (Me κ)} {k:κ}:findM ms k=none↔∀m∈ms,m.k≠k:=by
 simp [findM,List.find?_eq_none]
theorem findM_some {ms:List (Me κ)} {k:κ} (hn:(ms.map (·.k)).Nodup) {m:Me κ} (hm:m∈ms) (hk:m.k=k):findM ms k=some m:=by
 induction ms with
 | nil=>cases hm
 | cons x ms ih =>
  rw [List.map_cons,List.nodup_cons] at hn
  rcases List.mem_cons.1 hm with rfl | hm'
  · simp [findM,hk]
  · have hne:x.k≠k:=fun e=>hn.1 (List.mem_map.2 ⟨m,hm',by rw [hk,e]⟩)
    have:=ih hn.2 hm'
    simp only [findM,List.find?_cons,hne,decide_false] at this ⊢
    exact this
theorem run_find [h:KeyTy P kt kv] (ms:List (Me κ)) (k:κ) (w:World) (hn:(ms.map (·.k)).Nodup) :
 (findM ms k=none∧(∀m∈ms,m.k≠k)∧(Instr.findKey kt (kv k) (ms.map (ent kv))).run P w=.ok none w) ∨
 ∃j m,findM ms k=some m∧ms[j]? = some m∧m.k=k∧(Instr.findKey kt (kv k) (ms.map (ent kv))).run P w=.ok (some (j,m.v)) w:=by
 rcases h.fnd (ms.map (ent kv)) k (fun x hx=>by obtain ⟨m,_,rfl⟩:=List.mem_map.1 hx;exact ⟨_,rfl⟩) with ⟨h2,h1⟩ | ⟨j,e,h2,h3,h1⟩
 · have h4:∀m∈ms,m.k≠k:=fun m hm e=>h2 (ent kv m) (List.mem_map.2 ⟨m,hm,rfl⟩) (by rw [←e])
   exact .inl ⟨findM_none.2 h4,h4,h1 w⟩
 · rw [List.getElem?_map] at h2
   cases hm:ms[j]? with
   | none=>rw [hm] at h2;cases h2
   | some m =>
    rw [hm] at h2
    simp only [Option.map_some,Option.some.injEq] at h2
    subst h2
    have hk':=h.inj _ _ h3
    exact .inr ⟨j,m,findM_some hn (List.mem_of_getElem? hm) hk',hm,hk',h1 w⟩
theorem run_check [h:KeyTy P kt kv] (e:Bool) (k:κ) (w:World):(Instr.checkKey e 10000 kt (kv k)).run P w=.ok () w:=by
 exact h.chk e k w
variable {n : Nf} {F : Fm} {l : Env} {hl : Hl} {ty : TypeId} {pos : String} {af : Array Edge} {g : Option (Nat × Bool)} {d : Option Tmp}
theorem Ev.lookup {t e b clock:Nat} {x y:Operand} {ms:List (Me κ)} {k:κ} {z:Value} [ht:TyUnder P t (.map kt e)] [h:KeyTy P kt kv] [hz:TyZero P e z] (hx:ev l x=some (.map (some b))) (hy:ev l y=some (kv k)) [hb:Has F hl b (mapO kv ms clock)]
 (hn:(ms.map (·.k)).Nodup):Ev P n F l hl ⟨d,.lookup t x y false,ty,pos,af,g⟩ (((findM ms k).map (·.v)).getD z):=fun a w hf hs=>by
 have h1:=hb.st hs
 have h2:(getObj b).run P w=.ok (mapO kv ms clock) w:=Go.MapKept.run_getObj_map h1
 rcases run_find (P:=P) (kt:=kt) (kv:=kv) ms k w hn with ⟨h3,_,h4⟩ | ⟨j,m,h3,_,_,h4⟩
 · simp [execOp,hf.ev hx,hf.ev hy,Instr.lookup,run_underlying ht.under,h2,mapO,run_check,h4,hz.zero,h3]
 · simp [execOp,hf.ev hx,hf.ev hy,Instr.lookup,run_underlying ht.under,h2,mapO,run_check,h4,h3]
theorem Ev.lenM {t e b clock:Nat} {x:Operand} {ms:List (Me κ)} [ht:TyUnder P t (.map kt e)] (hx:ev l x=some (.map (some b))) [hb:Has F hl b (mapO kv ms clock)] :
 Ev P n F l hl ⟨d,.call { callee:=.builtin .len,args:=#[x],argTypes:=#[t] },ty,pos,af,g⟩ (.int .i64 (ms.length:Int)):=fun a w hf hs=>by
 have h1:=hb.st hs
 have h2:(getObj b).run P w=.ok (mapO kv ms clock) w:=Go.MapKept.run_getObj_map h1
 simp [execOp,resolve,invoke,builtin,Builtin.len_,run_underlying ht.under,hf.ev hx,h2,mapO,goInt]
theorem Ev.entry {b clock it since:Nat} {x:Operand} {ms:List (Me κ)} {seen:Array Nat} (m:Me κ) (hx:ev l x=some (.pointer (some ⟨it,0,none⟩))) [hi:Has F hl it (.mapIter (some b) since (seen.push m.born) clock)] [hb:Has F hl b (mapO kv ms clock)]
 (hm:m∈ms) (hn:(ms.map (·.born)).Nodup):Ev P n F l hl ⟨d,.entry x,ty,pos,af,g⟩ (.tuple #[kv m.k,m.v]):=fun a w hf hs=>by
 have h:=run_entry_at (P:=P) w it b since seen (ms.map (ent kv)).toArray clock (ent kv m) (hi.st hs) (hb.st hs) (by rw [List.toList_toArray];exact List.mem_map.2 ⟨m,hm,rfl⟩) (by rw [List.toList_toArray,List.map_map];exact hn)
 simp [execOp,hf.ev hx,h]
variable {Qf : Exit → Act → World → Prop} {ks : List KItem} {ops : List Oper} {clr : List Nat} {hs : Hl} {r : Sd} {i : Nat}
theorem Rg.makeMap {t0 t:Nat} (kv:κ→Value) (ho:nth ops i=some ⟨some t0,.makeMap t none,ty,pos,af,g⟩) (hg:wantB ops l g=some true) (ht:Nat.blt t0 n.n=true)
 (h:∀b,Rg P Qf n F ks ops clr ((b,mapO kv [] 0)::hl) r ((t0,.map (some b))::l) ((b,mapO kv [] 0)::hl)):Rg P Qf n F ks ops clr hl (.st i .eff r) l hl :=
 Rg.run ho hg fun a w hf hh=>⟨{ w with heap:=w.heap.push (mapO kv [] 0) },(t0,.map (some w.heap.size))::l,(w.heap.size,mapO kv [] 0)::hl,_,
  .inl ⟨_,by simp [execOp,Instr.makeMap,mapO],hf.put ht _⟩,hh.alloc _,(hh.alloc _).st,.one,h _⟩
theorem Rg.mapPut {t e b clock:Nat} {x y z:Operand} {ms:List (Me κ)} {k:κ} {v:Value} {put:Obj→Hl} [ht:TyUnder P t (.map kt e)] [h:KeyTy P kt kv] (ho:nth ops i=some ⟨d,.mapUpdate t x y z,ty,pos,af,g⟩) (hg:wantB ops l g=some true) (hd:d=none)
 (hx:ev l x=some (.map (some b))) (hy:ev l y=some (kv k)) (hz:ev l z=some v) [hb:Lens hl b (mapO kv ms clock) put] (hno:∀m∈ms,m.k≠k) (hn:(ms.map (·.k)).Nodup) (hclr:clr.contains i=true)
 (hc:Rg P Qf n F ks ops clr (put (mapO kv (ms++[⟨k,v,clock⟩]) (clock+1))) r l (put (mapO kv (ms++[⟨k,v,clock⟩]) (clock+1)))):Rg P Qf n F ks ops clr hs (.st i .eff r) l hl :=
 Rg.run ho hg fun a w hf hh=>by
  subst hd
  have h1:=hh.own b _ hb.mem
  have h2:(getObj b).run P w=.ok (mapO kv ms clock) w:=Go.MapKept.run_getObj_map h1
  rcases run_find (P:=P) (kt:=kt) (kv:=kv) ms k w hn with ⟨_,_,h4⟩ | ⟨j,m,_,hm,hk,_⟩
  · have h5:(setObj b (mapO kv (ms++[⟨k,v,clock⟩]) (clock+1))).run P w=.ok () (putB w b (mapO kv (ms++[⟨k,v,clock⟩]) (clock+1))):=run_setObj_map _ h1
    simp only [mapO,List.map_append,List.map_cons,List.map_nil] at h5
    exact ⟨putB w b (mapO kv (ms++[⟨k,v,clock⟩]) (clock+1)),l,_,_,.inr ⟨by simp [execOp,hf.ev hx,hf.ev hy,hf.ev hz,Instr.mapUpdate,run_underlying ht.under,h2,mapO,run_check,h4,h5],hf⟩,hb.putB hh _,(hb.putB hh _).st,.inl hclr,hc⟩
  · exact absurd hk (hno m (List.mem_of_getElem? hm))
theorem cutM_erase {ms:List (Me κ)} {j:Nat} {m:Me κ} (hn:(ms.map (·.k)).Nodup) (hm:ms[j]? = some m):ms.eraseIdx j=cutM ms m.k:=by
 induction ms generalizing j with
 | nil=>simp at hm
 | cons x ms ih =>
  rw [List.map_cons,List.nodup_cons] at hn
  cases j with
  | zero =>
   simp only [List.getElem?_cons_zero,Option.some.injEq] at hm
   subst hm
   have:cutM ms x.k=ms:=by
    rw [cutM,List.filter_eq_self]
    intro y hy
    have:y.k≠x.k:=fun e=>hn.1 (List.mem_map.2 ⟨y,hy,e⟩)
    simp [this]
   rw [List.eraseIdx_cons_zero]
   have e2:cutM (x::ms) x.k=cutM ms x.k:=by simp [cutM]
   rw [e2,this]
  | succ j =>
   simp only [List.getElem?_cons_succ] at hm
   have hne:x.k≠m.k:=fun e=>hn.1 (List.mem_map.2 ⟨m,List.mem_of_getElem? hm,e.symm⟩)
   rw [List.eraseIdx_cons_succ,ih hn.2 hm]
   simp [cutM,hne]
theorem Rg.mapDel {t t' e b clock:Nat} {x y:Operand} {ms:List (Me κ)} {k:κ} {put:Obj→Hl} [ht:TyUnder P t (.map kt e)] [h:KeyTy P kt kv] (ho:nth ops i=some ⟨d,.call { callee:=.builtin .delete,args:=#[x,y],argTypes:=#[t,t'] },ty,pos,af,g⟩) (hg:wantB ops l g=some true) (hd:d=none)
 (hx:ev l x=some (.map (some b))) (hy:ev l y=some (kv k)) [hb:Lens hl b (mapO kv ms clock) put] (hin:∃m∈ms,m.k=k) (hn:(ms.map (·.k)).Nodup) (hclr:clr.contains i=true)
 (hc:Rg P Qf n F ks ops clr (put (mapO kv (cutM ms k) clock)) r l (put (mapO kv (cutM ms k) clock))):Rg P Qf n F ks ops clr hs (.st i .eff r) l hl :=
 Rg.run ho hg fun a w hf hh=>by
  subst hd
  have h1:=hh.own b _ hb.mem
  have h2:(getObj b).run P w=.ok (mapO kv ms clock) w:=Go.MapKept.run_getObj_map h1
  rcases run_find (P:=P) (kt:=kt) (kv:=kv) ms k w hn with ⟨_,hno,_⟩ | ⟨j,m,_,hm,hk,h4⟩
  · obtain ⟨m,hm,hk⟩:=hin
    exact absurd hk (hno m hm)
  · have hj:=(List.getElem?_eq_some_iff.1 hm).1
    have h6:(ms.map (ent kv)).eraseIdx j=(cutM ms k).map (ent kv):=by
     rw [←hk,←cutM_erase hn hm,Go.ChangeMaps.map_eraseIdx]
    have h5:(setObj b (mapO kv (cutM ms k) clock)).run P w=.ok () (putB w b (mapO kv (cutM ms k) clock)):=run_setObj_map _ h1
    simp only [mapO] at h5
    have h8:(ms.map (ent kv)).toArray.eraseIdxIfInBounds j=((cutM ms k).map (ent kv)).toArray:=by
     rw [←h6]
     simp [Array.eraseIdxIfInBounds,hj]
    refine ⟨putB w b (mapO kv (cutM ms k) clock),l,_,_,.inl ⟨.tuple #[],?_,hf⟩,hb.putB hh _,(hb.putB hh _).st,.inl hclr,hc⟩
    simp only [execOp,resolve,invoke,builtin,hf.ev hx,hf.ev hy,Builtin.delete_,run_underlying ht.under,h2,mapO,run_check,h4,h8,h5,Sem.run_bind,Sem.run_pure,Result.andThen_ok,List.map_toArray,List.map_cons,List.map_nil,List.getElem?_toArray,List.getElem?_cons_zero,List.getElem?_cons_succ]
theorem Rg.range {t0 t e b clock:Nat} {x:Operand} {ms:List (Me κ)} [ht:TyUnder P t (.map kt e)] (ho:nth ops i=some ⟨some t0,.range t x,ty,pos,af,g⟩) (hg:wantB ops l g=some true) (ht0:Nat.blt t0 n.n=true)
 (hx:ev l x=some (.map (some b))) [hb:Has F hl b (mapO kv ms clock)]
 (h:∀it,Rg P Qf n F ks ops clr ((it,.mapIter (some b) clock #[] clock)::hl) r ((t0,.pointer (some ⟨it,0,none⟩))::l) ((it,.mapIter (some b) clock #[] clock)::hl)):Rg P Qf n F ks ops clr hl (.st i .eff r) l hl :=
 Rg.run ho hg fun a w hf hh=>by
  have h2:(getObj b).run P w=.ok (mapO kv ms clock) w:=Go.MapKept.run_getObj_map (hb.hp hh)
  exact ⟨{ w with heap:=w.heap.push (.mapIter (some b) clock #[] clock) },(t0,.pointer (some ⟨w.heap.size,0,none⟩))::l,(w.heap.size,.mapIter (some b) clock #[] clock)::hl,_,
   .inl ⟨_,by simp [execOp,Instr.range,run_underlying ht.under,hf.ev hx,h2,mapO],hf.put ht0 _⟩,hh.alloc _,(hh.alloc _).st,.one,h _⟩
theorem Rg.next {t0 b clock it since c0:Nat} {x:Operand} {ms:List (Me κ)} {seen:Array Nat} {put:Obj→Hl} (ho:nth ops i=some ⟨some t0,.next x false,ty,pos,af,g⟩) (hg:wantB ops l g=some true) (ht0:Nat.blt t0 n.n=true)
 (hx:ev l x=some (.pointer (some ⟨it,0,none⟩))) [hi:Lens hl it (.mapIter (some b) since seen c0) put] [hb:Has F hl b (mapO kv ms clock)] (hold:∀m∈ms,m.born<since) (hsc:since≤c0) (hclr:clr.contains i=true)
 (h0:(∀m∈ms,seen.contains m.born=true)→Rg P Qf n F ks ops clr hl r ((t0,.tuple #[.bool false])::l) hl)
 (h1:∀m∈ms,seen.contains m.born=false→Rg P Qf n F ks ops clr (put (.mapIter (some b) since (seen.push m.born) clock)) r ((t0,.tuple #[.bool true,kv m.k,m.v])::l) (put (.mapIter (some b) since (seen.push m.born) clock))) :
 Rg P Qf n F ks ops clr hs (.st i .eff r) l hl :=
 Rg.run ho hg fun a w hf hh=>by
  rcases run_next_at (P:=P) w ty it b since c0 seen (ms.map (ent kv)).toArray clock (hh.own it _ hi.mem) (hb.hp hh) (fun x hx=>by
   have hx':x∈ms.map (ent kv):=by simpa using hx
   obtain ⟨m,hm,rfl⟩:=List.mem_map.1 hx'
   exact hold m hm) hsc with ⟨he,hr⟩ | ⟨e,he,w1,hw1,hr⟩
  · refine ⟨w,_,_,_,.inl ⟨_,by simp [execOp,hf.ev hx,hr],hf.put ht0 _⟩,hh,hh.st,.inl hclr,h0 fun m hm=>?_⟩
    have h2:=Array.eq_empty_of_size_eq_zero he
    rw [leftOf,Array.filter_eq_empty_iff] at h2
    have:=h2 (ent kv m) (by rw [List.mem_toArray];exact List.mem_map.2 ⟨m,hm,rfl⟩)
    simpa using this
  · have he':e∈ms.map (ent kv)∧seen.contains e.born=false:=by
     simp only [leftOf,Array.toList_filter,List.mem_filter] at he
     exact ⟨by simpa using he.1,by simpa using he.2⟩
    obtain ⟨hme,hnew⟩:=he'
    obtain ⟨m,hm,rfl⟩:=List.mem_map.1 hme
    have hh1:Hp F hl w1:=by rcases hw1 with rfl | rfl;exact hh;exact hh.drew
    exact ⟨_,_,_,_,.inl ⟨_,by simp [execOp,hf.ev hx,hr,ChangeMaps.setBlock,Go.Proofs.YtkpiakgmkpbikaaGreatDoor.putB],hf.put ht0 _⟩,hi.putB hh1 _,(hi.putB hh1 _).st,.inl hclr,h1 m hm hnew⟩
theorem Rg.make0 {α:Type} (E:Enc α) {t0 t B c:Nat} {x y:Operand} {kl kc:IntKind} [hT:TySl P t E B] (ho:nth ops i=some ⟨some t0,.makeSlice t x y,ty,pos,af,g⟩) (hg:wantB ops l g=some true) (ht0:Nat.blt t0 n.n=true)
 (hx:ev l x=some (.int kl 0)) (hy:ev l y=some (.int kc (c:Int))) (hc:B*c≤281474976710656∧c≤maxLen)
 (h:∀b sp,Own E (.slice (some ⟨b,0,none⟩) 0 c) [] [(b,rowS E [] sp)]→Rg P Qf n F ks ops clr ((b,rowS E [] sp)::hl) r ((t0,.slice (some ⟨b,0,none⟩) 0 c)::l) ((b,rowS E [] sp)::hl)):Rg P Qf n F ks ops clr hl (.st i .eff r) l hl :=
 Rg.run ho hg fun a w hf hh=>by
  obtain ⟨inf,z,hi,hz,hsz,hby,hzs⟩:=hT.info
  have hm:(maxLen:Int)≤9223372036854775807:=by simp [maxLen]
  have hb':(inf.bytes:Int)*(c:Int)≤281474976710656:=by
   have h:((inf.bytes*c:Nat):Int)≤281474976710656:=by rw [hby];omega
   rwa [Int.natCast_mul] at h
  have hr:=run_make (P:=P) w t E.tid inf z hT.under hi hz kl kc 0 c (Int.le_refl _) (by omega) hb' (by omega)
  simp only [Int.toNat_zero,Int.toNat_natCast] at hr
  have e:w.alloc (.cells (madeCells z.cells (c*inf.size)) E.tid)={ w with heap:=w.heap.push (rowS E [] (madeCells z.cells (c*inf.size)).toList) }:=by
   show ({ w with heap:=w.heap.push _ }:World)=_
   simp [rowS,flat]
  rw [e] at hr
  refine ⟨_,(t0,.slice (some ⟨w.heap.size,0,none⟩) 0 c)::l,(w.heap.size,rowS E [] (madeCells z.cells (c*inf.size)).toList)::hl,_,.inl ⟨_,by simp [execOp,hf.ev hx,hf.ev hy,hr],hf.put ht0 _⟩,hh.alloc _,(hh.alloc _).st,.one,h _ _ (.blk _ c [] _ ?_ hc.2)⟩
  have:=size_madeCells z.cells (c*inf.size)
  rw [hsz] at this ⊢
  simp [this]
theorem run_equal_nilP {t e:TypeId} {p:Option Addr} {w:World} (h:P.underlying t=some (.pointer e)):(Op.equal t (.pointer p) (.pointer none)).run P w=.ok p.isNone w:=by
 have key:∀n,(Op.equalIn (n+1) t (.pointer p) (.pointer none)).run P w=.ok p.isNone w:=fun n=>by
  cases p<;>simp [Op.equalIn,run_underlying h]
 exact key 9999
theorem Pv.neqNil {t t' e:TypeId} {x y:Operand} {p:Option Addr} [h:TyUnder P t (.pointer e)] (hx:ev l x=some (.pointer p)) (hy:ev l y=some (.pointer none)):Pv P n l ⟨d,.binOp .neq t x y t',ty,pos,af,g⟩ (.bool p.isSome):=fun a w hf=>by
 have:=run_equal_nilP (P:=P) (t:=t) (p:=p) (w:=w) h.under
 cases p<;>simp [execOp,hf.ev hx,hf.ev hy,eqGuard,binOp,this]
theorem Pv.eqlNil {t t' e:TypeId} {x y:Operand} {p:Option Addr} [h:TyUnder P t (.pointer e)] (hx:ev l x=some (.pointer p)) (hy:ev l y=some (.pointer none)):Pv P n l ⟨d,.binOp .eql t x y t',ty,pos,af,g⟩ (.bool p.isNone):=fun a w hf=>by
 have:=run_equal_nilP (P:=P) (t:=t) (p:=p) (w:=w) h.under
 cases p<;>simp [execOp,hf.ev hx,hf.ev hy,eqGuard,binOp,this]
theorem Pv.eqlS {t t':TypeId} {x y:Operand} {p q:ByteArray} [h:TyUnder P t .string] (hx:ev l x=some (.string p)) (hy:ev l y=some (.string q)):Pv P n l ⟨d,.binOp .eql t x y t',ty,pos,af,g⟩ (.bool (decide (p=q))):=fun a w hf=>by
 have e:(p.toList==q.toList)=decide (p=q):=by
  rw [Bool.eq_iff_iff,dt,ByteArray.toList_eq,ByteArray.toList_eq,beq_iff_eq]
  exact ⟨fun h=>(by obtain ⟨⟨x⟩⟩:=p;obtain ⟨⟨y⟩⟩:=q;simp only at h;rw [h]),fun h=>by rw [h]⟩
 simp [execOp,hf.ev hx,hf.ev hy,eqGuard,binOp,Op.stringOp,e]
theorem Pv.neqS {t t':TypeId} {x y:Operand} {p q:ByteArray} [h:TyUnder P t .string] (hx:ev l x=some (.string p)) (hy:ev l y=some (.string q)):Pv P n l ⟨d,.binOp .neq t x y t',ty,pos,af,g⟩ (.bool (!decide (p=q))):=fun a w hf=>by
 have e:(p.toList==q.toList)=decide (p=q):=by
  rw [Bool.eq_iff_iff,dt,ByteArray.toList_eq,ByteArray.toList_eq,beq_iff_eq]
  exact ⟨fun h=>(by obtain ⟨⟨x⟩⟩:=p;obtain ⟨⟨y⟩⟩:=q;simp only at h;rw [h]),fun h=>by rw [h]⟩
 simp [execOp,hf.ev hx,hf.ev hy,eqGuard,binOp,Op.stringOp,e]
end
end Go.Proofs.YtkpiakgmkpbikaaGreatDoor
namespace Go.Proofs.YtkpiakgmkpbikaaGreatDoor
theorem flat_rep {α:Type} (E:Enc α) (z:α) (m:Nat):flat E (List.replicate m z)=(List.replicate m (E.cells z)).flatten:=by
 induction m with
 | zero=>rfl
 | succ m ih=>rw [List.replicate_succ,List.replicate_succ,List.flatten_cons,←ih];rfl
section
variable {P : Program} {n : Nf} {F : Fm} {l : Env} {hl : Hl} {d : Option Tmp} {ty : TypeId} {pos : String} {af : Array Edge} {g : Option (Nat × Bool)} {α : Type} {E : Enc α}
variable {Qf : Exit → Act → World → Prop} {ks : List KItem} {ops : List Oper} {clr : List Nat} {hs : Hl} {r : Sd} {i : Nat}
theorem Rg.makeN (E:Enc α) (z:α) {t0 t B m:Nat} {x y:Operand} {kl kc:IntKind} [hT:TySl P t E B] [hz:TyZero P E.tid (E.val z)] (ho:nth ops i=some ⟨some t0,.makeSlice t x y,ty,pos,af,g⟩) (hg:wantB ops l g=some true) (ht0:Nat.blt t0 n.n=true)
 (hx:ev l x=some (.int kl (m:Int))) (hy:ev l y=some (.int kc (m:Int))) (hc:B*m≤281474976710656∧m≤maxLen)
 (h:∀b,Own E (.slice (some ⟨b,0,none⟩) m m) (List.replicate m z) [(b,rowS E (List.replicate m z) [])]→Rg P Qf n F ks ops clr ((b,rowS E (List.replicate m z) [])::hl) r ((t0,.slice (some ⟨b,0,none⟩) m m)::l) ((b,rowS E (List.replicate m z) [])::hl)):Rg P Qf n F ks ops clr hl (.st i .eff r) l hl :=
 Rg.run ho hg fun a w hf hh=>by
  obtain ⟨inf,z',hi,hz',hsz,hby,hzs⟩:=hT.info
  have hzz:z'=E.val z:=by
   have h1:=hz.zero w
   have h2:(zeroValue E.tid).run P w=.ok z' w:=by simp [zeroValue,typeInfo,hi,hz']
   rw [h2] at h1
   cases h1;rfl
  subst hzz
  have hm:(maxLen:Int)≤9223372036854775807:=by simp [maxLen]
  have hb':(inf.bytes:Int)*(m:Int)≤281474976710656:=by
   have h:((inf.bytes*m:Nat):Int)≤281474976710656:=by rw [hby];omega
   rwa [Int.natCast_mul] at h
  have hr:=run_make (P:=P) w t E.tid inf (E.val z) hT.under hi hz' kl kc m m (by omega) (Int.le_refl _) hb' (by omega)
  simp only [Int.toNat_natCast] at hr
  have hcell:(E.val z).cells=(E.cells z).toArray:=by rw [←E.vc]
  have e1:madeCells (E.val z).cells (m*inf.size)=(flat E (List.replicate m z)++[]).toArray:=by
   have h4:=rep_cells (E.cells z) (by rw [E.len];exact E.pos) m
   rw [E.len] at h4
   unfold madeCells
   rw [hsz,hcell,h4,flat_rep,List.append_nil]
  have e:w.alloc (.cells (madeCells (E.val z).cells (m*inf.size)) E.tid)={ w with heap:=w.heap.push (rowS E (List.replicate m z) []) }:=by
   rw [e1];rfl
  rw [e] at hr
  refine ⟨_,(t0,.slice (some ⟨w.heap.size,0,none⟩) m m)::l,(w.heap.size,rowS E (List.replicate m z) [])::hl,_,.inl ⟨_,by simp [execOp,hf.ev hx,hf.ev hy,hr],hf.put ht0 _⟩,hh.alloc _,(hh.alloc _).st,.one,h _ ?_⟩
  exact Own.blk' (E:=E) w.heap.size m m (List.replicate m z) [] (by simp) (by simp) hc.2
theorem Pv.sl3 {t e k m c b off:Nat} {x y z u:Operand} (i j q:Nat) [ht:TyUnder P t (.slice e)] [hs:TySize P e k] (hx:ev l x=some (.slice (some ⟨b,off,none⟩) m c)) (hy:ev l y=some (.int .i64 (i:Int))) (hz:ev l z=some (.int .i64 (j:Int))) (hu:ev l u=some (.int .i64 (q:Int))) (hij:i≤j) (hj:j≤q) (hq:q≤c) :
 Pv P n l ⟨d,.slice t x (some y) (some z) (some u),ty,pos,af,g⟩ (.slice (some ⟨b,if q=i then off else off+i*k,none⟩) (j-i) (q-i)):=fun a w hf=>by
 simp [execOp,Instr.sliceAt,Instr.slice,Instr.sliceBounds,Instr.sliceBound,run_underlying ht.under,hf.ev hx,hf.ev hy,hf.ev hz,hf.ev hu,hs.size,asIntOf,hij,hj,hq]
 split<;>simp [addr_add]
end
end Go.Proofs.YtkpiakgmkpbikaaGreatDoor
