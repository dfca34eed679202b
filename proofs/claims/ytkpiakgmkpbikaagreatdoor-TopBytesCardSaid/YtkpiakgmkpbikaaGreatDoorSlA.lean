/- Proved here: steps of the proof (SlA). -/
import Derived.OrdersHeld
import Derived.OrdersIn
import Derived.RangeFuncLeaves
import Derived.RangeFuncRecord
import Derived.Tactics
import Derived.Laws.World
import Derived.KernelRfl
set_option linter.unusedVariables false
namespace Go.Proofs.YtkpiakgmkpbikaaGreatDoor
def nth {α:Type}:List α→Nat→Option α
 | [],_=>none
 | x::_,0=>some x
 | _::l,i+1=>nth l i
theorem nth_eq {α:Type}:∀(l:List α) (i:Nat),nth l i=l[i]?
 | [],_=>rfl
 | _::_,0=>rfl
 | _::l,i+1=>by simp [nth,nth_eq l i]
def befBits (acc:List Nat):List Edge→Nat
 | []=>0
 | e::r=>(if Region.binds .any e then 2 ^ e.on ||| (nth acc e.on).getD 0 else 0) ||| befBits acc r
def befGo:List Oper→List Nat→List Nat
 | [],acc=>acc
 | o::r,acc=>befGo r (acc++[befBits acc o.after.toList])
def bef (l:List Oper):List Nat:=befGo l []
def Closed (ops:Array Oper) (L:Array Bool):Prop :=
 ∀j o,ops[j]? = some o→L.getD j false=true→∀e∈o.after,Region.binds .any e=true→L.getD e.on false=true
theorem befBits_spec (acc:List Nat) (i:Nat):∀es:List Edge,(befBits acc es).testBit i=true →
 ∃e∈es,Region.binds .any e=true∧(e.on=i∨((nth acc e.on).getD 0).testBit i=true)
 | [],h=>by simp [befBits] at h
 | e::r,h=>by
  simp only [befBits,Nat.testBit_or,Bool.or_eq_true] at h
  rcases h with h | h
  · by_cases hb:Region.binds .any e=true
    · simp only [hb,if_true,Nat.testBit_or,Bool.or_eq_true,Nat.testBit_two_pow,decide_eq_true_eq] at h
      exact ⟨e,List.mem_cons_self,hb,h⟩
    · simp [hb] at h
  · obtain ⟨e',hm,hh⟩:=befBits_spec acc i r h
    exact ⟨e',List.mem_cons_of_mem _ hm,hh⟩
def BefOk (ops:Array Oper) (acc:List Nat):Prop :=
 ∀(L:Array Bool),Closed ops L→∀j o i,ops[j]? = some o→((nth acc j).getD 0).testBit i=true →
  (∀e∈o.after,Region.binds .any e=true→L.getD e.on false=true)→L.getD i false=true
theorem befGo_ok (ops:Array Oper):∀(r:List Oper) (acc:List Nat),(∀j o,r[j]? = some o→ops[acc.length+j]? = some o)→BefOk ops acc→BefOk ops (befGo r acc)
 | [],_,_,h=>h
 | o::r,acc,hr,h=>by
  refine befGo_ok ops r _ (fun j o' hj => ?_) ?_
  · have:=hr (j+1) o' (by simpa using hj)
    simp only [List.length_append,List.length_cons,List.length_nil]
    rw [show acc.length+1+j=acc.length+(j+1) by omega]
    exact this
  · intro L hL j o' i hj hb hp
    rw [nth_eq,List.getElem?_append] at hb
    by_cases hlt:j<acc.length
    · rw [if_pos hlt,←nth_eq] at hb
      exact h L hL j o' i hj hb hp
    · rw [if_neg hlt] at hb
      by_cases hz:j-acc.length=0
      · have hjl:j=acc.length:=by omega
        rw [hz] at hb
        simp only [List.getElem?_cons_zero,Option.getD_some] at hb
        have ho:=hr 0 o rfl
        rw [Nat.add_zero,←hjl,hj] at ho
        obtain rfl:=Option.some.inj ho
        obtain ⟨e,he,hbind,hi⟩:=befBits_spec acc i _ hb
        have hLe:=hp e (by simpa using he) hbind
        rcases hi with rfl | hi
        · exact hLe
        · cases hoe:ops[e.on]? with
          | none =>
           have hle:acc.length≤e.on∨e.on<acc.length:=by omega
           rcases hle with hle | hle
           · rw [nth_eq,List.getElem?_eq_none hle] at hi; simp at hi
           · have hsz:ops.size≤e.on:=by
              rcases Nat.lt_or_ge e.on ops.size with h' | h'
              · rw [Array.getElem?_eq_getElem h'] at hoe; cases hoe
              · exact h'
             have:j<ops.size:=(Array.getElem?_eq_some_iff.1 hj).1
             omega
          | some oe=>exact h L hL e.on oe i hoe hi (hL e.on oe hoe hLe)
      · rw [List.getElem?_eq_none (by simp; omega)] at hb
        simp at hb
theorem bef_ok (l:List Oper):BefOk l.toArray (bef l) :=
 befGo_ok _ l [] (fun j o hj=>by simpa using hj) (fun L _ j o i _ hb=>by simp [nth] at hb)
def clrOk (l:List Oper) (clr:List Nat) (i:Nat):Bool :=
 clr.all fun j=>j==i||((nth (bef l) j).getD 0).testBit i||((nth (bef l) i).getD 0).testBit j
abbrev Fe (ro:Option Nat):Fence:={ fn:=fun _=>True,depth:=none,alive:=false,round:=ro }
theorem fe_calls {ro:Option Nat} {k:Nat} {P:Program} {f:FuncId} {args:Array Value} {w:World} {R:Ending→World→Prop} (h:Calls P f args w R):CallsIn (Fe ro) k P f args w R :=
 (callsIn_wide (n:=k)).2 h
def noDefer (l:List Oper):Bool:=l.all fun o=>match o.op with | .defer _=>false | _=>true
theorem noDefer_spec {l:List Oper} (h:noDefer l=true) {i:Nat} {o:Oper} (ho:l.toArray[i]? = some o):∀c,o.op≠.defer c:=fun c hc=>by
 have hm:o∈l:=by
  have:l[i]? = some o:=by simpa using ho
  exact List.mem_of_getElem? this
 have:=List.all_eq_true.1 h o hm
 rw [hc] at this
 cases this
section
variable {P : Program} {ops : Array Oper} {Q : Exit → Act → World → Prop} {S : World → Prop} {ro : Option Nat}
abbrev wpOpX (ro:Option Nat) (P:Program) (ops:Array Oper) (Q:Exit→Act→World→Prop) (i:Nat) (K:Act→World→Prop) (a:Act) (w:World):Prop:=wpOpIn (Fe ro) 0 P ops Q i K a w
theorem yields_wpOpX {i:Nat} {o:Oper} {v:Value} {a:Act} (hi:ops[i]? = some o) (hnd:∀c,o.op≠.defer c) (hy:YieldsIf P ops S o v a)
 {K:Act→World→Prop} {w:World} (hS:S w) (h:K (a.put o.dst v) w):wpOpX ro P ops Q i K a w:=by
 unfold wpOpX wpOpIn
 simp only [hi]
 rcases hy with ⟨hw,hv⟩ | ⟨hw,rfl⟩
 · simp only [hw,if_true,Oper.wpIn,Oper.semAt_eq _ _ _ hnd,hv w hS,Oper.uponIn]; exact ⟨fun _ _=>trivial,h⟩
 · simp only [hw,Bool.false_eq_true,if_false]; exact ⟨fun _ _=>trivial,h⟩
theorem wpOpX_putIf {j:Nat} {oi oj:Oper} {v:Value} (hj:ops[j]? = some oj) (hnj:∀c,oj.op≠.defer c) (hap:oi.apart ops oj=true)
 (hsi:∀cs b,oi.op≠.select cs b) (hsj:∀cs b,oj.op≠.select cs b)
 (hQ:∀c a w,Q (.panic c) (a.put oi.dst v) w→Q (.panic c) a w) {K:Act→World→Prop} {a:Act} {w:World}
 (hy:YieldsIf P ops S oi v a) (h:wpOpX ro P ops Q j K (a.put oi.dst v) w) :
 wpOpX ro P ops Q j (fun a' w'=>YieldsIf P ops S oi v a'∧K (a'.put oi.dst v) w') a w:=by
 obtain ⟨h1,h2,h3⟩:=Oper.apart_spec hap
 have keep:∀(a:Act),YieldsIf P ops S oi v a→∀u,YieldsIf P ops S oi v (a.put oj.dst u):=fun a hy u =>
  hy.of_same (execOp_put oi hsi a oj.dst u h3) (wanted_put oi a oj.dst u h3)
 have keepD:∀d,YieldsIf P ops S oi v { a with defers:=d::a.defers }:=fun d=>hy.of_same rfl rfl
 unfold wpOpX wpOpIn at *
 simp only [hj] at *
 rw [wanted_put oj a oi.dst v h1] at h
 split
 · rename_i hw
   simp only [hw,if_true] at h
   unfold Oper.wpIn at *
   refine ⟨fun _ _=>trivial,?_⟩
   have h:=h.2
   rw [Oper.semAt_eq _ _ _ hnj,execOp_put oj hsj a oi.dst v h1] at h
   rw [Oper.semAt_eq _ _ _ hnj]
   generalize (execOp a.eval oj).run P w=r at *
   cases r with
   | ok x w' =>
    cases x<;>simp only [Oper.uponIn] at h ⊢
    case value u=>exact ⟨keep a hy u,by rw [←Act.put_comm a v u h2]; exact h⟩
    case skip=>exact ⟨keep a hy _,by rw [←Act.put_comm a v undef h2]; exact h⟩
    case defer d =>
     refine ⟨keep _ (keepD d) _,?_⟩
     rw [←Act.put_comm _ v undef h2,←Act.put_defers]
     exact h
    case enter f args =>
     refine ⟨h.1,CallsIn.mono h.2 fun e w'' he => ?_⟩
     cases e with
     | returned u=>exact ⟨keep a hy u,by rw [←Act.put_comm a v u h2]; exact he⟩
     | panicked c=>exact hQ _ _ _ he
     | outgrown=>exact he
    case row row args=>exact ⟨h.1,RowsIn.mono h.2 fun u w'' he=>⟨keep a hy u,by rw [←Act.put_comm a v u h2]; exact he⟩⟩
    case round l f tmps assign body =>
     refine ⟨h.1,RoundIn.mono h.2 fun e w'' he => ?_⟩
     cases e with
     | returned u=>exact ⟨keep a hy u,by rw [←Act.put_comm a v u h2]; exact he⟩
     | panicked c=>exact hQ _ _ _ he
     | outgrown=>exact he
   | halt x w' =>
    cases x<;>simp only [Oper.uponIn] at h ⊢
    case panic u=>exact hQ _ _ _ h
 · rename_i hw
   simp only [hw] at h
   exact ⟨fun _ _=>trivial,keep a hy _,by rw [←Act.put_comm a v undef h2]; exact h.2⟩
end
section
variable {P : Program} {l : List Oper} {Q : Exit → Act → World → Prop} {ro : Option Nat}
def wpP (ro:Option Nat) (P:Program) (l:List Oper) (Q:Exit→Act→World→Prop) (clr:List Nat):Nat→(World→Prop)→Array Bool→Act→World→Prop
 | 0,_,L,a,w=>Region.ready .any l.toArray L=[]∧Q .normal a w
 | fuel+1,S,L,a,w =>
  (Region.ready .any l.toArray L=[]→Q .normal a w) ∧
  ∀i∈Region.ready .any l.toArray L,wpOpX ro P l.toArray Q i (fun a' w'=>∃S':World→Prop,(clr.contains i=false→∀x,S' x→S x)∧S' w'∧wpP ro P l Q clr fuel S' (L.setIfInBounds i true) a' w') a w
theorem wpAny_of_P {clr:List Nat}:∀(fuel:Nat) (S:World→Prop) (L:Array Bool) (a:Act) (w:World),wpP ro P l Q clr fuel S L a w→wpAnyIn (Fe ro) 0 P .any l.toArray Q fuel L a w
 | 0,_,_,_,_,h=>h
 | fuel+1,_,_,_,_,h=>⟨h.1,fun i hi=>wpOpIn_mono (fun a' w' ⟨S',_,_,h'⟩=>wpAny_of_P fuel S' _ a' w' h') (h.2 i hi)⟩
theorem closed_set {ops:Array Oper} {L:Array Bool} {j:Nat} (hc:Closed ops L) (hj:j∈Region.ready .any ops L):Closed ops (L.setIfInBounds j true):=by
 intro k o hk hL e he hb
 obtain ⟨_,oj,hoj,hall⟩:=mem_ready.1 hj
 by_cases hkj:j=k
 · subst hkj
   rw [hoj] at hk
   obtain rfl:=Option.some.inj hk
   exact getD_set_true (hall e he hb)
 · rw [getD_set_ne false hkj] at hL
   exact getD_set_true (hc k o hk hL e he hb)
theorem unlisted_false {L:Array Bool} {i:Nat} (h:L.getD i true=false):L.getD i false=false:=by
 rcases Nat.lt_or_ge i L.size with h' | h'
 · simp [h'] at h ⊢; exact h
 · simp [Array.getElem?_eq_none h'] at h
theorem not_bef {L:Array Bool} {i j:Nat} (hc:Closed l.toArray L) (hi:i∈Region.ready .any l.toArray L) (hj:j∈Region.ready .any l.toArray L) :
 ((nth (bef l) j).getD 0).testBit i=false:=by
 cases hb:((nth (bef l) j).getD 0).testBit i with
 | false=>rfl
 | true =>
  obtain ⟨_,oj,hoj,hall⟩:=mem_ready.1 hj
  have:=bef_ok l L hc j oj i hoj hb hall
  rw [unlisted_false (mem_ready.1 hi).1] at this
  cases this
theorem wpP_first (hnd:noDefer l=true) {clr:List Nat} {i:Nat} {oi:Oper} {v:Value} (hi:l.toArray[i]? = some oi) (hsel:∀(j:Nat) (o:Oper) cs b,l.toArray[j]? = some o→o.op≠.select cs b)
 (hQ:∀c a w,Q (.panic c) (a.put oi.dst v) w→Q (.panic c) a w) :
 ∀(fuel:Nat) (L:Array Bool) (a:Act) (w:World) (S Y:World→Prop),Closed l.toArray L →
  (∀j oj,l.toArray[j]? = some oj→j≠i→L.getD j true=false→(∀e∈oj.after,Region.binds .any e=true→e.on≠i)→oi.apart l.toArray oj=true) →
  i∈Region.ready .any l.toArray L→(∀x,S x→Y x)→(clrOk l clr i=true∨∀x,Y x)→YieldsIf P l.toArray Y oi v a→S w →
  wpP ro P l Q clr fuel S (L.setIfInBounds i true) (a.put oi.dst v) w→wpP ro P l Q clr (fuel+1) S L a w:=by
 intro fuel
 induction fuel with
 | zero =>
  intro L a w S Y hc _ hr hSY _ hy hS H
  refine ⟨fun h=>(by rw [h] at hr; cases hr),fun j hj => ?_⟩
  by_cases hji:j=i
  · subst hji; exact yields_wpOpX hi (noDefer_spec hnd hi) hy (hSY _ hS) ⟨S,fun _ _ h=>h,hS,H⟩
  · have:=ready_mono hj hji
    rw [H.1] at this
    cases this
 | succ fuel ih =>
  intro L a w S Y hc hfree hr hSY hclr hy hS H
  refine ⟨fun h=>(by rw [h] at hr; cases hr),fun j hj => ?_⟩
  by_cases hji:j=i
  · subst hji; exact yields_wpOpX hi (noDefer_spec hnd hi) hy (hSY _ hS) ⟨S,fun _ _ h=>h,hS,H⟩
  · have h1:=H.2 j (ready_mono hj hji)
    obtain ⟨hjun,oj,hoj,hall⟩:=mem_ready.1 hj
    have hnot:∀e∈oj.after,Region.binds .any e=true→e.on≠i:=fun e he hb heq=>by
     have h1:=hall e he hb
     rw [heq,unlisted_false (mem_ready.1 hr).1] at h1
     cases h1
    have h2:=wpOpX_putIf hoj (noDefer_spec hnd hoj) (hfree j oj hoj hji hjun hnot) (fun cs b=>hsel i oi cs b hi) (fun cs b=>hsel j oj cs b hoj) hQ hy h1
    have hfree':∀k ok,l.toArray[k]? = some ok→k≠i→(L.setIfInBounds j true).getD k true=false →
     (∀e∈ok.after,Region.binds .any e=true→e.on≠i)→oi.apart l.toArray ok=true:=fun k ok hk hki hun hno=>by
     refine hfree k ok hk hki ?_ hno
     by_cases hjk:j=k
     · subst hjk; exact hjun
     · rw [getD_set_ne true hjk] at hun; exact hun
    refine wpOpIn_mono (fun a' w' h3 => ?_) h2
    obtain ⟨hy',S',hS',hSw',H'⟩:=h3
    refine ⟨S',hS',hSw',ih (L.setIfInBounds j true) a' w' S' Y (closed_set hc hj) hfree' (ready_mono hr (Ne.symm hji)) ?_ hclr hy' hSw' ?_⟩
    · intro x hx
      rcases hclr with hclr | hclr
      · refine hSY x (hS' ?_ x hx)
        cases hcj:clr.contains j with
        | false=>rfl
        | true =>
         have hm:j∈clr:=by simpa using hcj
         have hh:=List.all_eq_true.1 hclr j hm
         simp only [Bool.or_eq_true,beq_iff_eq,hji,not_bef hc hr hj,not_bef hc hj hr,Bool.false_eq_true,or_self] at hh
      · exact hclr x
    · rw [Array.setIfInBounds_comm _ _ hji]
      exact H'
inductive Kd where
 | pure | read | eff
 deriving DecidableEq
inductive Sd where
 | nil
 | st (i:Nat) (k:Kd) (r:Sd)
 | two (i:Nat) (r:Sd) (j:Nat) (q:Sd)
 | three (i:Nat) (r:Sd) (j:Nat) (q:Sd) (k:Nat) (p:Sd)
def sd:List (Nat×Kd)→Sd
 | []=>.nil
 | (i,k)::r=>.st i k (sd r)
def Sd.depth:Sd→Nat
 | .nil=>0
 | .st _ _ r=>r.depth+1
 | .two _ r _ _=>r.depth+1
 | .three _ r _ _ _ _=>r.depth+1
def Nx (clr:List Nat) (S:World→Prop) (i:Nat) (K:(World→Prop)→Act→World→Prop) (a:Act) (w:World):Prop :=
 ∃S':World→Prop,(clr.contains i=false→∀x,S' x→S x)∧S' w∧K S' a w
def wpS (ro:Option Nat) (P:Program) (l:List Oper) (Q:Exit→Act→World→Prop) (clr:List Nat):Sd→(World→Prop)→Act→World→Prop
 | .nil,_,a,w=>Q .normal a w
 | .st i .pure r,S,a,w=>∃oi v,nth l i=some oi∧YieldsIf P l.toArray (fun _=>True) oi v a∧wpS ro P l Q clr r S (a.put oi.dst v) w
 | .st i .read r,S,a,w=>∃oi v,nth l i=some oi∧YieldsIf P l.toArray S oi v a∧wpS ro P l Q clr r S (a.put oi.dst v) w
 | .st i .eff r,S,a,w=>wpOpX ro P l.toArray Q i (Nx clr S i (wpS ro P l Q clr r)) a w
 | .two i r j q,S,a,w=>wpOpX ro P l.toArray Q i (Nx clr S i (wpS ro P l Q clr r)) a w∧wpOpX ro P l.toArray Q j (Nx clr S j (wpS ro P l Q clr q)) a w
 | .three i r j q k p,S,a,w=>wpOpX ro P l.toArray Q i (Nx clr S i (wpS ro P l Q clr r)) a w∧wpOpX ro P l.toArray Q j (Nx clr S j (wpS ro P l Q clr q)) a w∧wpOpX ro P l.toArray Q k (Nx clr S k (wpS ro P l Q clr p)) a w
def schOk (l:List Oper) (clr:List Nat):Sd→Array Bool→Bool
 | .nil,L=>Region.ready .any l.toArray L==[]
 | .st i .eff r,L=>Region.ready .any l.toArray L==[i]&&schOk l clr r (L.setIfInBounds i true)
 | .st i .pure r,L=>(Region.ready .any l.toArray L).contains i&&Region.free .any l.toArray L i&&schOk l clr r (L.setIfInBounds i true)
 | .st i .read r,L=>(Region.ready .any l.toArray L).contains i&&Region.free .any l.toArray L i&&clrOk l clr i&&schOk l clr r (L.setIfInBounds i true)
 | .two i r j q,L=>Region.ready .any l.toArray L==[i,j]&&(r.depth==q.depth)&&schOk l clr r (L.setIfInBounds i true)&&schOk l clr q (L.setIfInBounds j true)
 | .three i r j q k p,L=>Region.ready .any l.toArray L==[i,j,k]&&(r.depth==q.depth)&&(r.depth==p.depth)&&schOk l clr r (L.setIfInBounds i true)&&schOk l clr q (L.setIfInBounds j true)&&schOk l clr p (L.setIfInBounds k true)
theorem wpP_of_S (hnd:noDefer l=true) {clr:List Nat} (hs:Region.noSelect l.toArray=true) (hQ:∀c a (d:Option Tmp) v w,Q (.panic c) (a.put d v) w→Q (.panic c) a w) :
 ∀(r:Sd) (S:World→Prop) (L:Array Bool) (a:Act) (w:World),Closed l.toArray L→schOk l clr r L=true→S w→wpS ro P l Q clr r S a w→wpP ro P l Q clr r.depth S L a w
 | .nil,S,L,a,w,_,hok,_,h=>⟨by simpa [schOk] using hok,h⟩
 | .st i .pure r,S,L,a,w,hc,hok,hS,h=>by
  simp only [schOk,Bool.and_eq_true] at hok
  obtain ⟨oi,v,ho,hy,h⟩:=h
  rw [nth_eq] at ho
  have ho':l.toArray[i]? = some oi:=by simpa using ho
  have hr:i∈Region.ready .any l.toArray L:=by simpa using hok.1.1
  exact wpP_first hnd ho' (Region.noSelect_spec hs) (fun c a w=>hQ c a _ v w) r.depth L a w S (fun _=>True) hc (Region.free_spec ho' hok.1.2) hr (fun _ _=>trivial) (.inr fun _=>trivial) hy hS
   (wpP_of_S hnd hs hQ r S _ _ w (closed_set hc hr) hok.2 hS h)
 | .st i .read r,S,L,a,w,hc,hok,hS,h=>by
  simp only [schOk,Bool.and_eq_true] at hok
  obtain ⟨oi,v,ho,hy,h⟩:=h
  rw [nth_eq] at ho
  have ho':l.toArray[i]? = some oi:=by simpa using ho
  have hr:i∈Region.ready .any l.toArray L:=by simpa using hok.1.1.1
  exact wpP_first hnd ho' (Region.noSelect_spec hs) (fun c a w=>hQ c a _ v w) r.depth L a w S S hc (Region.free_spec ho' hok.1.1.2) hr (fun _ h=>h) (.inl hok.1.2) hy hS
   (wpP_of_S hnd hs hQ r S _ _ w (closed_set hc hr) hok.2 hS h)
 | .st i .eff r,S,L,a,w,hc,hok,hS,h=>by
  simp only [schOk,Bool.and_eq_true,beq_iff_eq] at hok
  have hr:i∈Region.ready .any l.toArray L:=by rw [hok.1]; simp
  refine ⟨fun h0=>(by rw [h0] at hr; cases hr),fun j hj => ?_⟩
  rw [hok.1] at hj
  obtain rfl:j=i:=by simpa using hj
  exact wpOpIn_mono (fun a' w' ⟨S',h1,h2,h3⟩=>⟨S',h1,h2,wpP_of_S hnd hs hQ r S' _ a' w' (closed_set hc hr) hok.2 h2 h3⟩) h
 | .two i r j q,S,L,a,w,hc,hok,hS,h=>by
  simp only [schOk,Bool.and_eq_true,beq_iff_eq] at hok
  have hri:i∈Region.ready .any l.toArray L:=by rw [hok.1.1.1]; simp
  have hrj:j∈Region.ready .any l.toArray L:=by rw [hok.1.1.1]; simp
  refine ⟨fun h0=>(by rw [h0] at hri; cases hri),fun k hk => ?_⟩
  rw [hok.1.1.1] at hk
  rcases List.mem_cons.1 hk with rfl | hk
  · exact wpOpIn_mono (fun a' w' ⟨S',h1,h2,h3⟩=>⟨S',h1,h2,wpP_of_S hnd hs hQ r S' _ a' w' (closed_set hc hri) hok.1.2 h2 h3⟩) h.1
  · obtain rfl:k=j:=by simpa using hk
    have:=wpOpIn_mono (fun a' w' ⟨S',h1,h2,h3⟩=>(⟨S',h1,h2,wpP_of_S hnd hs hQ q S' _ a' w' (closed_set hc hrj) hok.2 h2 h3⟩:∃S':World→Prop,(clr.contains k=false→∀x,S' x→S x)∧S' w'∧wpP ro P l Q clr q.depth S' (L.setIfInBounds k true) a' w')) h.2
    rw [←hok.1.1.2] at this
    exact this
 | .three i r j q k p,S,L,a,w,hc,hok,hS,h=>by
  simp only [schOk,Bool.and_eq_true,beq_iff_eq] at hok
  obtain ⟨⟨⟨⟨⟨hrd,hq⟩,hp⟩,hkr⟩,hkq⟩,hkp⟩:=hok
  have hri:i∈Region.ready .any l.toArray L:=by rw [hrd]; simp
  have hrj:j∈Region.ready .any l.toArray L:=by rw [hrd]; simp
  have hrk:k∈Region.ready .any l.toArray L:=by rw [hrd]; simp
  refine ⟨fun h0=>(by rw [h0] at hri; cases hri),fun m hm => ?_⟩
  rw [hrd] at hm
  rcases List.mem_cons.1 hm with rfl | hm
  · exact wpOpIn_mono (fun a' w' ⟨S',h1,h2,h3⟩=>⟨S',h1,h2,wpP_of_S hnd hs hQ r S' _ a' w' (closed_set hc hri) hkr h2 h3⟩) h.1
  · rcases List.mem_cons.1 hm with rfl | hm
    · have:=wpOpIn_mono (fun a' w' ⟨S',h1,h2,h3⟩=>(⟨S',h1,h2,wpP_of_S hnd hs hQ q S' _ a' w' (closed_set hc hrj) hkq h2 h3⟩:∃S':World→Prop,(clr.contains m=false→∀x,S' x→S x)∧S' w'∧wpP ro P l Q clr q.depth S' (L.setIfInBounds m true) a' w')) h.2.1
      rw [←hq] at this
      exact this
    · obtain rfl:m=k:=by simpa using hm
      have:=wpOpIn_mono (fun a' w' ⟨S',h1,h2,h3⟩=>(⟨S',h1,h2,wpP_of_S hnd hs hQ p S' _ a' w' (closed_set hc hrk) hkp h2 h3⟩:∃S':World→Prop,(clr.contains m=false→∀x,S' x→S x)∧S' w'∧wpP ro P l Q clr p.depth S' (L.setIfInBounds m true) a' w')) h.2.2
      rw [←hp] at this
      exact this
theorem wp_region_sched {id:Nat} {a:Act} {w:World} (clr:List Nat) (r:Sd) (S:World→Prop) (hm:P.follows .mixedOrders=true)
 (hok:(noDefer l&&Region.noSelect l.toArray&&(r.depth==l.length)&&schOk l clr r (Array.replicate l.length false))=true)
 (hQ:∀c a (d:Option Tmp) v w,Q (.panic c) (a.put d v) w→Q (.panic c) a w) (hS:S w.drew) (h:wpS ro P l Q clr r S a w.drew):(Code.region id l.toArray true).wpIn (Fe ro) 0 P Q a w:=by
 simp only [Bool.and_eq_true,beq_iff_eq] at hok
 refine wpIn_region_any hm ?_
 have hc:Closed l.toArray (Array.replicate l.length false):=fun j o _ hL=>by
  exfalso
  by_cases hj:j<l.length<;>simp [hj] at hL
 have:=wpAny_of_P _ _ _ _ _ (wpP_of_S hok.1.1.1 hok.1.1.2 hQ r S _ a w.drew hc hok.2 hS h)
 rw [hok.1.2] at this
 simpa using this
def Sd.line:Sd→Option (List Nat)
 | .nil=>some []
 | .st i _ r=>r.line.map (i :: ·)
 | .two .. => none
 | .three .. => none
theorem wpOps_of_S (hnd:noDefer l=true) {clr:List Nat}:∀(r:Sd) (ns:List Nat) (S:World→Prop) (a:Act) (w:World),r.line=some ns→S w→wpS ro P l Q clr r S a w→wpOpsIn (Fe ro) 0 P l.toArray Q ns a w
 | .nil,ns,_,_,_,hl,_,h=>by simp only [Sd.line,Option.some.injEq] at hl; subst hl; exact h
 | .st i .pure r,ns,S,a,w,hl,hS,⟨oi,v,ho,hy,h⟩=>by
  obtain ⟨ms,hm,rfl⟩:=Option.map_eq_some_iff.1 hl
  rw [wpOpsIn_cons]
  exact (have ho':l.toArray[i]? = some oi:=by rw [nth_eq] at ho; simpa using ho
   yields_wpOpX ho' (noDefer_spec hnd ho') hy trivial (wpOps_of_S hnd r ms S _ w hm hS h))
 | .st i .read r,ns,S,a,w,hl,hS,⟨oi,v,ho,hy,h⟩=>by
  obtain ⟨ms,hm,rfl⟩:=Option.map_eq_some_iff.1 hl
  rw [wpOpsIn_cons]
  exact (have ho':l.toArray[i]? = some oi:=by rw [nth_eq] at ho; simpa using ho
   yields_wpOpX ho' (noDefer_spec hnd ho') hy hS (wpOps_of_S hnd r ms S _ w hm hS h))
 | .st i .eff r,ns,S,a,w,hl,hS,h=>by
  obtain ⟨ms,hm,rfl⟩:=Option.map_eq_some_iff.1 hl
  rw [wpOpsIn_cons]
  exact wpOpIn_mono (fun a' w' ⟨S',_,h2,h3⟩=>wpOps_of_S hnd r ms S' a' w' hm h2 h3) h
theorem wp_region_text {id:Nat} {a:Act} {w:World} (clr:List Nat) (r:Sd) (S:World→Prop) (hr:(noDefer l&&r.line==some (List.range l.length))=true) (hS:S w) (h:wpS ro P l Q clr r S a w) :
 (Code.region id l.toArray false).wpIn (Fe ro) 0 P Q a w:=by
 simp only [Bool.and_eq_true,beq_iff_eq] at hr
 refine wpIn_region ?_
 have:=wpOps_of_S hr.1 r _ S a w hr.2 hS h
 simpa using this
end
end Go.Proofs.YtkpiakgmkpbikaaGreatDoor
