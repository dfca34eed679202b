/- Proved here: steps of the proof (Tz Tb Tc). -/
import Derived.Test.YtkpiakgmkpbikaaGreatDoorSlG
import Derived.Test.YtkpiakgmkpbikaaGreatDoorRuP
import Derived.Test.YtkpiakgmkpbikaaGreatDoorTw
import Derived.Test.YtkpiakgmkpbikaaGreatDoorTp
import Derived.Test.YtkpiakgmkpbikaaGreatDoorTt
set_option linter.unusedVariables false
namespace Go.Proofs.YtkpiakgmkpbikaaGreatDoor
def IterE (P:Program) (gf:Nat) (lb:List Value) (F:Fm) {α:Type} (enc:α→List Value) (Sp S:List α→Prop) (hi:Hl):Prop :=
 ∀(lr:Nat) (J:List α→Hl→Prop) (X:Hl→Prop) (F1:Fm),(∀b o,F.at_ b o→F1.at_ b o) →
  (∀pre x,Sp (pre++[x])→∀hc,J pre hc→∀F2,(∀b o,F1.at_ b o→F2.at_ b o)→YSpec P lr (enc x).toArray F2 hc fun v hc'=>(v=.bool true∧J (pre++[x]) hc')∨(v=.bool false∧X hc')) →
  ∀hc,J [] hc→Spec P gf (.func (.yield lr) #[] #[]::lb).toArray F1 (hi++hc) fun _ s=>(∃xs,S xs∧J xs s)∨X s
def QRdE (F:Fm) (lr:Nat) (rc:Loop) (I E:Hl→Prop):Exit→Act→World→Prop
 | .normal,_,w=>∃hc,I hc∧Hp F ((lr,.loop { rc with state:=.busy })::hc) w
 | .ret,_,w=>∃hc,E hc∧Hp F ((lr,.loop { rc with state:=.busy })::hc) w
 | _,_,_=>False
section
variable {P : Program} {n : Nf} {F : Fm} {l : Env} {hl : Hl} {ty : TypeId} {pos : String} {af : Array Edge} {g : Option (Nat × Bool)}
variable {Qf : Exit → Act → World → Prop} {ks : List KItem} {ops : List Oper} {clr : List Nat} {hs : Hl} {r : Sd} {i : Nat}
theorem Vc.finE {lr:Nat} {rc:Loop} {I E:Hl→Prop} (hc:Hl) {rest:Hl} (hI:I hc) (hp:hl.Perm (((lr,.loop { rc with state:=.busy })::hc)++rest)):Vc P (QRdE F lr rc I E) n F [] l hl:=fun a w hf hh =>
 ⟨hc,hI,(hh.perm hp).forget⟩
theorem Vc.retE {lr:Nat} {rc:Loop} {I E:Hl→Prop} (hc:Hl) {rest:Hl} (hE:E hc) (hp:hl.Perm (((lr,.loop { rc with state:=.busy })::hc)++rest)):Vc P (QRdE F lr rc I E) n F (.code .ret::ks) l hl :=
 fun a w hf hh=>wpIn_ret (postK_ret (show QRdE F lr rc I E .ret a w from ⟨hc,hE,(hh.perm hp).forget⟩) ks)
abbrev rndK (P:Program) (F:Fm) (lr:Nat) (rc:Loop) (I E:Hl→Prop) (assign body:Code):List KItem:=[.code assign,.inv (fun a w=>postK P (some lr) (QRdE F lr rc I E) [.begin lr rc,.code body] .normal a w)]
theorem Vc.beginE {lr:Nat} {rc:Loop} {I E:Hl→Prop} {body:Code} {put:Obj→Hl} {Qn:Exit→Act→World→Prop} {F2:Fm} (hro:n.ro=some lr) [hb:Lens hl lr (.loop rc) put] (h:Vc P (QRdE F2 lr rc I E) n F [.code body] l (put (.loop { rc with state:=.busy }))):Vc P Qn n F [.inv (fun a w=>postK P (some lr) (QRdE F2 lr rc I E) [.begin lr rc,.code body] .normal a w)] l hl:=fun a w hf hh=>by
 have:=(Vc.begin (ks:=[.code body]) h:Vc P (QRdE F2 lr rc I E) n F (.begin lr rc::[.code body]) l hl) a w hf hh
 rw [hro] at this
 exact this
theorem wp_roundE {P:Program} {lr fn:Nat} {tmps:Array Value} {assign body:Code} {rc:Loop} {w:World} {F:Fm} {hc:Hl} {m:Nat} {l:Env} {I E:Hl→Prop} (hl:w.heap[lr]? = some (.loop rc)) (hr:rc.state=.ready) (hpe:rc.pending=none)
 (hsz:tmps.size=m) (hf:Fr ⟨m,some lr,[],[]⟩ l { tmps:=tmps,defers:=[] }) (hh:Hp F ((lr,.loop rc)::hc) w) (h:Vc P (fun _ _ _=>False) ⟨m,some lr,[],[]⟩ F (rndK P F lr rc I E assign body) l ((lr,.loop rc)::hc)) :
 RoundIn (Fe none) 0 P lr fn tmps assign body w fun e w'=>∃v hl',e=.returned v∧((v=.bool true∧∃hc',I hc'∧hl'=(lr,.loop rc)::hc')∨(v=.bool false∧∃hc',E hc'∧hl'=(lr,.loop { rc with state:=.done,pending:=some .ret })::hc'))∧Hp F hl' w':=by
 refine roundIn_of_wpIn (F:=Fe none) trivial ?_
 refine wpIn_mono (F:=Fe (some lr)) (h _ w hf hh) fun e a₁ w₁ q => ?_
 cases e with
 | normal =>
  obtain ⟨h1,h2⟩:=q
  refine ⟨_,run_beginRound h1 hr,wpIn_mono (F:=Fe (some lr)) h2 fun e a₂ w₂ q => ?_⟩
  cases e with
  | normal =>
   obtain ⟨hc',hI,hh'⟩:=q
   have hl2:=hh'.own lr _ List.mem_cons_self
   refine ⟨_,_,run_endRound none hl2,_,(lr,.loop rc)::hc',rfl,.inl ⟨rfl,hc',hI,rfl⟩,?_⟩
   have e1:({ { rc with state:=.busy } with state:=(if (none:Option Code).isNone then .ready else .done),pending:=none }:Loop)=rc:=by
    cases rc; simp_all
   rw [e1]
   exact Lens.putB (put:=fun o'=>(lr,o')::hc') ⟨[],hc',rfl,fun _=>rfl⟩ hh' _
  | ret =>
   obtain ⟨hc',hI,hh'⟩:=q
   have hl2:=hh'.own lr _ List.mem_cons_self
   refine ⟨_,_,run_endRound (some .ret) hl2,_,(lr,.loop { rc with state:=.done,pending:=some .ret })::hc',rfl,.inr ⟨rfl,hc',hI,rfl⟩,?_⟩
   exact Lens.putB (put:=fun o'=>(lr,o')::hc') ⟨[],hc',rfl,fun _=>rfl⟩ hh' _
  | exit _=>exact (q:False).elim
  | goto _=>exact (q:False).elim
  | panic _=>exact (q:False).elim
  | outgrown=>exact (q:False).elim
 | ret=>exact (q:False).elim
 | exit id=>exact (q:False).elim
 | goto id=>exact (q:False).elim
 | panic c=>exact (q:False).elim
 | outgrown=>exact (q:False).elim
theorem Vc.rangeFuncE {α:Type} {gv:Operand} {ps:List Nat} {assign body:Code} {gf:Nat} {lb:List Value} {enc:α→List Value} {Sp S:List α→Prop} {hi rest:Hl} (I:List α→Hl→Prop) (E:Hl→Prop) (hc0:Hl)
 (hro:n.ro=none) (hg:ev l gv=some (.func (.func gf) #[] lb.toArray)) [hcf:TyCall P gf] (hps:∀x,(enc x).length=ps.length) (hbl:(ps.all fun p=>Nat.blt p n.n)=true)
 (hp:hl.Perm ((hi++hc0)++rest)) (hit:∀F1,(∀b o,(b,o)∈rest∨F.at_ b o→F1.at_ b o)→IterE P gf lb F1 enc Sp S hi) (h0:I [] hc0)
 (left:∀(D:Nat) (hc:Hl),(∀o,¬F.at_ D o)→E hc→Vc P Qf ⟨n.n,n.ro,D::n.ds,n.dx⟩ (frz F [(D,markO)]) (.code .ret::ks) l (hc++rest))
 (round:∀(lr:Nat) (rc:Loop) (pre:List α) (x:α) (hc:Hl) (F1:Fm),(∀b o,(b,o)∈rest∨F.at_ b o→F1.at_ b o)→Sp (pre++[x])→I pre hc →
  Vc P (fun _ _ _=>False) ⟨n.n,some lr,[],[]⟩ F1 (rndK P F1 lr rc (I (pre++[x])) E assign body) (envZ l ps (enc x)) ((lr,.loop rc)::hc))
 (done:∀(D:Nat) (xs:List α) (hc:Hl),(∀o,¬F.at_ D o)→S xs→I xs hc→Vc P Qf ⟨n.n,n.ro,D::n.ds,n.dx⟩ (frz F [(D,markO)]) ks l (hc++rest)) :
 Vc P Qf n F (.code (.rangeFunc gv ps.toArray assign body)::ks) l hl:=fun a w hf hh=>by
 show (Code.rangeFunc gv ps.toArray assign body).wpIn (Fe n.ro) 0 P (postK P n.ro Qf ks) a w
 refine wpIn_rangeFunc ?_
 intro fn hfn
 rw [show (Fe n.ro).round=none from hro]
 obtain ⟨rec,hrec⟩:∃rec:Loop,rec={ state:=.ready,pending:=none,fn,tmps:=a.tmps,params:=ps.toArray,assign,body,defers:=w.heap.size }:=⟨_,rfl⟩
 have hh1:Hp F ((w.heap.size+1,.loop rec)::(w.heap.size,markO)::hl) ((w.alloc markO).alloc (.loop rec)):=by
  have h:=(hh.alloc markO).alloc (.loop rec)
  rw [show ({ w with heap:=w.heap.push markO }:World).heap.size=w.heap.size+1 by simp] at h
  exact h
 have hpm:((w.heap.size+1,Obj.loop rec)::(w.heap.size,markO)::hl).Perm ((hi++((w.heap.size+1,Obj.loop rec)::hc0))++(rest++[(w.heap.size,markO)])):=by
  have e1:((w.heap.size+1,Obj.loop rec)::(w.heap.size,markO)::hl).Perm ((w.heap.size+1,Obj.loop rec)::(w.heap.size,markO)::((hi++hc0)++rest)):=(hp.cons _).cons _
  refine e1.trans ?_
  have e2:((w.heap.size,markO)::((hi++hc0)++rest)).Perm ((hi++hc0)++(rest++[(w.heap.size,markO)])):=by
   rw [←List.append_assoc]
   exact (List.perm_append_comm (l₁:=[(w.heap.size,markO)]))
  refine (e2.cons _).trans ?_
  rw [List.append_assoc,List.append_assoc,List.cons_append]
  exact List.perm_middle.symm
 obtain ⟨k1,k2,k3⟩:=Hp.frz_iff.1 (hh1.perm hpm)
 have hF1:∀b o,(b,o)∈rest∨F.at_ b o→(frz F (rest++[(w.heap.size,markO)])).at_ b o:=fun b o h=>h.imp (fun h=>List.mem_append_left _ h) id
 have hsp:=hit (frz F (rest++[(w.heap.size,markO)])) hF1 (w.heap.size+1) (fun pre h=>∃hc,I pre hc∧h=(w.heap.size+1,Obj.loop rec)::hc) (fun h=>∃hc,E hc∧h=(w.heap.size+1,Obj.loop { rec with state:=.done,pending:=some .ret })::hc) (frz F (rest++[(w.heap.size,markO)])) (fun _ _ h=>h)
  (fun pre x hx hc ⟨hc',hI,e⟩ F2 hF2=>by
   subst e
   intro W hW
   have hlr:=hW.own (w.heap.size+1) _ List.mem_cons_self
   have hy:=run_yield (P:=P) (args:=(enc x).toArray) hlr (by rw [hrec]; simpa using hps x)
   refine ⟨_,_,_,_,hy,?_⟩
   rw [show rec.fn=fn by rw [hrec],show rec.tmps=a.tmps by rw [hrec],show rec.params=ps.toArray by rw [hrec],show rec.assign=assign by rw [hrec],show rec.body=body by rw [hrec]]
   have hfr:Fr ⟨n.n,some (w.heap.size+1),[],[]⟩ (envZ l ps (enc x)) { tmps:=(ps.zip (enc x)).foldl (fun t (p,v)=>t.setIfInBounds p v) a.tmps,defers:=[] }:=by
    have h1:Fr ⟨n.n,some (w.heap.size+1),[],[]⟩ l { tmps:=a.tmps,defers:=[] }:=⟨rfl,hf.size,hf.has⟩
    exact fr_zip (l:=l) ps (enc x) h1 hbl
   have hz:=zip_list ps (enc x) a.tmps
   have:=wp_roundE (fn:=fn) (tmps:=(ps.zip (enc x)).foldl (fun t (p,v)=>t.setIfInBounds p v) a.tmps) (assign:=assign) (body:=body) (m:=n.n) hlr (by rw [hrec]) (by rw [hrec]) hfr.size hfr hW
    (round (w.heap.size+1) rec pre x hc' F2 (fun b o h=>hF2 b o (hF1 b o h)) hx hI)
   rw [←hz] at this
   exact this.mono fun e w' ⟨v,hl',h1,h2,h5⟩=>⟨v,hl',h1,h2.imp (fun ⟨h2,hc',h3,h4⟩=>⟨h2,hc',h3,h4⟩) (fun ⟨h2,hc',h3,h4⟩=>⟨h2,hc',h3,by rw [h4,hrec]⟩),h5⟩)
  ((w.heap.size+1,Obj.loop rec)::hc0) ⟨hc0,h0,rfl⟩
 refine ⟨w.heap.size+1,[markD w.heap.size],(w.alloc markO).alloc (.loop rec),{ target:=.fn (.func gf) lb.toArray,args:=#[.func (.yield (w.heap.size+1)) #[] #[]] },(w.alloc markO).alloc (.loop rec),gf,
  (.func (.yield (w.heap.size+1)) #[] #[]::lb).toArray,(w.alloc markO).alloc (.loop rec),?_,?_,fun _ _=>trivial,?_,(by intro h; cases h),fe_calls ?_⟩
 · rw [hrec]; exact run_enterLoop_outer _ _ _ _ _
 · simp only [resolve,hf.ev hg]
   simp [go_sem,Deferred.ofValue]
 · simp [invoke,hcf.call]
 · refine (hsp _ k1).mono fun e w' ⟨v,s,he,hor,hh'⟩ => ?_
   subst he
   have hfd:Fr ⟨n.n,n.ro,w.heap.size::n.ds,n.dx⟩ l { a with defers:=[markD w.heap.size]++a.defers }:=⟨by simp [hf.dfr],hf.size,hf.has⟩
   rcases hor with ⟨xs,hS,hc,hI,es⟩ | ⟨hc,hE,es⟩
   · subst es
     have hlr:=hh'.own (w.heap.size+1) _ List.mem_cons_self
     refine ⟨rec.pending,_,run_endLoop (P:=P) hlr (by rw [hrec]; simp),?_⟩
     have h4:Hp (frz F (rest++[(w.heap.size,markO)])) hc (w'.putObj (w.heap.size+1) (.loop { rec with state:=.exhausted })) :=
      Hp.tail (Lens.putB (put:=fun o'=>(w.heap.size+1,o')::hc) ⟨[],hc,rfl,fun _=>rfl⟩ hh' _)
     have h5:Hp F (hc++(rest++[(w.heap.size,markO)])) _:=Hp.frz_iff.2 ⟨h4,k2,k3⟩
     rw [←List.append_assoc] at h5
     have h6:=(Hp.frz_iff.1 h5).1
     split
     · exact done w.heap.size xs hc (fun o=>k3 w.heap.size markO o (by simp)) hS hI _ _ hfd h6
     · rename_i hc; rw [hrec] at hc; cases hc
   · subst es
     have hlr:=hh'.own (w.heap.size+1) _ List.mem_cons_self
     refine ⟨some .ret,_,run_endLoop (P:=P) hlr (by simp),?_⟩
     have h4:Hp (frz F (rest++[(w.heap.size,markO)])) hc (w'.putObj (w.heap.size+1) (.loop { { rec with state:=.done,pending:=some .ret } with state:=.exhausted })) :=
      Hp.tail (Lens.putB (put:=fun o'=>(w.heap.size+1,o')::hc) ⟨[],hc,rfl,fun _=>rfl⟩ hh' _)
     have h5:Hp F (hc++(rest++[(w.heap.size,markO)])) _:=Hp.frz_iff.2 ⟨h4,k2,k3⟩
     rw [←List.append_assoc] at h5
     have h6:=(Hp.frz_iff.1 h5).1
     exact left w.heap.size hc (fun o=>k3 w.heap.size markO o (by simp)) hE _ _ hfd h6
theorem Rg.storeN {t b off:Nat} {e:TypeId} {x y:Operand} {d:Option Tmp} {v:Value} {vs q:List Value} {rest q2:Hl} [hs0:TyOne P t] (ho:nth ops i=some ⟨d,.store t x y,ty,pos,af,g⟩) (hg:wantB ops l g=some true) (hd:d=none)
 (hx:ev l x=some (.pointer (some ⟨b,off,none⟩))) (hy:ev l y=some v) [hb:Pull1 hl b (cellsO vs e) rest] (hc:v.oneCell'=true) (hq:setL vs off v=some q) [hr:PullL rest hs q2]
 (h:Rg P Qf n F ks ops clr hs r l ((b,cellsO q e)::rest)):Rg P Qf n F ks ops clr hs (.st i .eff r) l hl :=
 Rg.run ho hg fun a w hf hh=>by
  subst hd
  have hh':=hh.perm hb.perm
  have hrun:=run_storeAt (P:=P) (t:=t) (us:=[v]) (off:=off) hs0.size (cells_one hc) rfl (by simpa using hc) (hh'.own b _ List.mem_cons_self) (q:=q) (by simp [setsL,hq])
  have hh2:=Lens.putB (put:=fun o'=>(b,o')::rest) ⟨[],rest,rfl,fun _=>rfl⟩ hh' (cellsO q e)
  exact ⟨_,l,_,hs,.inr ⟨by simp [execOp,hf.ev hx,hf.ev hy,hrun],hf⟩,hh2,⟨(b,cellsO q e)::q2,hh2.perm ((hr.perm.trans List.perm_append_comm).cons _)⟩,.same,h⟩
def InStD {X:Type} (m:Nat) (ro:Option Nat) (F:Fm) (φ:X→Prop) (li:X→Env) (hi:X→Hl) (a:Act) (w:World):Prop:=∃ds F1 x,Mk ds F F1∧φ x∧Fr ⟨m,ro,ds,[]⟩ (li x) a∧Hp F1 (hi x) w
theorem Vc.invD {X:Type} {m:Nat} {ro:Option Nat} {ds:List Nat} {F1:Fm} {φ:X→Prop} {li:X→Env} {hi:X→Hl} {rest:Hl} (hm:Mk ds F F1) (x:X) (hφ:φ x) (hle:Le l (li x)) (hp:hl.Perm (hi x++rest)):Vc P Qf ⟨m,ro,ds,[]⟩ F1 (.inv (InStD m ro F φ li hi)::ks) l hl :=
 fun _ _ hf hh=>⟨ds,F1,x,hm,hφ,hf.le hle,(hh.perm hp).forget⟩
theorem Vc.loopD {X:Type} (φ:X→Prop) (li:X→Env) (hi:X→Hl) (μ:X→Nat) (x0:X) {c:Code} {rest:Hl} (hds:n.ds=[]) (h0:φ x0) (hle:Le l (li x0)) (hp:hl.Perm (hi x0++rest))
 (round:∀ds F1,Mk ds F F1→∀x,φ x→Vc P Qf ⟨n.n,n.ro,ds,[]⟩ F1 (.code c::.inv (InStD n.n n.ro F (fun y=>φ y∧μ y<μ x) li hi)::ks) (li x) (hi x)) (hdx:n.dx=[]:=by rfl):Vc P Qf n F (.code (.loop c)::ks) l hl:=by
 intro a w hf hh
 show (Code.loop c).wpIn (Fe n.ro) 0 P (postK P n.ro Qf ks) a w
 intro b k cs hro hb hr
 have key:∀m ds F1,Mk ds F F1→∀x a w,μ x=m→φ x→Fr ⟨n.n,n.ro,ds,[]⟩ (li x) a→Hp F1 (hi x) w→∃e a' w',postK P n.ro Qf ks e a' w'∧ArrivesIn (Machine.fenced P (Fe n.ro)) P (lone (b.atR a (.code c::.inLoop c::k)) cs w) b k cs e a' w':=by
  intro m
  induction m using Nat.strongRecOn with
  | _ m ih =>
   intro ds F1 hmk x a w hm hx hf hh
   obtain ⟨e,a₁,w₁,hq,harr⟩:=round ds F1 hmk x hx a w hf hh b (.inLoop c::k) cs hro hb hr
   cases e with
   | normal =>
    obtain ⟨ds2,F2,y,hmk2,⟨hy,hlt⟩,hf',hh'⟩:=hq
    obtain ⟨e₂,a₂,w₂,hq₂,harr₂⟩:=ih (μ y) (hm▸hlt) ds2 F2 hmk2 y a₁ w₁ rfl hy hf' hh'
    exact ⟨e₂,a₂,w₂,hq₂,.of_steps (StepsIn.trans harr (.one (fenced_calm hb hr rfl) stepR_inLoop)) harr₂⟩
   | exit id=>exact ⟨_,a₁,w₁,hq,.pass (x:=.inLoop c) rfl (fun _ _=>.inl (by simp)) harr⟩
   | goto l=>exact ⟨_,a₁,w₁,hq,.pass (x:=.inLoop c) rfl (fun _ _=>.inl (by simp)) harr⟩
   | ret=>exact ⟨_,a₁,w₁,hq,.pass (x:=.inLoop c) rfl (fun _ _=>.inl (by simp)) harr⟩
   | panic ch=>exact ⟨_,a₁,w₁,hq,.pass (x:=.inLoop c) rfl (fun _ _=>.inl (by simp)) harr⟩
   | outgrown=>exact ⟨_,a₁,w₁,hq,.pass (x:=.inLoop c) rfl (fun _ _=>.inl (by simp)) harr⟩
 obtain ⟨e,a',w',hq,harr⟩:=key _ [] F Mk.nil x0 a w rfl h0 (by have:=hf.le hle; obtain ⟨nn,nr,nd,nx⟩:=n; simp only at hds hdx; subst hds; subst hdx; exact this) (hh.perm hp).forget
 exact ⟨e,a',w',hq,.of_steps (.one (fenced_calm hb hr rfl) stepR_loop) harr⟩
end
end Go.Proofs.YtkpiakgmkpbikaaGreatDoor
namespace Go.Proofs.YtkpiakgmkpbikaaGreatDoor
section
variable {α : Type} {E : Enc α} {P : Program} {n : Nf} {F : Fm} {l : Env} {hl : Hl} {d : Option Tmp} {ty : TypeId} {pos : String} {af : Array Edge} {g : Option (Nat × Bool)}
variable {Qf : Exit → Act → World → Prop} {ks : List KItem} {ops : List Oper} {clr : List Nat} {hs : Hl} {r : Sd} {i : Nat}
theorem Rg.clearSl {t B b o m c:Nat} {x:Operand} {ys:List α} {sp:List Value} {rest:Hl} (at_:Nat) (z0:α) [ht:TySl P t E B] [hz0:TyZero P E.tid (E.val z0)] (ho:nth ops i=some ⟨d,.call { callee:=.builtin .clear,args:=#[x],argTypes:=#[t] },ty,pos,af,g⟩) (hg:wantB ops l g=some true) (hd:d=none)
 (hx:ev l x=some (.slice (some ⟨b,o,none⟩) m c)) [hb:Pull1 hl b (rowS E ys sp) rest] (hof:o=at_*E.k) (hm:at_+m=ys.length) (hclr:clr.contains i=true)
 (h:Rg P Qf n F ks ops clr ((b,rowS E (ys.take at_++List.replicate m z0) sp)::rest) r l ((b,rowS E (ys.take at_++List.replicate m z0) sp)::rest)):Rg P Qf n F ks ops clr hs (.st i .eff r) l hl :=
 Rg.run ho hg fun a w hf hh=>by
  subst hd; subst hof
  have hh':=hh.perm hb.perm
  have hbk:=hh'.own b _ List.mem_cons_self
  have hc:(E.val z0).cells=(E.cells z0).toArray:=by rw [←E.vc]
  have hzf:=zero_flat (E:=E) hc m
  have hset:setsL (flat E ys++sp) (at_*E.k+0) (flat E (List.replicate m z0))=some (flat E (ys.take at_++List.replicate m z0)++sp):=by
   have hfl:(flat E ys).length=at_*E.k+m*E.k:=by rw [flat_length,←hm,Nat.add_mul]
   have hfr:(flat E (List.replicate m z0)).length=m*E.k:=by rw [flat_length,List.length_replicate]
   have hft:(flat E (ys.take at_)).length=at_*E.k:=by rw [flat_length,List.length_take,Nat.min_eq_left (by omega)]
   rw [Nat.add_zero,setsL_mk _ _ _ (by rw [List.length_append]; omega),flat_append]
   congr 1
   rw [hfr,List.take_append_of_le_length (by omega),List.drop_append,show at_*E.k+m*E.k-(flat E ys).length=0 by omega,List.drop_of_length_le (by omega:(flat E ys).length≤at_*E.k+m*E.k),List.nil_append,List.drop_zero]
   congr 2
   rw [flat_parts ys at_,←hft,List.take_left' rfl]
  have hst:=run_storeCells (P:=P) (b:=b) (e:=E.tid) (flat E (List.replicate m z0)) 0 (at_*E.k) (flat E ys++sp) _ w hbk hset (flat_one _)
  have hr:(Builtin.clear_ #[t] ty #[.slice (some ⟨b,at_*E.k,none⟩) m c]).run P w=.ok (.tuple #[]) (Go.Proofs.YtkpiakgmkpbikaaGreatDoor.putB w b (rowS E (ys.take at_++List.replicate m z0) sp)):=by
   by_cases hm0:m=0
   · subst hm0
     have e:ys.take at_++List.replicate 0 z0=ys:=by rw [List.replicate_zero,List.append_nil,List.take_of_length_le (by omega)]
     rw [e,putB_same hbk]
     simp [Builtin.clear_,run_underlying ht.under]
   · obtain ⟨m',rfl⟩:∃m',m=m'+1:=⟨m-1,by omega⟩
     simp [Builtin.clear_,run_underlying ht.under,hz0.zero,hzf,hst,rowS]
  have hh2:=Lens.putB (put:=fun o'=>(b,o')::rest) ⟨[],rest,rfl,fun _=>rfl⟩ hh' (rowS E (ys.take at_++List.replicate m z0) sp)
  exact ⟨_,l,_,_,.inl ⟨.tuple #[],by simp [execOp,resolve,invoke,builtin,hf.ev hx,hr],hf.putNone _⟩,hh2,hh2.st,.inl hclr,h⟩
end
instance:TyZero Tryz.prog strE.tid (strE.val []):=inferInstanceAs (TyZero Tryz.prog 9 (.string ⟨#[]⟩))
theorem indexFuncS_spec {F:Fm} {va:Value} {xs:List (List UInt8)} (ha:Arg strE F va xs) (hN:xs.length<1073741824) (p:List UInt8→Bool) (g:Nat) [TyCall Tryz.prog g] (cs:List Value)
 (hs:∀F',(∀b o,F.at_ b o→F'.at_ b o)→∀x,Spec Tryz.prog g (kS x::cs).toArray F' [] fun v _=>v=.bool (p x)) :
 Spec Tryz.prog 272 #[va,.func (.func g) #[] cs.toArray] F [] fun v _=>∃r:Int,v=.int .i64 r∧(r = -1∨(0≤r∧r<(xs.length:Int))):=by
 obtain ⟨q,c,rfl⟩:=ha.shape
 refine Spec.of (n:=19) (vs:=[.slice q xs.length c,.func (.func g) #[] cs.toArray]) Tryz.func272 rfl Tryz.ntmps272 rfl ?_
 refine sj [.p] Z<|aj Z<|nl<|wj<|sj [.p,.p,.p] Z<|mj Z<|uj Z (Pv.lenS Z)<|mj Z<|nl<|bj ?_
 refine Vc.loop1 (fun (i:Nat)=>i≤xs.length) (fun i=>[(0,.slice q xs.length c),(1,.func (.func g) #[] cs.toArray),(7,.int .i64 (xs.length:Int)),(8,.int .i64 (i:Int))]) (fun i=>[]) (fun i=>xs.length-i) 0 (Nat.zero_le _) (.cons Z (.cons Z (.cons Z (.cons Z .nil)))) pulled ?_
 rintro i h1
 refine sj [.p] Z<|uj Z (Pv.lss Z Z)<|nl<|wj<|cj Z (fun h9 => ?_) (fun h9 => ?_)
 · simp only [decide_eq_true_eq] at h9
   obtain ⟨b,off,c',e,_⟩:=ha.block (by omega)
   cases e
   refine kj<|wj<|bj<|sj [.p,.p] Z<|mj Z<|aj Z<|nl<|sj [.p,.p,.p,.p,.r,.e] Z<|mj Z<|mj Z<|mj Z<|uj Z (Pv.ixA (i) rfl rfl (by omega) (by omega))<|rj Z (Ev.as (kS xs[i]!) (Ev.ldS (E:=strE) i ha.src rfl rfl rfl (by omega)) rfl)<|Rg.callP Z Z Z (run_callV Z Z) (hs _ (fun _ _ h=>Or.inr h) xs[i]!) ?_
   rintro _ rfl
   refine nl<|cj Z (fun h16 => ?_) (fun h16 => ?_)
   · refine sj [.p,.p] Z<|mj Z<|aj Z<|nl<|Vc.ret (Vc.rets Z (.cons (.tmp Z) (.nil)) ?_)
     refine ⟨(i:Int),rfl,.inr ⟨by omega,by omega⟩⟩
   · refine kj<|dj<|tj [.p,.p] Z<|uj Z (Pv.asI (i+1) (Pv.add rfl rfl (by omega)) (by omega))<|mj Z<|nl ?_
     exact Vc.inv1 (i+1) ⟨by omega,by omega⟩ (.cons rfl (.cons rfl (.cons rfl (.cons rfl .nil)))) pulled
 · refine Vc.exit Z<|sj [.p] Z<|aj Z<|nl<|Vc.ret (Vc.rets Z (.cons (.tmp Z) (.nil)) ?_)
   exact ⟨-1,rfl,.inl rfl⟩
theorem deleteFunc_spec {F:Fm} {va:Value} {xs:List (List UInt8)} {s:Hl} (own:Own strE va xs s) (hN:xs.length<1073741824) (p:List UInt8→Bool) (g:Nat) [TyCall Tryz.prog g] (cs:List Value)
 (hs:∀F',(∀b o,F.at_ b o→F'.at_ b o)→∀x,Spec Tryz.prog g (kS x::cs).toArray F' [] fun v _=>v=.bool (p x)) :
 Spec Tryz.prog 254 #[va,.func (.func g) #[] cs.toArray] F s fun v s'=>∃ys,ys.length≤xs.length∧Own strE v ys s':=by
 obtain ⟨q,c,rfl⟩:=own.shape
 refine Spec.of (n:=42) (vs:=[.slice q xs.length c,.func (.func g) #[] cs.toArray]) Tryz.func254 rfl Tryz.ntmps254 rfl ?_
 refine sj [.p] Z<|aj Z<|nl<|sj [.p,.p,.e,.p] Z<|mj Z<|mj Z<|Rg.callP Z Z Z (run_callF Z) (indexFuncS_spec (Arg.own own frz_sb) hN p g cs (fun F' hF'=>hs F' fun b o h=>hF' b o (Or.inr h))) ?_
 rintro _ ⟨r,rfl,hr⟩
 refine aj Z<|nl<|wj<|sj [.p,.p] Z<|mj Z<|uj Z (Pv.eql Z Z)<|nl<|cj Z (fun h12 => ?_) (fun h12 => ?_)
 · simp only [decide_eq_true_eq,beq_iff_eq] at h12
   refine sj [.p,.p] Z<|mj Z<|aj Z<|nl ?_
   exact Vc.ret (Vc.retsH rfl (.cons (.tmp rfl) (.nil)) (⟨xs,Nat.le_refl _,own⟩) pulled)
 · simp only [decide_eq_false_iff_not,beq_eq_false_iff_ne,ne_eq] at h12
   obtain ⟨h0,h1⟩:=hr.resolve_left h12
   obtain ⟨i0,rfl⟩:=Int.eq_ofNat_of_zero_le h0
   obtain ⟨b,cap,sp,e,rfl,hcap,hcm⟩:=own.block (by omega)
   simp only [Value.slice.injEq] at e
   obtain ⟨rfl,_,rfl⟩:=e
   have hle:xs.length≤c:=by have:=Nat.le_of_mul_le_mul_right (show xs.length*strE.k≤c*strE.k by omega) strE.pos; exact this
   refine kj<|wj<|sj [.p,.p,.p] Z<|mj Z<|uj Z (Pv.asI (i0+1) (Pv.add rfl rfl (by omega)) (by omega))<|aj Z<|nl<|bj ?_
   refine Vc.loop3 (fun (i j:Nat) (ys:List (List UInt8))=>i<j∧j≤xs.length∧ys.length=xs.length) (fun i j ys=>[(0,.slice (some ⟨b,0,none⟩) xs.length c),(1,.func (.func g) #[] cs.toArray),(5,.int .i64 (i:Int)),(6,.int .i64 (j:Int))]) (fun i j ys=>[(b,rowS strE ys sp)]) (fun i j ys=>xs.length-j) i0 (i0+1) xs ⟨by omega,by omega,rfl⟩ (.cons rfl (.cons rfl (.cons rfl (.cons rfl .nil)))) pulled ?_
   rintro i j ys ⟨hij,hj,hyl⟩
   refine wj<|sj [.p,.p,.p,.p] Z<|mj Z<|mj Z<|uj Z (Pv.lenS Z)<|uj Z (Pv.lss Z Z)<|nl<|cj Z (fun h19 => ?_) (fun h19 => ?_)
   · simp only [decide_eq_true_eq] at h19
     have hj1:j<ys.length:=by omega
     refine kj<|wj<|bj<|sj [.p,.p,.p,.r,.p] Z<|mj Z<|mj Z<|uj Z (Pv.ixA (j) rfl rfl (by omega) (by omega))<|rj Z (Ev.as (kS ys[j]!) (Ev.ldR (E:=strE) j rfl (Nat.zero_add _) (by omega)) rfl)<|aj Z<|nl<|sj [.p,.p,.e,.p] Z<|mj Z<|mj Z<|Rg.callP Z Z Z (run_callV Z Z) (hs _ (fun _ _ h=>Or.inr h) ys[j]!) ?_
     rintro _ rfl
     refine uj Z (Pv.not Z)<|nl<|cj Z (fun h29 => ?_) (fun h29 => ?_)
     · refine sj [.p,.p,.p,.p,.e] Z<|mj Z<|mj Z<|mj Z<|uj Z (Pv.ixA (i) rfl rfl (by omega) (by omega))<|Rg.storeR (E:=strE) (z:=ys[j]!) i rfl rfl rfl rfl rfl rfl (Nat.zero_add _) (by omega) rfl<|nl<|tj [.p,.p,.p] Z<|mj Z<|uj Z (Pv.asI (i+1) (Pv.add rfl rfl (by omega)) (by omega))<|aj Z<|nl<|dj<|tj [.p,.p,.p] Z<|mj Z ?_
       refine uj Z (Pv.asI (j+1) (Pv.add rfl rfl (by omega)) (by omega))<|aj Z<|nl ?_
       exact Vc.inv3 (i+1) (j+1) (ys.set i ys[j]!) ⟨⟨by omega,by omega,by rw [List.length_set,hyl]⟩,by omega⟩ (.cons rfl (.cons rfl (.cons rfl (.cons rfl .nil)))) pulled
     · refine kj<|dj<|tj [.p,.p,.p] Z<|mj Z<|uj Z (Pv.asI (j+1) (Pv.add rfl rfl (by omega)) (by omega))<|aj Z<|nl ?_
       exact Vc.inv3 i (j+1) ys ⟨⟨by omega,by omega,hyl⟩,by omega⟩ (.cons rfl (.cons rfl (.cons rfl (.cons rfl .nil)))) pulled
   · simp only [decide_eq_false_iff_not] at h19
     have hi1:i<xs.length:=by omega
     refine Vc.exit Z<|sj [.p,.p,.p,.e] Z<|mj Z<|mj Z ?_
     have hci : ¬c=i:=by omega
     refine uj Z (Pv.as (.slice (some ⟨b,i*1,none⟩) (xs.length-i) (c-i)) (Pv.sl (lv:=some (.int .i64 (i:Int))) (hv:=none) i xs.length rfl rfl rfl (by omega) hle (fun _=>hle)) (by rw [if_neg hci]; show Value.slice (some ((⟨b,0,none⟩:Addr).add (i*1))) _ _=_; rw [addr_add,Nat.zero_add]))<|Rg.clearSl (E:=strE) (b:=b) (ys:=ys) (sp:=sp) (o:=i*1) (m:=xs.length-i) (c:=c-i) i [] rfl rfl rfl rfl rfl (by omega) rfl<|nl<|wj ?_
     rw [rowS_take strE (ys.take i++List.replicate (xs.length-i) []) sp i,List.take_left' (by rw [List.length_take]; omega)]
     obtain ⟨sp2,hsp2⟩:∃sp2,sp2=flat strE ((ys.take i++List.replicate (xs.length-i) []).drop i)++sp:=⟨_,rfl⟩
     rw [←hsp2]
     have hs2:i*strE.k+sp2.length=c*strE.k:=by
      rw [hsp2,List.drop_left' (by rw [List.length_take]; omega),List.length_append,flat_length,List.length_replicate,←Nat.add_assoc,←Nat.add_mul,←hcap]
      congr 2
      omega
     refine tj [.p,.p,.p,.p] Z<|mj Z<|mj Z<|uj Z (Pv.slTo (i) rfl rfl (by omega))<|aj Z<|nl ?_
     exact Vc.ret (Vc.retsH rfl (.cons (.tmp rfl) (.nil)) (⟨ys.take i,by rw [List.length_take]; omega,Own.blk' b c i (ys.take i) sp2 (by rw [List.length_take]; omega) hs2 hcm⟩) pulled)
theorem cloneS_spec {F:Fm} {va:Value} {xs:List (List UInt8)} (ha:Arg strE F va xs) (hN:xs.length<4294967296) :
 Spec Tryz.prog 225 #[va] F [] fun v s=>Own strE v xs s:=by
 obtain ⟨p,c,rfl⟩:=ha.shape
 refine Spec.of (n:=8) (vs:=[.slice p xs.length c]) Tryz.func225 rfl Tryz.ntmps225 rfl ?_
 refine sj [.p] Z<|aj Z<|nl<|wj<|sj [.p,.p] Z<|mj Z<|uj Z (Pv.eqlNilS Z Z)<|nl<|cj Z (fun h4 => ?_) (fun h4 => ?_)
 · obtain rfl:p=none:=by cases p with | none=>rfl | some a=>cases h4
   obtain rfl:xs=[]:=by
    rcases ha with ⟨_,e⟩ | ⟨_,_,_,e,_⟩
    · exact e
    · cases e
   refine sj [.p] Z<|aj Z<|nl<|Vc.ret (Vc.rets Z (.cons (.tmp Z) (.nil)) ?_)
   exact Own.nil
 · refine kj<|sj [.e,.p,.e,.p] Z<|Rg.bslice0 (E:=strE) Z Z Z (fun b5 own5 => ?_)
   refine mj Z<|Rg.append Z Z Z Z Z own5 ha.src (by simp<;>omega) (by simp [maxLen]<;>omega) rfl (fun v7 s7 own7 => ?_)
   refine aj Z<|nl ?_
   exact Vc.ret (Vc.retsH rfl (.cons (.tmp rfl) (.nil)) (own7) pulled)
def runB:Nm:=[114,117,110]
def runN (k:Nat):Nm:=runB++[46]++dig k
abbrev srO (db nx:Nat) (mv:Value):Obj:=cellsO [.pointer (some ⟨db,0,none⟩),kS runB,.int .i64 4,.int .i64 0,.int .i64 (nx:Int),mv] 313
def SrAt (sb db nx m:Nat) (hl:Hl):Prop:=∃mv xs sg,Own strE mv xs sg∧xs.length≤m∧hl=(sb,srO db nx mv)::sg
theorem passes_spec {F:Fm} (n b f:Nat) (hn:n<1000000) (hf:2≤f) (hf2:f<1000000) (hb:b<1000000) :
 Spec Tryz.prog 253 #[.int .i64 (n:Int),.int .i64 (b:Int),.int .i64 (f:Int)] F [] fun v _=>∃k:Int,v=.int .i64 k:=by
 refine Spec.of (n:=34) (vs:=[.int .i64 (n:Int),.int .i64 (b:Int),.int .i64 (f:Int)]) Tryz.func253 rfl Tryz.ntmps253 rfl ?_
 refine sj [.p] Z<|aj Z<|nl<|wj<|sj [.p,.p,.p,.p,.p,.p,.p,.p,.p,.p] Z<|mj Z<|uj Z (Pv.lss Z Z)<|mj Z<|Rg.split (t:=11) Z (fun h11 => ?_) (fun h11 => ?_)
 · iterate 2 (first | refine Rg.skipP rfl rfl rfl ?_ | refine Rg.skipR rfl rfl rfl ?_ | refine Rg.skipE rfl rfl rfl ?_)
   refine qj Z Z<|mj Z ?_
   iterate 2 (first | refine Rg.skipP rfl rfl rfl ?_ | refine Rg.skipR rfl rfl rfl ?_ | refine Rg.skipE rfl rfl rfl ?_)
   refine qj Z Z<|nl<|Vc.condT Z<|sj [.p] Z<|aj Z<|nl<|Vc.ret (Vc.rets Z (.cons (.tmp Z) (.nil)) ?_)
   exact ⟨_,rfl⟩
 · simp only [decide_eq_false_iff_not] at h11
   refine mj Z<|uj Z (Pv.lss Z Z)<|pj Z Z<|mj Z<|Rg.split (t:=15) Z (fun h15 => ?_) (fun h15 => ?_)
   · iterate 2 (first | refine Rg.skipP rfl rfl rfl ?_ | refine Rg.skipR rfl rfl rfl ?_ | refine Rg.skipE rfl rfl rfl ?_)
     refine qj Z Z<|nl<|Vc.condT Z<|sj [.p] Z<|aj Z<|nl<|Vc.ret (Vc.rets Z (.cons (.tmp Z) (.nil)) ?_)
     exact ⟨_,rfl⟩
   · simp only [decide_eq_false_iff_not] at h15
     obtain ⟨m,rfl⟩:∃m,n=m+1:=⟨n-1,by omega⟩
     obtain ⟨q,hq⟩:∃q,q=m / b:=⟨_,rfl⟩
     have hqm:q≤m:=hq▸Nat.div_le_self _ _
     refine mj Z<|uj Z (Pv.lss Z Z)<|pj Z Z<|nl<|cj Z (fun h18 => ?_) (fun h18 => ?_)
     · refine sj [.p] Z<|aj Z<|nl<|Vc.ret (Vc.rets Z (.cons (.tmp Z) (.nil)) ?_)
       exact ⟨_,rfl⟩
     · refine kj<|sj [.p] Z<|aj Z<|nl<|wj<|sj [.p,.p,.p,.p,.p,.p] Z<|mj Z<|uj Z (Pv.asI (m) (Pv.sub rfl rfl (by omega)) (by omega))<|mj Z<|uj Z (Pv.asI q (Pv.quo rfl rfl (by omega)) (by rw [hq,Int.natCast_ediv]))<|uj Z (Pv.asI (q+1) (Pv.add rfl rfl (by omega)) (by omega))<|aj Z<|nl<|bj ?_
       refine Vc.loop2 (fun (k r:Nat)=>1≤r∧r≤1000000∧k+r≤2000000) (fun k r=>[(2,.int .i64 (f:Int)),(7,.int .i64 (k:Int)),(8,.int .i64 (r:Int))]) (fun k r=>[]) (fun k r=>r) 0 (q+1) ⟨by omega,by omega,by omega⟩ (.cons rfl (.cons rfl (.cons rfl .nil))) pulled ?_
       rintro k r ⟨hr1,hr2,hkr⟩
       refine wj<|sj [.p,.p] Z<|mj Z<|uj Z (Pv.gtr Z Z)<|nl<|cj Z (fun h25 => ?_) (fun h25 => ?_)
       · simp only [decide_eq_true_eq] at h25
         obtain ⟨r1,rfl⟩:∃r1,r=r1+1:=⟨r-1,by omega⟩
         obtain ⟨q1,hq1⟩:∃q1,q1=r1 / f:=⟨_,rfl⟩
         have hlt:q1<r1:=hq1▸Nat.div_lt_self (by omega) (by omega)
         refine kj<|wj<|bj<|tj [.p,.p,.p] Z<|mj Z<|uj Z (Pv.asI (k+1) (Pv.add rfl rfl (by omega)) (by omega))<|aj Z<|nl<|dj<|tj [.p,.p,.p,.p,.p,.p] Z<|mj Z<|uj Z (Pv.asI (r1) (Pv.sub rfl rfl (by omega)) (by omega))<|mj Z<|uj Z (Pv.asI q1 (Pv.quo rfl rfl (by omega)) (by rw [hq1,Int.natCast_ediv]))<|uj Z (Pv.asI (q1+1) (Pv.add rfl rfl (by omega)) (by omega)) ?_
         refine aj Z<|nl ?_
         exact Vc.inv2 (k+1) (q1+1) ⟨⟨by omega,by omega,by omega⟩,by omega⟩ (.cons rfl (.cons rfl (.cons rfl .nil))) pulled
       · refine Vc.exit Z<|sj [.p,.p] Z<|mj Z<|aj Z<|nl<|Vc.ret (Vc.rets Z (.cons (.tmp Z) (.nil)) ?_)
         exact ⟨_,rfl⟩
end Go.Proofs.YtkpiakgmkpbikaaGreatDoor
namespace Go.Proofs.YtkpiakgmkpbikaaGreatDoor
theorem removeD_c {C:Cx} {D:Dk} (hw:Wz C D) (k:Nm) (h:(removeD D k).1=7):Dn none1 D (removeD D k).2:=by
 rcases begins_z hw with ⟨h0,hg,hfs,hu,hr⟩ | ⟨h7,hc⟩
 · exfalso
   rw [removeD,if_neg (by omega)] at h
   split at h<;>cases h
 · rw [removeD,if_pos h7]; exact hc
theorem renameD_c {C:Cx} {D:Dk} (hw:Wz C D) (k to:Nm) (h:(renameD D k to).1=7):Dn none1 D (renameD D k to).2:=by
 rcases begins_z hw with ⟨h0,hg,hfs,hu,hr⟩ | ⟨h7,hc⟩
 · exfalso
   rw [renameD,if_neg (by omega)] at h
   split at h
   · cases h
   · split at h
     · cases h
     · split at h<;>cases h
 · rw [renameD,if_pos h7]; exact hc
section
variable {F : Fm} {db : Nat} {C : Cx} {D : Dk} {s : Hl}
theorem remove_zc (hC:C.Ok) (hD:DiskAt db D s) (hw:Wz C D) (k:Nm) :
 Spec Tryz.prog 72 #[.pointer (some ⟨db,0,none⟩),kS k] F s fun v s'=>∃e D',v=.int .i64 e∧DiskAt db D' s'∧Wz C D'∧(((e=0∨e=4)∧Gd (· = k) D D'∧findF D'.files k=none)∨(e=7∧Dn none1 D D')):=by
 have hz:=hw.dz hC
 refine (remove_spec hD hz.sz hz.fewB hz.arm hz.fewB2 (by have:=hz.usedB; omega) k).mono fun v s ⟨h1,h2⟩=>⟨_,_,h1,h2,?_⟩
 cases hf:findF D.files k with
 | none =>
  obtain ⟨h3,h4⟩:=removeD_zn hw hf
  exact ⟨h3,h4.imp (fun x=>⟨.inr x.1,x.2.1.any,by rw [x.2.1.same k (fun h=>h.elim)]; exact hf⟩) (fun x=>⟨x.1,removeD_c hw k x.1⟩)⟩
 | some f =>
  obtain ⟨h3,h4⟩:=removeD_z hw hf
  exact ⟨h3,h4.imp (fun x=>⟨.inl x.1,x.2⟩) (fun x=>⟨x.1,removeD_c hw k x.1⟩)⟩
theorem rename_zc (hC:C.Ok) (hD:DiskAt db D s) (hw:Wz C D) {k:Nm} {f:Fl} (hf:findF D.files k=some f) {to:Nm} (hk:to∈C.S) (hne:k≠to) :
 Spec Tryz.prog 232 #[.pointer (some ⟨db,0,none⟩),kS k,kS to] F s fun v s'=>∃e D',v=.int .i64 e∧DiskAt db D' s'∧Wz C D'∧((e=0∧Gd (fun x=>x=k∨x=to) D D'∧findF D'.files k=none∧findF D'.files to=some f)∨(e=7∧Dn none1 D D')):=by
 have hz:=hw.dz hC
 refine (rename_spec hD hz k to).mono fun v s ⟨h1,h2⟩=>⟨_,_,h1,h2,?_⟩
 obtain ⟨h3,h4⟩:=renameD_z hw hf hk (hC.may to hk) hne
 exact ⟨h3,h4.imp id (fun x=>⟨x.1,renameD_c hw k to x.1⟩)⟩
end
section
variable {F : Fm} {sb db nx m : Nat} {C : Cx} {D : Dk} {s1 s2 : Hl}
theorem name_spec (hS:SrAt sb db nx m s1) (hn:nx+1<100) :
 Spec Tryz.prog 250 #[.pointer (some ⟨sb,0,none⟩)] F s1 fun v s'=>v=kS (runN (nx+1))∧SrAt sb db (nx+1) m s':=by
 obtain ⟨mv,xs,sg,own,hm,rfl⟩:=hS
 have h1c:=own.one
 refine Spec.of (n:=21) (vs:=[.pointer (some ⟨sb,0,none⟩)]) Tryz.func250 rfl Tryz.ntmps250 rfl ?_
 refine sj [.p] Z<|aj Z<|nl<|sj [.p,.p,.p,.r,.p,.p,.p,.e] Z<|mj Z<|nj Z<|fj Z<|lj Z Z<|uj Z (Pv.asI (nx+1) (Pv.add rfl rfl (by omega)) (by omega))<|nj Z<|fj Z ?_
 refine Rg.store Z Z Z Z Z Z Z Z<|nl<|wj ?_
 refine Vc.draw [] (sd [(0,.pure),(1,.pure),(2,.pure),(3,.read),(4,.pure),(5,.pure),(6,.pure),(7,.pure),(8,.read),(9,.eff),(10,.pure),(11,.pure)]) mixed (by kernel_rfl)<|mj Z<|nj Z<|fj Z<|lj Z Z<|uj Z (Pv.addK rfl rfl (by decide))<|mj Z<|nj Z<|fj Z<|lj Z Z ?_
 refine Rg.callP Z Z Z (run_callF Z) (itoa_spec (nx+1) hn) ?_
 rintro _ rfl
 refine uj Z (Pv.addK rfl rfl (by have:=dig_len (nx+1); simp [runB]; omega))<|aj Z<|nl ?_
 exact Vc.ret (Vc.retsH rfl (.cons (.tmp rfl) (.nil)) (⟨rfl,mv,xs,sg,own,hm,rfl⟩) pulled)
abbrev eqS (y x:List UInt8):Bool:=decide ((⟨x.toArray⟩:ByteArray)=⟨y.toArray⟩)
theorem gone1_spec {bx:Nat} (y x:List UInt8) [hb:Fat F bx (cellsO [kS y] 9)] :
 Spec Tryz.prog 255 #[kS x,.pointer (some ⟨bx,0,none⟩)] F [] fun v _=>v=.bool (eqS y x):=by
 refine Spec.of (n:=7) (vs:=[kS x,.pointer (some ⟨bx,0,none⟩)]) Tryz.func255 rfl Tryz.ntmps255 rfl ?_
 refine sj [.p] Z<|aj Z<|nl<|sj [.p,.r,.p,.p] Z<|mj Z<|lj Z Z<|uj Z (Pv.eqlS Z Z)<|aj Z<|nl<|Vc.ret (Vc.rets Z (.cons (.tmp Z) (.nil)) ?_)
 exact rfl
theorem gone_z (hC:C.Ok) (hS:SrAt sb db nx m s1) (hm:m<1000) (hD:DiskAt db D s2) (hw:Wz C D) {vl:Value} {l:List Nm} (ha:Arg strE F vl l) (hl:l.length<1000) (hd:D.down=false∨l≠[]) :
 Spec Tryz.prog 224 #[.pointer (some ⟨sb,0,none⟩),vl] F (s1++s2) fun v s'=>∃e D' h1 h2,v=.int .i64 e∧s'=h1++h2∧SrAt sb db nx m h1∧DiskAt db D' h2∧Out C (fun k=>k∈l) (fun D'=>∀x∈l,findF D'.files x=none) D 0 e D'∧(D.down=true→e=7∧Dn none1 D D'):=by
 obtain ⟨p,c,rfl⟩:=ha.shape
 obtain ⟨mv0,xs0,sg0,own0,hm0,rfl⟩:=hS
 rw [List.cons_append]
 refine Spec.of (n:=37) (vs:=[.pointer (some ⟨sb,0,none⟩),.slice p l.length c]) Tryz.func224 rfl Tryz.ntmps224 rfl ?_
 refine sj [.p] Z<|aj Z<|nl<|wj<|sj [.p,.p,.p] Z<|mj Z<|uj Z (Pv.lenS Z)<|mj Z<|nl<|bj ?_
 refine Vc.loop6 (fun (k:Nat) (mv:Value) (xs:List Nm) (sg:Hl) (D':Dk) (q:Hl)=>k≤l.length∧Own strE mv xs sg∧xs.length≤m∧DiskAt db D' q∧Wz C D'∧((k=0∧D'=D)∨(Gd (fun x=>x∈l) D D'∧∀x∈l.take k,findF D'.files x=none))) (fun k mv xs sg D' q=>[(0,.pointer (some ⟨sb,0,none⟩)),(8,.slice p l.length c),(9,.int .i64 (l.length:Int)),(10,.int .i64 (k:Int))]) (fun k mv xs sg D' q=>(sb,srO db nx mv)::(sg++q)) (fun k mv xs sg D' q=>l.length-k) 0 mv0 xs0 sg0 D s2 ⟨Nat.zero_le _,own0,hm0,hD,hw,.inl ⟨Z,Z⟩⟩ (.cons Z (.cons Z (.cons Z (.cons Z .nil)))) pulled ?_
 rintro k mv xs sg D' q ⟨hk,own,hml,hD',hw',hst⟩
 have h1c:=own.one
 refine sj [.p] Z<|uj Z (Pv.lss Z Z)<|nl<|wj<|cj Z (fun h11 => ?_) (fun h11 => ?_)
 · simp only [decide_eq_true_eq] at h11
   have hk1:k<l.length:=by omega
   obtain ⟨b,off,c',e,_⟩:=ha.block (by omega)
   cases e
   have hkm:l[k]! ∈ l:=by rw [getElem!_pos l k hk1]; exact List.getElem_mem _
   have htk:l.take (k+1)=l.take k++[l[k]!]:=by rw [List.take_succ_eq_append_getElem hk1,getElem!_pos l k hk1]
   refine kj<|wj<|bj<|sj [.p,.r,.e,.e] Z<|uj Z (Pv.ixA (k) rfl rfl (by omega) (by omega))<|rj Z (Ev.as (kS l[k]!) (Ev.ldS (E:=strE) k ha.src Z Z Z hk1) Z)<|Rg.alloc Z Z Z Z (fun b6 => ?_)
   refine Rg.store Z Z Z Z Z Z Z Z<|nl<|wj<|wj ?_
   refine Vc.draw [5] (sd [(0,.pure),(1,.pure),(2,.pure),(3,.read),(4,.read),(5,.eff),(6,.pure)]) mixed (by kernel_rfl)<|mj Z<|nj Z<|fj Z<|lj Z Z<|lj Z Z ?_
   refine Rg.callH Z Z Z (run_callF Z) (fun F' hF'=>remove_zc (F:=F') hC hD' hw' l[k]!) Z ?_
   rintro _ g ⟨e,D1,rfl,hD1,hw1,hO⟩
   have hne:e=7∨(e=0∨e=4):=hO.elim (fun h=>.inr h.1) (fun h=>.inl h.1)
   have hgd:(e=0∨e=4)→Gd (fun x=>x∈l) D D1∧∀x∈l.take (k+1),findF D1.files x=none:=fun h=>by
    obtain ⟨_,hG,hnone⟩:=hO.resolve_right (fun h'=>by omega)
    have hG':Gd (fun x=>x∈l) D' D1:=hG.mono fun x hx=>by rw [hx]; exact hkm
    refine ⟨?_,fun x hx => ?_⟩
    · rcases hst with ⟨_,rfl⟩ | h2
      · exact hG'
      · exact h2.1.trans hG'
    · rw [htk,List.mem_append,List.mem_singleton] at hx
      by_cases hxe:x=l[k]!
      · rw [hxe]; exact hnone
      · rw [hG.same x hxe]
        rcases hst with ⟨rfl,_⟩ | h2
        · rcases hx with hx | hx
          · simp at hx
          · exact absurd hx hxe
        · exact h2.2 x (hx.resolve_right hxe)
   have hbd:e=7→Dn (fun x=>x∈l) D D1:=fun h=>by
    obtain ⟨_,hB⟩:=hO.resolve_left (fun h'=>by omega)
    have hB':Dn (fun x=>x∈l) D' D1:=hB.any
    rcases hst with ⟨_,rfl⟩ | h2
    · exact hB'
    · exact h2.1.dn hB'
   have hdd:D.down=true→e=7∧Dn none1 D D1:=fun h=>by
    rcases hst with ⟨_,rfl⟩ | h2
    · rcases hO with h3 | h3
      · have:=h3.2.1.up0; rw [h] at this; cases this
      · exact h3
    · have:=h2.1.up0; rw [h] at this; cases this
   refine aj Z<|nl<|sj [.p,.p,.p,.p,.p,.p] Z<|mj Z<|uj Z (Pv.neq Z Z)<|mj Z<|Rg.split (t:=22) Z (fun h22 => ?_) (fun h22 => ?_)
   · simp only [bne_iff_ne,ne_eq,decide_eq_true_eq] at h22
     refine mj Z<|uj Z (Pv.neq Z Z)<|qj Z Z<|nl<|cj Z (fun h25 => ?_) (fun h25 => ?_)
     · simp only [bne_iff_ne,ne_eq,decide_eq_true_eq] at h25
       have he7:e=7:=by omega
       refine sj [.p,.p] Z<|mj Z<|aj Z<|nl ?_
       exact Vc.ret (Vc.retsH rfl (.cons (.tmp rfl) (.nil)) (⟨e,D1,(sb,srO db nx mv)::sg,g,rfl,rfl,⟨mv,xs,sg,own,hml,rfl⟩,hD1,⟨hw1,.inr ⟨he7,hbd he7⟩⟩,hdd⟩) pulled)
     · simp only [bne_eq_false_iff_eq,decide_eq_false_iff_not,ne_eq,Decidable.not_not] at h25
       refine kj<|tj [.p,.p,.p,.p,.r,.p,.e,.p,.p,.e] Z<|mj Z<|mj Z<|nj Z<|fj Z<|lj Z Z<|uj Z (Pv.mkF Z Z) ?_
       refine Rg.callH Z Z Z (run_callF rfl) (fun F' hF'=>deleteFunc_spec (F:=F') own (by omega) (eqS l[k]!) 255 [.pointer (some ⟨b6,0,none⟩)] (fun F'' h x=>by have:Fat F'' b6 (cellsO [kS l[k]!] 9):=⟨h _ _ (hF' _ _ (.inl (by simp)))⟩; exact gone1_spec l[k]! x)) rfl ?_
       rintro v33 s33 ⟨ys,hyl,own33⟩
       have h33:=own33.one
       refine nj Z<|fj Z ?_
       refine Rg.store Z Z Z Z Z h33 Z Z<|nl<|dj<|tj [.p,.p] Z<|uj Z (Pv.asI (k+1) (Pv.add rfl rfl (by omega)) (by omega))<|mj Z<|nl ?_
       exact Vc.inv6 (k+1) v33 ys s33 D1 g ⟨⟨by omega,own33,by omega,hD1,hw1,.inr (hgd (.inr h25))⟩,by omega⟩ (.cons rfl (.cons rfl (.cons rfl (.cons rfl .nil)))) pulled
   · simp only [bne_eq_false_iff_eq,decide_eq_false_iff_not,ne_eq,Decidable.not_not] at h22
     iterate 2 (first | refine Rg.skipP rfl rfl rfl ?_ | refine Rg.skipR rfl rfl rfl ?_ | refine Rg.skipE rfl rfl rfl ?_)
     refine pj Z Z<|nl<|Vc.condF Z<|kj<|tj [.p,.p,.p,.p,.r,.p,.e,.p,.p,.e] Z<|mj Z<|mj Z<|nj Z<|fj Z<|lj Z Z<|uj Z (Pv.mkF Z Z) ?_
     refine Rg.callH Z Z Z (run_callF rfl) (fun F' hF'=>deleteFunc_spec (F:=F') own (by omega) (eqS l[k]!) 255 [.pointer (some ⟨b6,0,none⟩)] (fun F'' h x=>by have:Fat F'' b6 (cellsO [kS l[k]!] 9):=⟨h _ _ (hF' _ _ (.inl (by simp)))⟩; exact gone1_spec l[k]! x)) rfl ?_
     rintro v33 s33 ⟨ys,hyl,own33⟩
     have h33:=own33.one
     refine nj Z<|fj Z ?_
     refine Rg.store Z Z Z Z Z h33 Z Z<|nl<|dj<|tj [.p,.p] Z<|uj Z (Pv.asI (k+1) (Pv.add rfl rfl (by omega)) (by omega))<|mj Z<|nl ?_
     exact Vc.inv6 (k+1) v33 ys s33 D1 g ⟨⟨by omega,own33,by omega,hD1,hw1,.inr (hgd (.inl h22))⟩,by omega⟩ (.cons rfl (.cons rfl (.cons rfl (.cons rfl .nil)))) pulled
 · simp only [decide_eq_false_iff_not] at h11
   obtain rfl:k=l.length:=by omega
   rw [List.take_length] at hst
   have hfin:Out C (fun k=>k∈l) (fun D'=>∀x∈l,findF D'.files x=none) D 0 0 D':=by
    refine ⟨hw',.inl ⟨rfl,?_⟩⟩
    rcases hst with ⟨h0,rfl⟩ | h
    · have hl0:l=[]:=List.length_eq_zero_iff.1 h0
      exact ⟨.refl (hd.resolve_right fun h=>h hl0),fun x hx=>by rw [hl0] at hx; cases hx⟩
    · exact h
   refine Vc.exit Z<|sj [.p] Z<|aj Z<|nl ?_
   exact Vc.ret (Vc.retsH rfl (.cons (.tmp rfl) (.nil)) (⟨0,D',(sb,srO db nx mv)::sg,q,rfl,rfl,⟨mv,xs,sg,own,hml,rfl⟩,hD',hfin,fun h=>by
    obtain ⟨_,hGG,_⟩:=hfin.good (by decide)
    have:=hGG.up0; rw [h] at this; cases this⟩) pulled)
theorem run_z (hC:C.Ok) (hS:SrAt sb db nx m s1) (hm:m<1000) (hn:nx+1<100) (hD:DiskAt db D s2) (hw:Wz C D) {vl:Value} {l:List Rc} (ha:Arg recE F vl l) (hI:InRs l) (hl:l.length<50) (hcap:16*l.length+6≤C.cap) (hk:runN (nx+1)∈C.S) (hf:findF D.files (runN (nx+1))=none) :
 Spec Tryz.prog 265 #[.pointer (some ⟨sb,0,none⟩),vl] F (s1++s2) fun v s'=>∃e D' h1 h2,v=.tuple #[kS (runN (nx+1)),.int .i64 e]∧s'=h1++h2∧SrAt sb db (nx+1) (m+1) h1∧DiskAt db D' h2∧Out C (· = runN (nx+1)) (fun D'=>findF D'.files (runN (nx+1))=some ⟨fileB (sortL l),fileB (sortL l)⟩) D 0 e D':=by
 obtain ⟨p,c,rfl⟩:=ha.shape
 obtain ⟨mv0,xs0,sg0,own0,hm0,rfl⟩:=hS
 rw [List.cons_append]
 have h0c:=own0.one
 refine Spec.of (n:=40) (vs:=[.pointer (some ⟨sb,0,none⟩),.slice p l.length c]) Tryz.func265 rfl Tryz.ntmps265 rfl ?_
 refine sj [.p,.p] Z<|aj Z<|aj Z<|nl<|sj [.p,.p,.p,.p,.r,.e,.p,.p,.p,.p,.p] Z<|mj Z<|mj Z<|nj Z<|fj Z<|lj Z Z ?_
 refine Rg.callA Z Z Z (run_callF rfl) (sorted_spec (ha.mono fun b o h=>Or.inr h) (by omega) hI.nr 0) ?_
 rintro _ s14 ⟨u14,er,rfl,h14⟩
 obtain ⟨_,rfl,own14⟩:=h14.resolve_right (fun h=>by cases h.1)
 rw [sortedG_zero] at own14
 refine mj Z<|xj Z Z<|xj Z Z<|aj Z<|aj Z<|nl<|wj<|sj [.p,.p] Z<|mj Z<|uj Z (Pv.neq Z Z)<|nl<|cj Z (fun h18=>absurd h18 (by decide)) (fun h18 => ?_)
 refine kj<|sj [.p,.e,.p] Z<|mj Z<|Rg.callH Z Z Z (run_callF Z) (fun F' hF'=>name_spec (F:=F') (s1:=(sb,srO db nx mv0)::sg0) ⟨mv0,xs0,sg0,own0,hm0,Z⟩ hn) Z ?_
 rintro _ _ ⟨rfl,mv,xs,sg,own,hml,rfl⟩
 have h1c:=own.one
 refine aj Z<|nl<|sj [.p,.p,.p,.p,.r,.p,.e,.e,.p,.p,.e] Z<|mj Z<|mj Z<|nj Z<|fj Z<|lj Z Z<|mj Z ?_
 refine Rg.bslice1 Z Z Z Z Z Z Z (fun b28 => ?_)
 refine Rg.append Z Z Z Z Z own (ys:=[runN (nx+1)]) (Src.one rfl) (by simp<;>omega) (by simp [maxLen]<;>omega) rfl (fun v29 s29 own29 => ?_)
 have h29:=own29.one
 refine nj Z<|fj Z ?_
 refine Rg.store Z Z Z Z Z h29 Z Z<|nl<|sj [.p,.p,.p,.p,.r,.p,.p,.e,.p,.p] Z<|mj Z<|mj Z<|nj Z<|fj Z<|lj Z Z<|mj Z<|mj Z ?_
 refine Rg.callH Z Z Z (run_callF rfl) (fun F' hF'=>write_z (F:=F') hC hD hw hk hf (Arg.own own14 fun b o hb=>hF' b o (.inl (by simp [hb]))) (fun r hr=>hI r ((sortL_perm l).mem_iff.1 hr)) (by rw [sortL_length]; exact hl) (by rw [sortL_length]; exact hcap)) rfl ?_
 rintro _ g ⟨e,D1,rfl,hD1,hO⟩
 refine aj Z<|aj Z<|nl ?_
 exact Vc.ret (Vc.retsH rfl (.cons (.tmp rfl) (.cons (.tmp rfl) (.nil))) (⟨e,D1,(sb,srO db (nx+1) v29)::s29,g,rfl,rfl,⟨v29,_,s29,own29,by rw [List.length_append,List.length_singleton]; omega,rfl⟩,hD1,hO⟩) pulled)
end
end Go.Proofs.YtkpiakgmkpbikaaGreatDoor
