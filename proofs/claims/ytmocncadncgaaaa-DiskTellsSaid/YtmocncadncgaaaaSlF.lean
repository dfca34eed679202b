/- A range over a function: the iterator's contract, a call of yield, the statement. -/
import Derived.Test.YtmocncadncgaaaaSlE
namespace Go.Proofs.Ytmocncadncgaaaa
set_option linter.unusedVariables false

/-- Called so where that is known of the heap, yield runs a round and hands back some v, and then that is known of it. -/
def YSpec (P : Program) (lr : Nat) (args : Array Value) (F : Fm) (hl : Hl) (post : Value → Hl → Prop) : Prop :=
  ∀ w, Hp F hl w → ∃ fn tmps assign body, (Instr.yield lr args).run P w = .ok (.round lr fn tmps assign body) w ∧
    RoundIn (Fe none) 0 P lr fn tmps assign body w fun e w' => ∃ v hl', e = .returned v ∧ post v hl' ∧ Hp F hl' w'

/-- WHAT AN ITERATOR OWES: called with yield, whose rounds all go on, it hands over a whole row of things (S), each behind an allowed part of one (Sp); hi: the blocks of its own. -/
def Iter (P : Program) (gf : Nat) (lb : List Value) (F : Fm) {α : Type} (enc : α → List Value) (Sp S : List α → Prop) (hi : Hl) : Prop :=
  ∀ (lr : Nat) (J : List α → Hl → Prop) (F1 : Fm), (∀ b o, F.at_ b o → F1.at_ b o) →
    (∀ pre x, Sp (pre ++ [x]) → ∀ hc, J pre hc → ∀ F2, (∀ b o, F1.at_ b o → F2.at_ b o) → YSpec P lr (enc x).toArray F2 hc fun v hc' => v = .bool true ∧ J (pre ++ [x]) hc') →
    ∀ hc, J [] hc → Spec P gf (.func (.yield lr) #[] #[] :: lb).toArray F1 (hi ++ hc) fun _ s => ∃ xs, S xs ∧ J xs s

section
variable {P : Program} {n : Nf} {F : Fm} {l : Env} {hl : Hl} {ty : TypeId} {pos : String} {af : Array Edge} {g : Option (Nat × Bool)}
variable {Qf : Exit → Act → World → Prop} {ks : List KItem} {ops : List Oper} {clr : List Nat} {hs : Hl} {r : Sd} {i : Nat}

theorem run_callY {lr : Nat} {x : Operand} {xs : List Operand} {vs : List Value} {ats : Array TypeId} {d : Option Tmp} (hx : ev l x = some (.func (.yield lr) #[] #[])) (hv : evs l xs = some vs) (a : Act) (w : World) (h : Fr n l a) :
    (execOp a.eval ⟨d, .call { callee := .value x, args := xs.toArray, argTypes := ats }, ty, pos, af, g⟩).run P w = (Instr.yield lr vs.toArray).run P w := by
  simp [execOp, resolve, Deferred.ofValue, h.ev hx, invoke, h.evs hv]

/-- A call of yield, with a part of the list; the rest stays. -/
theorem Rg.yieldH {t lr : Nat} {x : Operand} {xs : List Operand} {vs : List Value} {ats : Array TypeId} {pre rest : Hl} {post : Value → Hl → Prop}
    (ho : nth ops i = some ⟨some t, .call { callee := .value x, args := xs.toArray, argTypes := ats }, ty, pos, af, g⟩) (hg : wantB ops l g = some true) (ht : Nat.blt t n.n = true) (hx : ev l x = some (.func (.yield lr) #[] #[])) (hv : evs l xs = some vs)
    (hspec : ∀ F', (∀ b o, (b, o) ∈ rest ∨ F.at_ b o → F'.at_ b o) → YSpec P lr vs.toArray F' pre post) [hp : PullL hl pre rest] (hclr : clr.contains i = true)
    (h : ∀ v hl', post v hl' → Rg P Qf n F ks ops clr (hl' ++ rest) r ((t, v) :: l) (hl' ++ rest)) : Rg P Qf n F ks ops clr hs (.st i .eff r) l hl := fun a w hf hh => by
  show wpOpX _ _ _ _ _ _ _ _
  unfold wpOpX wpOpIn
  rw [nth_eq] at ho
  have ho' : ops.toArray[i]? = some ⟨some t, .call { callee := .value x, args := xs.toArray, argTypes := ats }, ty, pos, af, g⟩ := by simpa using ho
  simp only [ho', wantB_spec (o := ⟨some t, .call { callee := .value x, args := xs.toArray, argTypes := ats }, ty, pos, af, g⟩) hg hf, if_true]
  unfold Oper.wpIn
  refine ⟨fun _ _ => trivial, ?_⟩
  obtain ⟨h1, h2, h3⟩ := Hp.frz_iff.1 (hh.perm hp.perm)
  obtain ⟨fn, tmps, assign, body, hy, hR⟩ := hspec (frz F rest) (fun _ _ h => h) w h1
  have hrun := run_callY (P := P) (ty := ty) (pos := pos) (af := af) (g := g) (d := some t) (ats := ats) hx hv a w hf
  rw [hy] at hrun
  rw [semAt_run hrun (by intro d h; cases h)]
  refine ⟨(by intro h; cases h), hR.mono fun e w' ⟨v, hl', he, hpost, hh'⟩ => ?_⟩
  subst he
  have hfin : Hp F (hl' ++ rest) w' := Hp.frz_iff.2 ⟨hh', h2, h3⟩
  exact ⟨St F (hl' ++ rest), (fun hc => by rw [hclr] at hc; cases hc), hfin.st, h v hl' hpost _ w' (hf.put ht v) hfin⟩

/-! ### The statement -/
theorem Vc.begin {lr : Nat} {rc : Loop} {put : Obj → Hl} [hb : Lens hl lr (.loop rc) put] (h : Vc P Qf n F ks l (put (.loop { rc with state := .busy }))) : Vc P Qf n F (.begin lr rc :: ks) l hl := fun a w hf hh =>
  ⟨hh.own _ _ hb.mem, h a _ hf (hb.putB hh _)⟩

/-- What a round's body must come to: it goes on, and the caller's blocks are as the row wants them. -/
def QRd (F : Fm) (lr : Nat) (rc : Loop) (I : Hl → Prop) : Exit → Act → World → Prop
  | .normal, _, w => ∃ hc, I hc ∧ Hp F ((lr, .loop { rc with state := .busy }) :: hc) w
  | _, _, _ => False
theorem Vc.finR {lr : Nat} {rc : Loop} {I : Hl → Prop} (hc : Hl) {rest : Hl} (hI : I hc) (hp : hl.Perm (((lr, .loop { rc with state := .busy }) :: hc) ++ rest)) : Vc P (QRd F lr rc I) n F [] l hl := fun a w hf hh =>
  ⟨hc, hI, (hh.perm hp).forget⟩

def envZ (l : Env) (ps : List Nat) (vs : List Value) : Env := (ps.zip vs).foldl (fun l (p, v) => (p, v) :: l) l
theorem fr_zip {l : Env} : ∀ (ps : List Nat) (vs : List Value) {n : Nf} {l : Env} {a : Act}, Fr n l a → (ps.all fun p => Nat.blt p n.n) = true → Fr n (envZ l ps vs) { a with tmps := (ps.zip vs).foldl (fun t (p, v) => t.setIfInBounds p v) a.tmps }
  | [], _, _, _, _, h, _ => h
  | _ :: _, [], _, _, _, h, _ => h
  | p :: ps, v :: vs, n, l, a, h, hb => by
    simp only [List.all_cons, Bool.and_eq_true] at hb
    exact fr_zip (l := l) ps vs (h.put hb.1 v) hb.2

theorem zip_list (ps : List Nat) (vs : List Value) (t : Array Value) : (ps.toArray.zip vs.toArray).foldl (fun t (p, v) => t.setIfInBounds p v) t = (ps.zip vs).foldl (fun t (p, v) => t.setIfInBounds p v) t := by
  rw [← Array.foldl_toList]
  simp

theorem wp_round {P : Program} {lr fn : Nat} {tmps : Array Value} {assign body : Code} {rc : Loop} {w : World} {F : Fm} {hc : Hl} {m : Nat} {l : Env} {I : Hl → Prop} (hl : w.heap[lr]? = some (.loop rc)) (hr : rc.state = .ready) (hpe : rc.pending = none)
    (hsz : tmps.size = m) (hf : Fr ⟨m, some lr, []⟩ l { tmps := tmps, defers := [] }) (hh : Hp F ((lr, .loop rc) :: hc) w) (h : Vc P (QRd F lr rc I) ⟨m, some lr, []⟩ F [.code assign, .begin lr rc, .code body] l ((lr, .loop rc) :: hc)) :
    RoundIn (Fe none) 0 P lr fn tmps assign body w fun e w' => ∃ v hl', e = .returned v ∧ (v = .bool true ∧ ∃ hc', I hc' ∧ hl' = (lr, .loop rc) :: hc') ∧ Hp F hl' w' := by
  refine roundIn_of_wpIn (F := Fe none) trivial ?_
  refine wpIn_mono (F := Fe (some lr)) (h _ w hf hh) fun e a₁ w₁ q => ?_
  cases e with
  | normal =>
    obtain ⟨h1, h2⟩ := q
    refine ⟨_, run_beginRound h1 hr, wpIn_mono (F := Fe (some lr)) h2 fun e a₂ w₂ q => ?_⟩
    cases e with
    | normal =>
      obtain ⟨hc', hI, hh'⟩ := q
      have hl2 := hh'.own lr _ List.mem_cons_self
      refine ⟨_, _, run_endRound none hl2, _, (lr, .loop rc) :: hc', rfl, ⟨rfl, hc', hI, rfl⟩, ?_⟩
      have e1 : ({ { rc with state := .busy } with state := (if (none : Option Code).isNone then .ready else .done), pending := none } : Loop) = rc := by
        cases rc; simp_all
      rw [e1]
      exact Lens.putB (put := fun o' => (lr, o') :: hc') ⟨[], hc', rfl, fun _ => rfl⟩ hh' _
    | _ => exact (q : False).elim
  | ret => exact (q.2 : False).elim
  | exit id => exact absurd q.1 (by simp)
  | goto id => exact absurd q.1 (by simp)
  | panic c => exact absurd q.1 (by simp)
  | outgrown => exact absurd q.1 (by simp)

theorem Mk.cons {ds : List Nat} {F0 F1 : Fm} {D : Nat} (h : Mk ds F0 F1) (hD : ∀ o, ¬ F1.at_ D o) : Mk (D :: ds) F0 (frz F1 [(D, markO)]) where
  at_ := fun E hE => by
    rcases List.mem_cons.1 hE with rfl | hE
    · exact .inl (by simp)
    · exact .inr (h.at_ E hE)
  nodup := List.nodup_cons.2 ⟨fun hm => hD _ (h.at_ D hm), h.nodup⟩
  old := fun b o hb => by
    obtain ⟨h1, h2⟩ := h.old b o hb
    refine ⟨.inr h1, fun hm => ?_⟩
    rcases List.mem_cons.1 hm with rfl | hm
    · exact hD _ h1
    · exact h2 hm
  os := h.os
  tape := h.tape
  output := h.output
  drawn := h.drawn
theorem Mk.one {D : Nat} (hD : ∀ o, ¬ F.at_ D o) : Mk [D] F (frz F [(D, markO)]) := Mk.cons Mk.nil hD

/-- **for .. := range g { .. }**, in a function's own frame. -/
theorem Vc.rangeFunc {α : Type} {gv : Operand} {ps : List Nat} {assign body : Code} {gf : Nat} {lb : List Value} {enc : α → List Value} {Sp S : List α → Prop} {hi rest : Hl} (I : List α → Hl → Prop) (hc0 : Hl)
    (hro : n.ro = none) (hg : ev l gv = some (.func (.func gf) #[] lb.toArray)) [hcf : TyCall P gf] (hps : ∀ x, (enc x).length = ps.length) (hbl : (ps.all fun p => Nat.blt p n.n) = true)
    (hp : hl.Perm ((hi ++ hc0) ++ rest)) (hit : ∀ F1, (∀ b o, (b, o) ∈ rest ∨ F.at_ b o → F1.at_ b o) → Iter P gf lb F1 enc Sp S hi) (h0 : I [] hc0)
    (round : ∀ (lr : Nat) (rc : Loop) (pre : List α) (x : α) (hc : Hl) (F1 : Fm), (∀ b o, (b, o) ∈ rest ∨ F.at_ b o → F1.at_ b o) → Sp (pre ++ [x]) → I pre hc →
      Vc P (QRd F1 lr rc (I (pre ++ [x]))) ⟨n.n, some lr, []⟩ F1 [.code assign, .begin lr rc, .code body] (envZ l ps (enc x)) ((lr, .loop rc) :: hc))
    (done : ∀ (D : Nat) (xs : List α) (hc : Hl), (∀ o, ¬ F.at_ D o) → S xs → I xs hc → Vc P Qf ⟨n.n, n.ro, D :: n.ds⟩ (frz F [(D, markO)]) ks l (hc ++ rest)) :
    Vc P Qf n F (.code (.rangeFunc gv ps.toArray assign body) :: ks) l hl := fun a w hf hh => by
  show (Code.rangeFunc gv ps.toArray assign body).wpIn (Fe n.ro) 0 P (postK P n.ro Qf ks) a w
  refine wpIn_rangeFunc ?_
  intro fn hfn
  rw [show (Fe n.ro).round = none from hro]
  obtain ⟨rec, hrec⟩ : ∃ rec : Loop, rec = { state := .ready, pending := none, fn, tmps := a.tmps, params := ps.toArray, assign, body, defers := w.heap.size } := ⟨_, rfl⟩
  have hh1 : Hp F ((w.heap.size + 1, .loop rec) :: (w.heap.size, markO) :: hl) ((w.alloc markO).alloc (.loop rec)) := by
    have h := (hh.alloc markO).alloc (.loop rec)
    rw [show ({ w with heap := w.heap.push markO } : World).heap.size = w.heap.size + 1 by simp] at h
    exact h
  have hpm : ((w.heap.size + 1, Obj.loop rec) :: (w.heap.size, markO) :: hl).Perm ((hi ++ ((w.heap.size + 1, Obj.loop rec) :: hc0)) ++ (rest ++ [(w.heap.size, markO)])) := by
    have e1 : ((w.heap.size + 1, Obj.loop rec) :: (w.heap.size, markO) :: hl).Perm ((w.heap.size + 1, Obj.loop rec) :: (w.heap.size, markO) :: ((hi ++ hc0) ++ rest)) := (hp.cons _).cons _
    refine e1.trans ?_
    have e2 : ((w.heap.size, markO) :: ((hi ++ hc0) ++ rest)).Perm ((hi ++ hc0) ++ (rest ++ [(w.heap.size, markO)])) := by
      rw [← List.append_assoc]
      exact (List.perm_append_comm (l₁ := [(w.heap.size, markO)]))
    refine (e2.cons _).trans ?_
    rw [List.append_assoc, List.append_assoc, List.cons_append]
    exact List.perm_middle.symm
  obtain ⟨k1, k2, k3⟩ := Hp.frz_iff.1 (hh1.perm hpm)
  have hF1 : ∀ b o, (b, o) ∈ rest ∨ F.at_ b o → (frz F (rest ++ [(w.heap.size, markO)])).at_ b o := fun b o h => h.imp (fun h => List.mem_append_left _ h) id
  have hsp := hit (frz F (rest ++ [(w.heap.size, markO)])) hF1 (w.heap.size + 1) (fun pre h => ∃ hc, I pre hc ∧ h = (w.heap.size + 1, Obj.loop rec) :: hc) (frz F (rest ++ [(w.heap.size, markO)])) (fun _ _ h => h)
    (fun pre x hx hc ⟨hc', hI, e⟩ F2 hF2 => by
      subst e
      intro W hW
      have hlr := hW.own (w.heap.size + 1) _ List.mem_cons_self
      have hy := run_yield (P := P) (args := (enc x).toArray) hlr (by rw [hrec]; simpa using hps x)
      refine ⟨_, _, _, _, hy, ?_⟩
      rw [show rec.fn = fn by rw [hrec], show rec.tmps = a.tmps by rw [hrec], show rec.params = ps.toArray by rw [hrec], show rec.assign = assign by rw [hrec], show rec.body = body by rw [hrec]]
      have hfr : Fr ⟨n.n, some (w.heap.size + 1), []⟩ (envZ l ps (enc x)) { tmps := (ps.zip (enc x)).foldl (fun t (p, v) => t.setIfInBounds p v) a.tmps, defers := [] } := by
        have h1 : Fr ⟨n.n, some (w.heap.size + 1), []⟩ l { tmps := a.tmps, defers := [] } := ⟨rfl, hf.size, hf.has⟩
        exact fr_zip (l := l) ps (enc x) h1 hbl
      have hz := zip_list ps (enc x) a.tmps
      have := wp_round (fn := fn) (tmps := (ps.zip (enc x)).foldl (fun t (p, v) => t.setIfInBounds p v) a.tmps) (assign := assign) (body := body) (m := n.n) hlr (by rw [hrec]) (by rw [hrec]) hfr.size hfr hW
        (round (w.heap.size + 1) rec pre x hc' F2 (fun b o h => hF2 b o (hF1 b o h)) hx hI)
      rw [← hz] at this
      exact this.mono fun e w' ⟨v, hl', h1, ⟨h2, hc', h3, h4⟩, h5⟩ => ⟨v, hl', h1, ⟨h2, hc', h3, h4⟩, h5⟩)
    ((w.heap.size + 1, Obj.loop rec) :: hc0) ⟨hc0, h0, rfl⟩
  refine ⟨w.heap.size + 1, [markD w.heap.size], (w.alloc markO).alloc (.loop rec), { target := .fn (.func gf) lb.toArray, args := #[.func (.yield (w.heap.size + 1)) #[] #[]] }, (w.alloc markO).alloc (.loop rec), gf,
    (.func (.yield (w.heap.size + 1)) #[] #[] :: lb).toArray, (w.alloc markO).alloc (.loop rec), ?_, ?_, fun _ _ => trivial, ?_, (by intro h; cases h), fe_calls ?_⟩
  · rw [hrec]; exact run_enterLoop_outer _ _ _ _ _
  · simp only [resolve, hf.ev hg]
    simp [go_sem, Deferred.ofValue]
  · simp [invoke, hcf.call]
  · refine (hsp _ k1).mono fun e w' ⟨v, s, he, ⟨xs, hS, hc, hI, es⟩, hh'⟩ => ?_
    subst he; subst es
    have hlr := hh'.own (w.heap.size + 1) _ List.mem_cons_self
    refine ⟨rec.pending, _, run_endLoop (P := P) hlr (by rw [hrec]; simp), ?_⟩
    have h4 : Hp (frz F (rest ++ [(w.heap.size, markO)])) hc (w'.putObj (w.heap.size + 1) (.loop { rec with state := .exhausted })) :=
      Hp.tail (Lens.putB (put := fun o' => (w.heap.size + 1, o') :: hc) ⟨[], hc, rfl, fun _ => rfl⟩ hh' _)
    have h5 : Hp F (hc ++ (rest ++ [(w.heap.size, markO)])) _ := Hp.frz_iff.2 ⟨h4, k2, k3⟩
    rw [← List.append_assoc] at h5
    have h6 := (Hp.frz_iff.1 h5).1
    have hfd : Fr ⟨n.n, n.ro, w.heap.size :: n.ds⟩ l { a with defers := [markD w.heap.size] ++ a.defers } := ⟨by simp [hf.dfr], hf.size, hf.has⟩
    split
    · exact done w.heap.size xs hc (fun o => k3 w.heap.size markO o (by simp)) hS hI _ _ hfd h6
    · rename_i hc; rw [hrec] at hc; cases hc
end
end Go.Proofs.Ytmocncadncgaaaa
