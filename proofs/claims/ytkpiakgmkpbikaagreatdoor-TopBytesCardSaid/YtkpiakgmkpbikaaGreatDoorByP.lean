/- Steps of the proof. -/
import Derived.Test.YtkpiakgmkpbikaaGreatDoorTkY
import Derived.Test.YtkpiakgmkpbikaaGreatDoorHpP
import Derived.Test.YtkpiakgmkpbikaaGreatDoorSlN
set_option linter.unusedVariables false
namespace Go.Proofs.YtkpiakgmkpbikaaGreatDoor
def usedN (fs:List (List UInt8×Fl)):Nat:=(fs.map fun p=>secs p.2.now.length).sum
theorem usedN_cons (p:List UInt8×Fl) (fs:List (List UInt8×Fl)):usedN (p::fs)=secs p.2.now.length+usedN fs:=by simp [usedN]
theorem usedN_append (a b:List (List UInt8×Fl)):usedN (a++b)=usedN a+usedN b:=by simp [usedN]
theorem usedN_perm {a b:List (List UInt8×Fl)} (h:a.Perm b):usedN a=usedN b:=by
 induction h with
 | nil=>rfl
 | cons x _ ih=>rw [usedN_cons,usedN_cons,ih]
 | swap x y l=>simp only [usedN_cons];omega
 | trans _ _ h1 h2=>exact h1.trans h2
theorem secs_mono {a b:Nat} (h:a≤b):secs a≤secs b:=by unfold secs;omega
theorem usedN_le {fs:List (List UInt8×Fl)} {B:Nat} (h:∀p∈fs,p.2.now.length≤B):usedN fs≤fs.length*secs B:=by
 induction fs with
 | nil=>simp [usedN]
 | cons p fs ih =>
  have h1:=secs_mono (h p (by simp))
  have h2:=ih fun q hq=>h q (by simp [hq])
  rw [usedN_cons,List.length_cons,Nat.add_mul]
  omega
theorem findF_some {fs:List (List UInt8×Fl)} {k:List UInt8} {f:Fl} (h:findF fs k=some f):(k,f)∈fs:=by
 unfold findF at h
 cases hx:fs.find? fun p=>decide (p.1=k) with
 | none=>rw [hx] at h;cases h
 | some p =>
  rw [hx] at h
  simp only [Option.map_some,Option.some.injEq] at h
  have h1:=List.find?_some hx
  simp only [dt] at h1
  have h2:=List.mem_of_find?_eq_some hx
  rw [←h,←h1]
  exact h2
theorem findF_mem {fs:List (List UInt8×Fl)} (hn:(fs.map (·.1)).Nodup) {k:List UInt8} {f:Fl} (h:(k,f)∈fs):findF fs k=some f:=by
 induction fs with
 | nil=>cases h
 | cons p fs ih =>
  rw [List.map_cons,List.nodup_cons] at hn
  unfold findF
  rw [List.find?_cons]
  rcases List.mem_cons.1 h with rfl | h'
  · simp
  · have hne:p.1≠k:=fun e=>hn.1 (List.mem_map.2 ⟨(k,f),h',e.symm⟩)
    simp only [hne,decide_false]
    exact ih hn.2 h'
theorem findF_perm {a b:List (List UInt8×Fl)} (h:a.Perm b) (hn:(a.map (·.1)).Nodup) (k:List UInt8):findF a k=findF b k:=by
 have hn2:(b.map (·.1)).Nodup:=((h.map _).nodup_iff).1 hn
 cases hb:findF b k with
 | some f=>exact findF_mem hn (h.mem_iff.2 (findF_some hb))
 | none =>
  cases ha:findF a k with
  | none=>rfl
  | some f=>rw [findF_mem hn2 (h.mem_iff.1 (findF_some ha))] at hb;cases hb
theorem setF_perm {a b:List (List UInt8×Fl)} (h:a.Perm b) (k:List UInt8) (f:Fl):(setF a k f).Perm (setF b k f):=h.map _
theorem setF_append (a b:List (List UInt8×Fl)) (k:List UInt8) (f:Fl):setF (a++b) k f=setF a k f++setF b k f:=List.map_append ..
theorem setF_cons_eq (k:List UInt8) (f f':Fl) (b:List (List UInt8×Fl)):setF ((k,f)::b) k f'=(k,f')::setF b k f':=by simp [setF]
theorem setF_mid {a b:List (List UInt8×Fl)} {k:List UInt8} {f f':Fl} (hn:((a++(k,f)::b).map (·.1)).Nodup):setF (a++(k,f)::b) k f'=a++(k,f')::b:=by
 rw [List.map_append,List.map_cons,List.nodup_append,List.nodup_cons] at hn
 rw [setF_append,setF_cons_eq,setF_none fun p hp e=>hn.2.2 p.1 (List.mem_map.2 ⟨p,hp,rfl⟩) k (by simp) e,setF_none fun p hp e=>hn.2.1.1 (List.mem_map.2 ⟨p,hp,e⟩)]
theorem split_of {fs:List (List UInt8×Fl)} {k:List UInt8} {f:Fl} (h:findF fs k=some f):∃a b,fs=a++(k,f)::b:=List.append_of_mem (findF_some h)
theorem usedN_set {fs:List (List UInt8×Fl)} (hn:(fs.map (·.1)).Nodup) {k:List UInt8} {f:Fl} (h:findF fs k=some f) (f':Fl):usedN (setF fs k f')+secs f.now.length=usedN fs+secs f'.now.length:=by
 obtain ⟨a,b,rfl⟩:=split_of h
 rw [setF_mid hn,usedN_append,usedN_append,usedN_cons,usedN_cons]
 show _+(secs f'.now.length+_)+_=_+(secs f.now.length+_)+_
 omega
theorem cutF_mid {a b:List (List UInt8×Fl)} {k:List UInt8} {f:Fl} (hn:((a++(k,f)::b).map (·.1)).Nodup):cutF (a++(k,f)::b) k=a++b:=by
 rw [List.map_append,List.map_cons,List.nodup_append,List.nodup_cons] at hn
 have h1:=cutF_of (fs:=a) (k:=k) fun p hp e=>hn.2.2 p.1 (List.mem_map.2 ⟨p,hp,rfl⟩) k (by simp) e
 have h2:=cutF_of (fs:=b) (k:=k) fun p hp e=>hn.2.1.1 (List.mem_map.2 ⟨p,hp,e⟩)
 unfold cutF at *
 rw [List.filter_append,h1,List.filter_cons,h2]
 simp
theorem usedN_cut {fs:List (List UInt8×Fl)} (hn:(fs.map (·.1)).Nodup) {k:List UInt8} {f:Fl} (h:findF fs k=some f):usedN (cutF fs k)+secs f.now.length=usedN fs:=by
 obtain ⟨a,b,rfl⟩:=split_of h
 rw [cutF_mid hn,usedN_append,usedN_append,usedN_cons]
 show _=_+(secs f.now.length+_)
 omega
def crL:List (List UInt8×Fl)→List Bool→List (List UInt8×Fl)×List Bool
 | [],ks=>([],ks)
 | (k,f)::r,ks =>
  let t:=tornG f.now f.synced ks (secs f.now.length)
  let q:=crL r t.2
  ((k,⟨t.1,t.1⟩)::q.1,q.2)
theorem crFold_crL:∀(ls dn:List (List UInt8×Fl)) (st:Cr),st.files.Perm (dn++ls)→((dn++ls).map (·.1)).Nodup →
 ((ls.map (·.1)).foldl crStep st).files.Perm (dn++(crL ls st.ks).1)∧((ls.map (·.1)).foldl crStep st).used=st.used+(usedN (crL ls st.ks).1:Nat)∧((ls.map (·.1)).foldl crStep st).ks=(crL ls st.ks).2
 | [],dn,st,hp,hn=>by simpa [crL,usedN] using hp
 | (k,f)::r,dn,st,hp,hn=>by
  have hnf:(st.files.map (·.1)).Nodup:=((hp.map _).nodup_iff).2 hn
  have hff:findF st.files k=some f:=findF_mem hnf (hp.mem_iff.2 (by simp))
  obtain ⟨t,ht⟩:∃t,t=tornG f.now f.synced st.ks (secs f.now.length):=⟨_,rfl⟩
  have hst:crStep st k=⟨setF st.files k ⟨t.1,t.1⟩,st.used+(secs t.1.length:Nat),t.2⟩:=by simp only [crStep,hff,Option.getD_some,←ht]
  have hp2:(crStep st k).files.Perm ((dn++[(k,⟨t.1,t.1⟩)])++r):=by
   rw [hst,lx]
   have:=setF_perm hp k ⟨t.1,t.1⟩
   rw [setF_mid hn] at this
   exact this
  have hn2:(((dn++[(k,(⟨t.1,t.1⟩:Fl))])++r).map (·.1)).Nodup:=by
   rw [lx]
   simpa using hn
  obtain ⟨h1,h2,h3⟩:=crFold_crL r (dn++[(k,⟨t.1,t.1⟩)]) (crStep st k) hp2 hn2
  rw [List.map_cons,List.foldl_cons]
  have hks:(crStep st k).ks=t.2:=by rw [hst]
  have hus:(crStep st k).used=st.used+(secs t.1.length:Nat):=by rw [hst]
  rw [hks] at h1 h2 h3
  rw [hus] at h2
  refine ⟨?_,?_,?_⟩
  · simp only [crL,←ht]
    rw [lx] at h1
    exact h1
  · rw [h2]
    simp only [crL,←ht,usedN_cons]
    omega
  · simp only [crL,←ht]
    exact h3
def inOrder (fs:List (List UInt8×Fl)):List (List UInt8×Fl):=(Go.Proofs.YtkpiakgmkpbikaaGreatDoor.sortN (fs.map (·.1))).map fun k=>(k,(findF fs k).getD ⟨[],[]⟩)
theorem inOrder_keys (fs:List (List UInt8×Fl)):(inOrder fs).map (·.1)=Go.Proofs.YtkpiakgmkpbikaaGreatDoor.sortN (fs.map (·.1)):=by
 unfold inOrder
 rw [List.map_map]
 conv=>rhs;rw [←List.map_id (Go.Proofs.YtkpiakgmkpbikaaGreatDoor.sortN (fs.map (·.1)))]
 rfl
theorem inOrder_perm {fs:List (List UInt8×Fl)} (hn:(fs.map (·.1)).Nodup):fs.Perm (inOrder fs):=by
 have h1:(Go.Proofs.YtkpiakgmkpbikaaGreatDoor.sortN (fs.map (·.1))).Perm (fs.map (·.1)):=List.mergeSort_perm _ _
 have h2:=h1.map fun k=>(k,(findF fs k).getD ⟨[],[]⟩)
 rw [List.map_map] at h2
 have h3:fs.map ((fun k=>(k,(findF fs k).getD ⟨[],[]⟩)) ∘ fun x=>x.1)=fs:=by
  conv=>rhs;rw [←List.map_id fs]
  exact List.map_congr_left fun p hp=>by
   simp only [Function.comp]
   rw [findF_mem hn (f:=p.2) hp]
   rfl
 rw [h3] at h2
 exact h2.symm
theorem crash_crL {fs:List (List UInt8×Fl)} (hn:(fs.map (·.1)).Nodup) (ks:List Bool) :
 (crFold fs ks (Go.Proofs.YtkpiakgmkpbikaaGreatDoor.sortN (fs.map (·.1)))).files.Perm (crL (inOrder fs) ks).1∧(crFold fs ks (Go.Proofs.YtkpiakgmkpbikaaGreatDoor.sortN (fs.map (·.1)))).used=(usedN (crL (inOrder fs) ks).1:Nat):=by
 have h:=crFold_crL (inOrder fs) [] ⟨fs,0,ks⟩ (inOrder_perm hn) (by rw [List.nil_append,inOrder_keys];exact ((List.mergeSort_perm _ _).nodup_iff).2 hn)
 rw [inOrder_keys] at h
 refine ⟨by simpa [crFold] using h.1,?_⟩
 have:=h.2.1
 simpa [crFold] using this
structure Dz (D:Dk):Prop where
 sz:D.files.length≤1000
 fewB:FewB D.files
 arm:D.armed≤9223372036854775807
 sz2:(beginsD D).2.files.length≤1000
 fewB2:FewB (beginsD D).2.files
 usedB:0≤(beginsD D).2.used∧(beginsD D).2.used≤100000000
theorem tornB {f:Fl} {B:Nat} (h:f.now.length≤B∧f.synced.length≤B) (ks:List Bool):(tornG f.now f.synced ks (secs f.now.length)).1.length≤B:=tornG_len h.2 h.1 _ (by unfold secs;omega)
theorem crL_few {B:Nat}:∀(ls:List (List UInt8×Fl)) (ks:List Bool),(∀p∈ls,p.2.now.length≤B∧p.2.synced.length≤B)→∀p∈(crL ls ks).1,p.2.now.length≤B∧p.2.synced.length≤B
 | [],_,_,p,hp=>by simp [crL] at hp
 | (k,f)::r,ks,h,p,hp=>by
  simp only [crL,List.mem_cons] at hp
  rcases hp with rfl | hp
  · have:=tornB (h (k,f) (by simp)) ks
    exact ⟨this,this⟩
  · exact crL_few r _ (fun q hq=>h q (by simp [hq])) p hp
theorem crash_room (ks:List Bool) (D:Dk):(crashD ks D).room=D.room∧(crashD ks D).ops=D.ops∧(crashD ks D).keep=D.keep:=by
 unfold crashD
 split<;>exact ⟨rfl,rfl,rfl⟩
theorem keys_app_nodup {fs:List (List UInt8×Fl)} {k:List UInt8} {f:Fl} (hn:(fs.map (·.1)).Nodup) (h:findF fs k=none):((fs++[(k,f)]).map (·.1)).Nodup:=by
 rw [List.map_append,List.map_cons,List.map_nil,List.nodup_append]
 refine ⟨hn,by simp,fun a ha b hb=>?_⟩
 rw [List.mem_singleton] at hb
 subst hb
 obtain ⟨p,hp,rfl⟩:=List.mem_map.1 ha
 exact findF_none h p hp
theorem cutF_nodup {fs:List (List UInt8×Fl)} {k:List UInt8} (h:(fs.map (·.1)).Nodup):((cutF fs k).map (·.1)).Nodup:=h.sublist (List.filter_sublist.map _)
abbrev Nm:=List UInt8
structure Cx where
 S:List Nm
 cap:Nat
 room:Int
structure Cx.Ok (C:Cx):Prop where
 sz:C.S.length≤1000
 cap:C.cap≤1000000
 room:((C.S.length*secs C.cap:Nat):Int)≤C.room
 few:C.S.length*secs C.cap≤100000000
 may:∀k∈C.S,mayN ⟨k.toArray⟩=true
structure Wz (C:Cx) (D:Dk):Prop where
 nodup:(D.files.map (·.1)).Nodup
 names:∀p∈D.files,p.1∈C.S
 few:∀p∈D.files,p.2.now.length≤C.cap∧p.2.synced.length≤C.cap
 used:D.used=(usedN D.files:Nat)
 room:D.room=C.room
 armed:0≤D.armed∧D.armed≤9223372036854775807
theorem nodup_sub_length {α:Type} [DecidableEq α]:∀{a b:List α},a.Nodup→(∀x∈a,x∈b)→a.length≤b.length
 | [],_,_,_=>Nat.zero_le _
 | x::a,b,hn,hs=>by
  rw [List.nodup_cons] at hn
  have h1:=nodup_sub_length (a:=a) (b:=b.erase x) hn.2 fun y hy=>by
   have hne:y≠x:=fun e=>hn.1 (by rw [←e];exact hy)
   rw [List.mem_erase_of_ne hne]
   exact hs y (by simp [hy])
  have h2:=List.length_erase_of_mem (hs x (by simp))
  have h3:=List.length_pos_of_mem (hs x (by simp))
  rw [List.length_cons]
  omega
theorem Wz.cnt {C:Cx} {D:Dk} (h:Wz C D):D.files.length≤C.S.length:=by
 have:=nodup_sub_length h.nodup (b:=C.S) fun x hx=>by obtain ⟨p,hp,rfl⟩:=List.mem_map.1 hx;exact h.names p hp
 rwa [List.length_map] at this
theorem Wz.usedLe {C:Cx} {D:Dk} (h:Wz C D):usedN D.files≤C.S.length*secs C.cap :=
 Nat.le_trans (usedN_le fun p hp=>(h.few p hp).1) (Nat.mul_le_mul_right _ h.cnt)
theorem Wz.crash {C:Cx} {D:Dk} (h:Wz C D) (ks:List Bool):Wz C (crashD ks D):=by
 unfold crashD
 split
 · exact h
 · obtain ⟨h1,h2⟩:=crash_crL h.nodup ks
   have hk:(crFold D.files ks (Go.Proofs.YtkpiakgmkpbikaaGreatDoor.sortN (D.files.map (·.1)))).files.map (·.1)=D.files.map (·.1):=crFold_keys _ _ _
   refine ⟨?_,?_,?_,?_,h.room,(show (0:Int)≤0∧(0:Int)≤9223372036854775807 by decide)⟩
   · show ((crFold D.files ks (Go.Proofs.YtkpiakgmkpbikaaGreatDoor.sortN (D.files.map (·.1)))).files.map (·.1)).Nodup
     rw [hk];exact h.nodup
   · intro p hp
     have:p.1∈D.files.map (·.1):=by rw [←hk];exact List.mem_map.2 ⟨p,hp,rfl⟩
     obtain ⟨q,hq,e⟩:=List.mem_map.1 this
     rw [←e];exact h.names q hq
   · intro p hp
     exact crL_few (inOrder D.files) ks (fun q hq=>h.few q ((inOrder_perm h.nodup).mem_iff.2 hq)) p (h1.mem_iff.1 hp)
   · show (crFold D.files ks (Go.Proofs.YtkpiakgmkpbikaaGreatDoor.sortN (D.files.map (·.1)))).used=(usedN (crFold D.files ks (Go.Proofs.YtkpiakgmkpbikaaGreatDoor.sortN (D.files.map (·.1)))).files:Nat)
     rw [h2,usedN_perm h1]
theorem Wz.begins {C:Cx} {D:Dk} (h:Wz C D):Wz C (beginsD D).2:=by
 have h2:=h.armed
 have hb:∀a:Int,0≤a∧a≤9223372036854775807→Wz C { D with ops:=IntKind.i64.wrap (D.ops+1),armed:=a }:=fun a ha=>⟨h.nodup,h.names,h.few,h.used,h.room,ha⟩
 simp only [beginsD]
 split
 · split
   · exact (hb 0 ⟨Int.le_refl _,by decide⟩).crash _
   · exact hb (D.armed-1) ⟨by omega,by omega⟩
 · exact hb D.armed h2
theorem Wz.dz {C:Cx} {D:Dk} (hC:C.Ok) (h:Wz C D):Dz D:=by
 have hb:=h.begins
 have c1:=h.cnt
 have c2:=hb.cnt
 have c3:=hC.sz
 have u:=hb.usedLe
 have u2:=hC.few
 exact ⟨by omega,fun p hp=>⟨Nat.le_trans (h.few p hp).1 hC.cap,Nat.le_trans (h.few p hp).2 hC.cap⟩,h.armed.2,by omega,fun p hp=>⟨Nat.le_trans (hb.few p hp).1 hC.cap,Nat.le_trans (hb.few p hp).2 hC.cap⟩,by rw [hb.used];omega⟩
theorem Wz.up {C:Cx} {D:Dk} (h:Wz C D) (b:Bool):Wz C { D with down:=b }:=⟨h.nodup,h.names,h.few,h.used,h.room,h.armed⟩
theorem Wz.new (C:Cx):Wz C ⟨[],C.room,0,0,0,[],false⟩:=⟨.nil,fun p hp=>(by cases hp),fun p hp=>(by cases hp),rfl,rfl,(show (0:Int)≤0∧(0:Int)≤9223372036854775807 by decide)⟩
theorem Wz.find {C:Cx} {D:Dk} (h:Wz C D) {k:Nm} {f:Fl} (hf:findF D.files k=some f):f.now.length≤C.cap∧f.synced.length≤C.cap:=h.few (k,f) (findF_some hf)
theorem Wz.findS {C:Cx} {D:Dk} (h:Wz C D) {k:Nm} {f:Fl} (hf:findF D.files k=some f):k∈C.S:=h.names (k,f) (findF_some hf)
theorem findF_cons (q:Nm) (g:Fl) (fs:List (List UInt8×Fl)) (k:Nm):findF ((q,g)::fs) k=if q=k then some g else findF fs k:=by
 unfold findF
 rw [List.find?_cons]
 by_cases h:q=k<;>simp [h]
theorem findF_snoc (fs:List (List UInt8×Fl)) (q:Nm) (g:Fl) (k:Nm):findF (fs++[(q,g)]) k=match findF fs k with | some f=>some f | none=>if q=k then some g else none:=by
 induction fs with
 | nil=>rw [List.nil_append,findF_cons];rfl
 | cons p fs ih =>
  obtain ⟨a,b⟩:=p
  rw [List.cons_append,findF_cons,findF_cons,ih]
  by_cases h:a=k
  · rw [if_pos h,if_pos h]
  · rw [if_neg h,if_neg h]
theorem findF_setNe {fs:List (List UInt8×Fl)} {k k':Nm} {f':Fl} (h:k'≠k):findF (setF fs k f') k'=findF fs k':=by
 induction fs with
 | nil=>rfl
 | cons p fs ih =>
  obtain ⟨a,b⟩:=p
  have e:setF ((a,b)::fs) k f'=(if a=k then (k,f') else (a,b))::setF fs k f':=rfl
  rw [e,findF_cons]
  by_cases ha:a=k
  · rw [if_pos ha,findF_cons,if_neg (fun e=>h e.symm),if_neg (fun e=>h (e.symm.trans ha)),ih]
  · rw [if_neg ha,findF_cons,ih]
def Kept (a b:Option Fl):Prop:=match a with
 | none=>b=none
 | some f=>∃f',b=some f'∧(f.now=f.synced→f'=f)
theorem Kept.refl (a:Option Fl):Kept a a:=by
 cases a with
 | none=>rfl
 | some f=>exact ⟨f,rfl,fun _=>rfl⟩
theorem Kept.trans {a b c:Option Fl} (h1:Kept a b) (h2:Kept b c):Kept a c:=by
 cases a with
 | none=>simp only [Kept] at h1;subst h1;exact h2
 | some f =>
  obtain ⟨f',rfl,h⟩:=h1
  obtain ⟨f'',rfl,h'⟩:=h2
  exact ⟨f'',rfl,fun e=>by
   obtain rfl:=h e
   exact h' e⟩
structure Gd (T:Nm→Prop) (D D':Dk):Prop where
 up0:D.down=false
 up:D'.down=false
 calm:D.armed=0→D'.armed=0
 same:∀k,¬T k→findF D'.files k=findF D.files k
structure Dn (T:Nm→Prop) (D D':Dk):Prop where
 dn:D'.down=true
 why : ¬(D.armed=0∧D.down=false)
 kept:∀k,¬T k→Kept (findF D.files k) (findF D'.files k)
abbrev none1:Nm→Prop:=fun _=>False
theorem Gd.refl {T:Nm→Prop} {D:Dk} (h:D.down=false):Gd T D D:=⟨h,h,id,fun _ _=>rfl⟩
theorem Gd.trans {T:Nm→Prop} {D D' D'':Dk} (h:Gd T D D') (h':Gd T D' D''):Gd T D D'':=⟨h.up0,h'.up,fun e=>h'.calm (h.calm e),fun k hk=>(h'.same k hk).trans (h.same k hk)⟩
theorem Gd.dn {T:Nm→Prop} {D D' D'':Dk} (h:Gd T D D') (h':Dn T D' D''):Dn T D D'' :=
 ⟨h'.dn,fun e=>h'.why ⟨h.calm e.1,h.up⟩,fun k hk=>by rw [←h.same k hk];exact h'.kept k hk⟩
theorem Gd.mono {T T':Nm→Prop} {D D':Dk} (h:Gd T D D') (hT:∀k,T k→T' k):Gd T' D D':=⟨h.up0,h.up,h.calm,fun k hk=>h.same k fun e=>hk (hT k e)⟩
theorem Dn.mono {T T':Nm→Prop} {D D':Dk} (h:Dn T D D') (hT:∀k,T k→T' k):Dn T' D D':=⟨h.dn,h.why,fun k hk=>h.kept k fun e=>hk (hT k e)⟩
theorem Gd.any {T:Nm→Prop} {D D':Dk} (h:Gd none1 D D'):Gd T D D':=h.mono fun _ h=>h.elim
theorem Dn.any {T:Nm→Prop} {D D':Dk} (h:Dn none1 D D'):Dn T D D':=h.mono fun _ h=>h.elim
theorem Dn.after {T:Nm→Prop} {D D' D'':Dk} (h:Dn T D D') (h':Dn T D' D''):Dn T D D'':=⟨h'.dn,h.why,fun k hk=>(h.kept k hk).trans (h'.kept k hk)⟩
theorem piece_all (t:List UInt8) (i:Nat):sameSec t t i=true:=by
 unfold sameSec secTo
 rw [decide_eq_true (Nat.min_le_right _ _),decide_eq_true rfl]
 rfl
theorem torn_same (t:List UInt8) (ks:List Bool):∀n,tornG t t ks n=(t,ks)
 | 0=>rfl
 | n+1=>by rw [tornG_succ,torn_same t ks n,tornStep,if_pos (piece_all t n)]
theorem crL_find:∀(ls:List (List UInt8×Fl)) (ks:List Bool) (k:Nm),Kept (findF ls k) (findF (crL ls ks).1 k)
 | [],_,_=>rfl
 | (k',f)::r,ks,k=>by
  have e1:findF ((k',f)::r) k=if k'=k then some f else findF r k:=by
   unfold findF
   rw [List.find?_cons]
   by_cases h:k'=k<;>simp [h]
  simp only [crL]
  have e2:∀(f':Fl) (q:List (List UInt8×Fl)),findF ((k',f')::q) k=if k'=k then some f' else findF q k:=fun f' q=>by
   unfold findF
   rw [List.find?_cons]
   by_cases h:k'=k<;>simp [h]
  rw [e1,e2]
  by_cases h:k'=k
  · rw [if_pos h,if_pos h]
    refine ⟨_,rfl,fun e=>?_⟩
    obtain ⟨now,sy⟩:=f
    simp only at e
    subst e
    rw [torn_same]
  · rw [if_neg h,if_neg h]
    exact crL_find r _ k
theorem crash_kept {D:Dk} (hn:(D.files.map (·.1)).Nodup) (ks:List Bool) (k:Nm):Kept (findF D.files k) (findF (crashD ks D).files k):=by
 unfold crashD
 split
 · exact Kept.refl _
 · obtain ⟨h1,h2⟩:=crash_crL hn ks
   have hk:(crFold D.files ks (Go.Proofs.YtkpiakgmkpbikaaGreatDoor.sortN (D.files.map (·.1)))).files.map (·.1)=D.files.map (·.1):=crFold_keys _ _ _
   show Kept _ (findF (crFold D.files ks (Go.Proofs.YtkpiakgmkpbikaaGreatDoor.sortN (D.files.map (·.1)))).files k)
   rw [findF_perm h1 (by rw [hk];exact hn),findF_perm (inOrder_perm hn) hn]
   exact crL_find _ _ _
theorem crash_down (ks:List Bool) (D:Dk):(crashD ks D).down=true:=by
 unfold crashD
 split
 · assumption
 · rfl
theorem begins_z {C:Cx} {D:Dk} (h:Wz C D):((beginsD D).1=0∧Gd none1 D (beginsD D).2∧(beginsD D).2.files=D.files∧(beginsD D).2.used=D.used∧(beginsD D).2.room=D.room)∨((beginsD D).1=7∧Dn none1 D (beginsD D).2):=by
 have hkk:∀(a o:Int) (k:Nm),Kept (findF D.files k) (findF (crashD D.keep { D with ops:=o,armed:=a }).files k):=fun a o k=>crash_kept (D:={ D with ops:=o,armed:=a }) h.nodup _ k
 have hgd:∀(a o:Int),D.down=false→(D.armed=0→a=0)→Gd none1 D { D with ops:=o,armed:=a }:=fun a o hd ha=>⟨hd,hd,ha,fun _ _=>rfl⟩
 have hcr:∀(a o:Int),D.down=true→Dn none1 D { D with ops:=o,armed:=a }:=fun a o hd=>⟨hd,fun e=>by rw [hd] at e;exact absurd e.2 (by decide),fun k _=>Kept.refl _⟩
 simp only [beginsD]
 split
 · next h1 =>
   split
   · refine .inr ⟨?_,?_⟩
     · rw [if_pos (crash_down _ _)]
     · exact ⟨crash_down _ _,fun e=>by omega,fun k _=>hkk _ _ k⟩
   · rcases Bool.eq_false_or_eq_true D.down with hd | hd
     · exact .inr ⟨by show (if D.down=true then (7:Int) else 0)=7;rw [hd];rfl,hcr _ _ hd⟩
     · exact .inl ⟨by show (if D.down=true then (7:Int) else 0)=0;rw [hd];rfl,hgd (D.armed-1) _ hd (fun e=>by omega),rfl,rfl,rfl⟩
 · rcases Bool.eq_false_or_eq_true D.down with hd | hd
   · exact .inr ⟨by show (if D.down=true then (7:Int) else 0)=7;rw [hd];rfl,hcr D.armed _ hd⟩
   · exact .inl ⟨by show (if D.down=true then (7:Int) else 0)=0;rw [hd];rfl,hgd D.armed _ hd id,rfl,rfl,rfl⟩
theorem restartD_spec {F:Fm} {db:Nat} {D:Dk} {s:Hl} (hD:DiskAt db D s):Spec Tryz.prog 30 #[.pointer (some ⟨db,0,none⟩)] F s fun _ s'=>DiskAt db { D with down:=false } s':=by
 obtain ⟨mb,mc,ms,hf,kv,sk,hfl,hn,hbn,hold,own,hp⟩:=hD
 refine Spec.perm ?_ hp
 refine Spec.of (n:=6) (vs:=[.pointer (some ⟨db,0,none⟩)]) Tryz.func30 rfl Tryz.ntmps30 rfl ?_
 refine tj [.p,.p,.p,.e] Z<|mj Z<|nj Z<|fj Z ?_
 refine Rg.callH Z Z Z (mz Z) (fun F' hF'=>bstore_spec (mb:=mb) (room:=D.room) (used:=D.used) (ops:=D.ops) (armed:=D.armed) (keep:=kv) (down:=D.down) false) Z ?_
 rintro v5 _ rfl
 refine nl ?_
 exact Vc.fin (Vc.retsH rfl .nil ((show DiskAt db { D with down:=false } ((db,dkO mb D.room D.used D.ops D.armed kv false)::(mb,mapO kS ms mc)::(hf++sk)) from ⟨mb,mc,ms,hf,kv,sk,hfl,hn,hbn,hold,own,.refl _⟩)) pulled)
theorem Spec.frame {P:Program} {f:Nat} {args:Array Value} {F:Fm} {h1 rest:Hl} {post:Value→Hl→Prop} (h:Spec P f args (frz F rest) h1 post):Spec P f args F (h1++rest) fun v s=>∃s1,post v s1∧s=s1++rest:=fun w hw=>by
 obtain ⟨k1,k2,k3⟩:=Hp.frz_iff.1 hw
 exact (h w k1).mono fun e w' ⟨v,hl',he,hpost,hh⟩=>⟨v,hl'++rest,he,⟨hl',hpost,rfl⟩,Hp.frz_iff.2 ⟨hh,k2,k3⟩⟩
theorem crashD_spec {F:Fm} {db:Nat} {D:Dk} {s:Hl} (hD:DiskAt db D s) (hw:Dz D) {kv:Value} {ks:List Bool} (hk:Arg boolE F kv ks) :
 Spec Tryz.prog 20 #[.pointer (some ⟨db,0,none⟩),kv] F s fun _ s'=>DiskAt db (crashD ks D) s':=by
 obtain ⟨kv0,sk,h0,hD0,own,hp⟩:=hD.parts
 refine (Spec.perm (Spec.frame (crash_spec (F:=frz F sk) hD0 (hk.mono fun b o h=>Or.inr h) hw.sz hw.fewB)) hp).mono fun v s ⟨s1,h1,e⟩=>?_
 subst e
 exact DiskAt.mk h1 (by rw [(crash_room ks D).2.2];exact own) (.refl _)
theorem findF_cut {fs:List (List UInt8×Fl)} {k k':List UInt8} (h:k≠k'):findF (cutF fs k') k=findF fs k:=by
 unfold findF cutF
 rw [List.find?_filter]
 congr 2
 funext p
 by_cases e:p.1=k
 · simp [e,h]
 · simp [e]
def renameD (D:Dk) (k to:List UInt8):Int×Dk:=if (beginsD D).1=7 then (7,(beginsD D).2) else match findF (beginsD D).2.files k with
 | .none=>(4,(beginsD D).2)
 | .some f=>if mayN ⟨to.toArray⟩=false then (1,(beginsD D).2) else if k=to then (0,(beginsD D).2)
  else (0,{ goneD (beginsD D).2 to with files:=cutF (goneD (beginsD D).2 to).files k++[(to,f)] })
theorem goneD_find {D:Dk} {k to:List UInt8} (h:k≠to):findF (goneD D to).files k=findF D.files k:=by
 unfold goneD
 split
 · rfl
 · exact findF_cut h
theorem goneD_none {D:Dk} {to:List UInt8}:findF (goneD D to).files to=none:=by
 unfold goneD
 split
 · assumption
 · show findF (cutF D.files to) to=none
   unfold findF cutF
   rw [List.find?_filter,Option.map_eq_none_iff,List.find?_eq_none]
   intro p hp
   simp
theorem findF_none_cut {fs:List (List UInt8×Fl)} {k k':List UInt8} (h:findF fs k=none):findF (cutF fs k') k=none:=by
 by_cases e:k=k'
 · subst e
   unfold findF cutF
   rw [List.find?_filter,Option.map_eq_none_iff,List.find?_eq_none]
   intro p hp
   simp
 · rw [findF_cut e];exact h
theorem kS_ne {a b:List UInt8}:((⟨a.toArray⟩:ByteArray)=⟨b.toArray⟩)↔a=b:=⟨fun h=>by simpa using h,fun h=>by rw [h]⟩
theorem rename_spec {F:Fm} {db:Nat} {D:Dk} {s:Hl} (hD:DiskAt db D s) (hw:Dz D) (k to:List UInt8) :
 Spec Tryz.prog 232 #[.pointer (some ⟨db,0,Option.none⟩),kS k,kS to] F s fun v s'=>v=.int .i64 (renameD D k to).1∧DiskAt db (renameD D k to).2 s':=by
 have hub:=hw.usedB
 refine Spec.of (n:=41) (vs:=[.pointer (some ⟨db,0,Option.none⟩),kS k,kS to]) Tryz.func232 rfl Tryz.ntmps232 rfl ?_
 refine sj [.p] Z<|aj Z<|nl<|sj [.p,.p,.e,.p,.p,.p,.p,.p] Z<|mj Z<|mj Z<|Rg.callH Z Z Z (mz Z) (fun F' hF'=>on_spec (F:=F') hD hw.sz hw.fewB hw.arm k) Z ?_
 rintro _ s12 ⟨p,e,rfl,hcase⟩
 refine mj Z<|xj Z Z<|xj Z Z<|aj Z<|aj Z<|nl<|wj<|bj<|sj [.p,.p,.p] Z<|mj Z<|uj Z (Pv.neq Z Z)<|aj Z<|nl<|cj Z (fun h15=>?_) (fun h15=>?_)
 · simp only [bne_iff_ne,ne_eq] at h15
   have hres:renameD D k to=(e,(beginsD D).2)∧DiskAt db (beginsD D).2 s12:=by
    rcases hcase with ⟨h1,rfl,h2⟩ | ⟨h1,rfl,h2,h3⟩ | ⟨_,h2,_⟩
    · exact ⟨by rw [renameD,if_pos h1],h2⟩
    · exact ⟨by rw [renameD,if_neg (by omega),h2],h3⟩
    · exact absurd h2 h15
   refine sj [.p,.p] Z<|mj Z<|aj Z<|nl ?_
   exact vr rfl (tz Z) (⟨by rw [hres.1];rfl,by rw [hres.1];exact hres.2⟩) pulled
 · simp only [bne_eq_false_iff_eq] at h15
   subst h15
   obtain ⟨hb0,_,fb,rfl,hfo⟩:=(hcase.resolve_left (fun h=>by cases h.2.1)).resolve_left (fun h=>by cases h.2.1)
   have hat:=hfo.at
   obtain ⟨mb,mc,ms,kv,m,f,hM,hmm,hmk,hmv,hff⟩:=hfo.m
   have hrd:renameD D k to=if mayN ⟨to.toArray⟩=false then (1,(beginsD D).2) else if k=to then (0,(beginsD D).2) else (0,{ goneD (beginsD D).2 to with files:=cutF (goneD (beginsD D).2 to).files k++[(to,f)] }):=by rw [renameD,if_neg (by omega),hff]
   refine sj [.p,.e,.p,.p] Z<|mj Z<|Rg.callP Z Z Z (mz Z) (may_spec _ ⟨to.toArray⟩) ?_
   rintro _ rfl
   refine uj Z (Pv.not Z)<|aj Z<|nl<|cj Z (fun h19=>?_) (fun h19=>?_)
   · simp only [Bool.not_eq_true'] at h19
     refine sj [.p] Z<|aj Z<|nl ?_
     exact vr rfl (tz Z) (⟨by rw [hrd,if_pos h19];rfl,by rw [hrd,if_pos h19];exact hat⟩) pulled
   · simp only [Bool.not_eq_false'] at h19
     rw [if_neg (by rw [h19];decide)] at hrd
     refine sj [.p,.p,.p,.p] Z<|mj Z<|mj Z<|uj Z (Pv.eqlS Z Z)<|aj Z<|nl<|cj Z (fun h23=>?_) (fun h23=>?_)
     · simp only [dt] at h23
       rw [kS_ne] at h23
       refine sj [.p] Z<|aj Z<|nl ?_
       exact vr rfl (tz Z) (⟨by rw [hrd,if_pos h23];rfl,by rw [hrd,if_pos h23];exact hat⟩) pulled
     · simp only [df] at h23
       rw [kS_ne] at h23
       rw [if_neg h23] at hrd
       refine kj<|dj<|sj [.p,.p,.e] Z<|mj Z<|mj Z<|Rg.callH Z Z Z (mz Z) (fun F' hF'=>gone_spec (F:=F') hM hw.fewB2 (by omega) to) rfl ?_
       rintro v29 s29 hM29
       obtain ⟨hf,sk,hfl,hn,hbn,hold,own,hp⟩:=hM29
       have hmm2:m∈cutM ms to:=List.mem_filter.2 ⟨hmm,by simpa [hmk] using h23⟩
       obtain ⟨fb2,f2,vn,vs,s1,s2,rest,hmv2,hff2,hperm,o1,o2,hc⟩:=hfl.pick hn hmm2
       rw [hmv] at hmv2
       cases hmv2
       rw [hmk,goneD_find h23,hff] at hff2
       cases hff2
       rw [hmk] at hc
       have hno:∀x∈cutM (cutM ms to) k,x.k≠to:=fun x hx=>by simpa using (List.mem_filter.1 (List.mem_filter.1 hx).1).2
       refine nl<|wj<|Vc.perm ((List.Perm.of_eq (List.append_nil s29)).trans hp)<|tj [.p,.p,.p,.r,.p,.e] Z<|mj Z<|nj Z<|fj Z<|lj Z Z<|mj Z ?_
       refine Rg.mapDel (ms:=cutM ms to) (k:=k) Z Z Z Z Z ⟨m,hmm2,hmk⟩ hn Z<|nl<|sj [.p,.p,.p,.r,.p,.p,.e] Z<|mj Z<|nj Z<|fj Z<|lj Z Z<|mj Z<|mj Z ?_
       refine Rg.mapPut (ms:=cutM (cutM ms to) k) (k:=to) Z Z Z Z Z Z hno (cutM_keys hn) Z<|nl<|sj [.p] Z<|aj Z<|nl ?_
       exact Vc.ret (Vc.retsH rfl (tz Z) (⟨by rw [hrd];rfl,(show DiskAt db (renameD D k to).2 ((db,dkO mb (goneD (beginsD D).2 to).room (goneD (beginsD D).2 to).used (goneD (beginsD D).2 to).ops (goneD (beginsD D).2 to).armed kv (goneD (beginsD D).2 to).down)::(mb,mapO kS (cutM (cutM ms to) k++[⟨to,.pointer (some ⟨fb,0,Option.none⟩),mc⟩]) (mc+1))::(hf++sk)) from by
        rw [hrd]
        obtain ⟨hf',hpf,hfl'⟩:=hc.snoc (k:=to) (f:=f) (b:=fb) (born:=mc) (vn:=vn) (vs:=vs) o1 o2
        refine ⟨mb,mc+1,_,hf',kv,sk,hfl',?_,?_,?_,own,?_⟩
        · rw [List.map_append,List.map_cons,List.map_nil,List.nodup_append]
          exact ⟨cutM_keys hn,by simp,fun a ha' b hb'=>by
           obtain ⟨x,hx,rfl⟩:=List.mem_map.1 ha'
           rw [List.mem_singleton] at hb'
           subst hb'
           exact hno x hx⟩
        · rw [List.map_append,List.map_cons,List.map_nil,List.nodup_append]
          exact ⟨cutM_born hbn,by simp,fun a ha' b hb'=>by
           obtain ⟨x,hx,rfl⟩:=List.mem_map.1 ha'
           rw [List.mem_singleton] at hb'
           subst hb'
           have:=cutM_old hold x hx
           omega⟩
        · intro x hx
          rcases List.mem_append.1 hx with h | h
          · have:=cutM_old hold x h
            omega
          · rw [List.mem_singleton] at h
            subst h
            exact Nat.lt_succ_self mc
        · exact (((hperm.trans hpf.symm).append_right sk).cons _).cons _)⟩) pulled)
def listD (D:Dk):List (List UInt8)×Int:=if (beginsD D).1=7 then ([],7) else (Go.Proofs.YtkpiakgmkpbikaaGreatDoor.sortN ((beginsD D).2.files.map (·.1)),0)
theorem list_spec {F:Fm} {db:Nat} {D:Dk} {s:Hl} (hD:DiskAt db D s) (hw:Dz D) :
 Spec Tryz.prog 70 #[.pointer (some ⟨db,0,Option.none⟩)] F s fun v s'=>∃u s1 s2,v=.tuple #[u,.int .i64 (listD D).2]∧Own strE u (listD D).1 s1∧DiskAt db (beginsD D).2 s2∧s'=s1++s2:=by
 have hcl:=hw.sz2
 refine Spec.of (n:=16) (vs:=[.pointer (some ⟨db,0,Option.none⟩)]) Tryz.func70 rfl Tryz.ntmps70 rfl ?_
 refine sj [.p,.p] Z<|aj Z<|aj Z<|nl<|wj<|sj [.p,.e,.p] Z<|mj Z<|Rg.callH Z Z Z (mz Z) (fun F' hF'=>begins_spec (F:=F') hD hw.sz hw.fewB hw.arm) Z ?_
 rintro _ s6 ⟨rfl,hD6⟩
 have hb70:(beginsD D).1=7∨(beginsD D).1=0:=by show (if _ then 7 else 0:Int)=7∨(if _ then 7 else 0:Int)=0;split<;>simp
 refine aj Z<|nl<|sj [.p,.p] Z<|mj Z<|uj Z (Pv.neq Z Z)<|nl<|cj Z (fun h8=>?_) (fun h8=>?_)
 · simp only [bne_iff_ne,ne_eq] at h8
   have hb7:=hb70.resolve_right h8
   refine sj [.p,.p,.p] Z<|mj Z<|aj Z<|aj Z<|nl ?_
   exact vr rfl (.cons (.tmp rfl) (tz Z)) (⟨.slice Option.none 0 0,[],s6,by rw [listD,if_pos hb7,hb7];rfl,by rw [listD,if_pos hb7];exact .nil,hD6,rfl⟩) pulled
 · simp only [bne_eq_false_iff_eq] at h8
   obtain ⟨mb,mc,ms,hf,kv,sk,hfl,hn,hbn,hold,own,hp⟩:=hD6
   have hml:ms.length≤1000:=by have:=congrArg List.length hfl.keys;simp at this;omega
   refine Vc.perm ((List.Perm.of_eq (List.append_nil s6)).trans hp)<|kj<|sj [.p,.p,.p,.r,.e,.e,.p,.p] Z<|mj Z<|nj Z<|fj Z<|lj Z Z ?_
   refine Rg.callA Z Z Z (mz Z) keysF_spec ?_
   rintro _ _ ⟨bx,rfl,rfl⟩
   refine Rg.callH Z Z Z (mz Z) (fun F' hF'=>sortedS_spec (F:=F') (Sp:=fun pre=>pre.length≤ms.length) (S:=fun ys=>ys.Perm (ms.map (·.k))) (lb:=[.pointer (some ⟨bx,0,Option.none⟩)]) (hi:=[(bx,cellsO [.map (some mb)] 93)]) (fun F'' h=>keys_iter (h _ _ (hF' mb _ (.inl (by simp)))) hold hbn) (fun pre x h=>by simp at h;omega) (fun ys h=>by have:=h.length_eq;simp at this;omega)) rfl ?_
   rintro v15 s15 ⟨ys,hys,own15⟩
   have hsn:Go.Proofs.YtkpiakgmkpbikaaGreatDoor.sortN ys=Go.Proofs.YtkpiakgmkpbikaaGreatDoor.sortN ((beginsD D).2.files.map (·.1)):=sortN_perm (by rw [←hfl.keys];exact hys)
   rw [hsn] at own15
   refine aj Z<|aj Z<|nl ?_
   exact vr rfl (.cons (.tmp rfl) (tz Z)) (⟨v15,s15,_,by rw [listD,if_neg (by omega)];rfl,by rw [listD,if_neg (by omega)];exact own15,(show DiskAt db (beginsD D).2 ((db,dkO mb (beginsD D).2.room (beginsD D).2.used (beginsD D).2.ops (beginsD D).2.armed kv (beginsD D).2.down)::(mb,mapO kS ms mc)::(hf++sk)) from ⟨mb,mc,ms,hf,kv,sk,hfl,hn,hbn,hold,own,.refl _⟩),rfl⟩) pulled
def Out (C:Cx) (T:Nm→Prop) (P:Dk→Prop) (D:Dk) (c e:Int) (D':Dk):Prop:=Wz C D'∧((e=c∧Gd T D D'∧P D')∨(e=7∧Dn T D D'))
section
variable {C : Cx} {T : Nm → Prop} {P : Dk → Prop} {D D' : Dk} {c e : Int}
theorem Out.wz (h:Out C T P D c e D'):Wz C D':=h.1
theorem Out.good (h:Out C T P D c e D') (he:e≠7):e=c∧Gd T D D'∧P D':=h.2.resolve_right fun x=>he x.1
theorem Out.bad (h:Out C T P D c e D') (he:e≠c):e=7∧Dn T D D':=h.2.resolve_left fun x=>he x.1
theorem Out.code (h:Out C T P D c e D'):e=c∨e=7:=h.2.imp (·.1) (·.1)
end
section
variable {C : Cx} {D : Dk} {k : Nm}
theorem createD_z (hw:Wz C D) (hk:k∈C.S) (hm:mayN ⟨k.toArray⟩=true) (hf:findF D.files k=none):Out C (· = k) (fun D'=>findF D'.files k=some ⟨[],[]⟩) D 0 (createD D k).1 (createD D k).2:=by
 have hb:=hw.begins
 rcases begins_z hw with ⟨h0,hg,hfs,hu,hr⟩ | ⟨h7,hc⟩
 · have he:createD D k=(0,{ (beginsD D).2 with files:=(beginsD D).2.files++[(k,⟨[],[]⟩)] }):=by
    rw [createD,if_neg (by omega),if_neg (by rw [hm];decide),hfs,hf]
   rw [he]
   have hfb:findF (beginsD D).2.files k=none:=by rw [hfs];exact hf
   refine ⟨⟨keys_app_nodup hb.nodup hfb,fun p hp=>?_,fun p hp=>?_,?_,hb.room,hb.armed⟩,.inl ⟨rfl,⟨hg.up0,hg.up,hg.calm,fun k' hk'=>?_⟩,?_⟩⟩
   · rcases List.mem_append.1 hp with hp | hp
     · exact hb.names p hp
     · rw [List.mem_singleton] at hp;subst hp;exact hk
   · rcases List.mem_append.1 hp with hp | hp
     · exact hb.few p hp
     · rw [List.mem_singleton] at hp;subst hp;exact ⟨Nat.zero_le _,Nat.zero_le _⟩
   · show (beginsD D).2.used=(usedN ((beginsD D).2.files++[(k,⟨[],[]⟩)]):Nat)
     rw [usedN_append,hb.used]
     show _=((_+(secs 0+0):Nat):Int)
     have:secs 0=0:=rfl
     omega
   · show findF ((beginsD D).2.files++[(k,⟨[],[]⟩)]) k'=_
     rw [findF_snoc,←hg.same k' (fun h=>h.elim)]
     cases findF (beginsD D).2.files k' with
     | some f=>rfl
     | none=>rw [if_neg (fun e=>hk' e.symm)]
   · show findF ((beginsD D).2.files++[(k,⟨[],[]⟩)]) k=_
     rw [findF_snoc,hfb,if_pos rfl]
 · have he:createD D k=(7,(beginsD D).2):=by rw [createD,if_pos h7]
   rw [he]
   exact ⟨hb,.inr ⟨rfl,hc.any⟩⟩
theorem Wz.set (h:Wz C D) {f f':Fl} (hf:findF D.files k=some f) (h1:f'.now.length≤C.cap∧f'.synced.length≤C.cap) (u:Int) (hu:u=D.used+(secs f'.now.length-secs f.now.length:Int)):Wz C { D with files:=setF D.files k f',used:=u }:=by
 refine ⟨?_,?_,?_,?_,h.room,h.armed⟩
 · show ((setF D.files k f').map (·.1)).Nodup
   rw [setF_keys];exact h.nodup
 · intro p hp
   obtain ⟨q,hq,rfl⟩:=List.mem_map.1 hp
   split
   · exact h.findS hf
   · exact h.names q hq
 · intro p hp
   obtain ⟨q,hq,rfl⟩:=List.mem_map.1 hp
   split
   · exact h1
   · exact h.few q hq
 · show u=(usedN (setF D.files k f'):Nat)
   have:=usedN_set h.nodup hf f'
   rw [hu,h.used]
   omega
theorem findF_set {fs:List (List UInt8×Fl)} {k k':Nm} {f f':Fl} (hf:findF fs k=some f):findF (setF fs k f') k'=if k'=k then some f' else findF fs k':=by
 induction fs with
 | nil=>cases hf
 | cons p fs ih =>
  obtain ⟨q,g⟩:=p
  rw [findF_cons] at hf
  have e:setF ((q,g)::fs) k f'=(if q=k then (k,f') else (q,g))::setF fs k f':=rfl
  rw [e]
  by_cases hq:q=k
  · subst hq
    rw [if_pos rfl,findF_cons]
    by_cases hk:k'=q
    · subst hk;simp
    · rw [if_neg (fun e=>hk e.symm),if_neg hk,findF_cons,if_neg (fun e=>hk e.symm)]
      exact findF_setNe hk
  · rw [if_neg hq] at hf
    rw [if_neg hq,findF_cons,findF_cons]
    by_cases hk:q=k'
    · subst hk;rw [if_pos rfl,if_neg hq,if_pos rfl]
    · rw [if_neg hk,if_neg hk];exact ih hf
theorem writeD_z (hC:C.Ok) (hw:Wz C D) {f:Fl} (hf:findF D.files k=some f) (bs:List UInt8) (hl:f.now.length+bs.length≤C.cap):Out C (· = k) (fun D'=>findF D'.files k=some ⟨f.now++bs,f.synced⟩) D 0 (writeD D k none bs).1 (writeD D k none bs).2:=by
 have hb:=hw.begins
 rcases begins_z hw with ⟨h0,hg,hfs,hu,hr⟩ | ⟨h7,hc⟩
 · have hfb:findF (beginsD D).2.files k=some f:=by rw [hfs];exact hf
   have hfew:=hb.find hfb
   have hput:putAt f.now f.now.length bs=f.now++bs:=by simp [putAt]
   have hm:max f.now.length (f.now.length+bs.length)=(f.now++bs).length:=by rw [ly];omega
   have hset:=hb.set (f':=⟨f.now++bs,f.synced⟩) hfb ⟨by rw [ly];exact hl,hfew.2⟩ _ rfl
   have hus:=hset.usedLe
   have hus2:=hset.used
   have hroom:=hC.room
   have hbr:=hb.room
   have hwr:wrG (beginsD D).2.room (beginsD D).2.used f.now ((f.now.length:Nat):Int) bs=(0,(beginsD D).2.used+((secs (f.now++bs).length:Int)-(secs f.now.length:Int)),f.now++bs):=by
    unfold wrG
    rw [if_neg (by omega),Int.toNat_natCast,hm,if_neg,hput]
    simp only at hus hus2
    omega
   have he:writeD D k none bs=(0,{ (beginsD D).2 with files:=setF (beginsD D).2.files k ⟨f.now++bs,f.synced⟩,used:=(beginsD D).2.used+((secs (f.now++bs).length:Int)-(secs f.now.length:Int)) }):=by
    rw [writeD,if_neg (by omega),hfb]
    simp only [Option.getD_none,hwr]
   rw [he]
   refine ⟨hset,.inl ⟨rfl,⟨hg.up0,hg.up,hg.calm,fun k' hk'=>?_⟩,?_⟩⟩
   · show findF (setF (beginsD D).2.files k _) k'=_
     rw [findF_set hfb,if_neg hk',hg.same k' (fun h=>h.elim)]
   · show findF (setF (beginsD D).2.files k _) k=_
     rw [findF_set hfb,if_pos rfl]
 · have he:writeD D k none bs=(7,(beginsD D).2):=by rw [writeD,if_pos h7]
   rw [he]
   exact ⟨hb,.inr ⟨rfl,hc.any⟩⟩
theorem syncD_z (hw:Wz C D) {f:Fl} (hf:findF D.files k=some f):Out C (· = k) (fun D'=>findF D'.files k=some ⟨f.now,f.now⟩) D 0 (syncD D k).1 (syncD D k).2:=by
 have hb:=hw.begins
 rcases begins_z hw with ⟨h0,hg,hfs,hu,hr⟩ | ⟨h7,hc⟩
 · have hfb:findF (beginsD D).2.files k=some f:=by rw [hfs];exact hf
   have hfew:=hb.find hfb
   have hset:=hb.set (f':=⟨f.now,f.now⟩) hfb ⟨hfew.1,hfew.1⟩ (beginsD D).2.used (by show _=_+((secs f.now.length:Int)-(secs f.now.length:Int));omega)
   have he:syncD D k=(0,{ (beginsD D).2 with files:=setF (beginsD D).2.files k ⟨f.now,f.now⟩ }):=by
    rw [syncD,if_neg (by omega),hfb]
   rw [he]
   refine ⟨hset,.inl ⟨rfl,⟨hg.up0,hg.up,hg.calm,fun k' hk'=>?_⟩,?_⟩⟩
   · show findF (setF (beginsD D).2.files k _) k'=_
     rw [findF_set hfb,if_neg hk',hg.same k' (fun h=>h.elim)]
   · show findF (setF (beginsD D).2.files k _) k=_
     rw [findF_set hfb,if_pos rfl]
 · have he:syncD D k=(7,(beginsD D).2):=by rw [syncD,if_pos h7]
   rw [he]
   exact ⟨hb,.inr ⟨rfl,hc.any⟩⟩
theorem findF_cutSame (fs:List (List UInt8×Fl)) (k:Nm):findF (cutF fs k) k=none:=by
 unfold findF cutF
 rw [List.find?_filter,Option.map_eq_none_iff,List.find?_eq_none]
 intro p hp
 simp
theorem Wz.gone (h:Wz C D):Wz C (goneD D k):=by
 unfold goneD
 split
 · exact h
 · rename_i f hf
   refine ⟨cutF_nodup h.nodup,fun p hp=>h.names p (List.mem_filter.1 hp).1,fun p hp=>h.few p (List.mem_filter.1 hp).1,?_,h.room,h.armed⟩
   show D.used-(secs f.now.length:Nat)=(usedN (cutF D.files k):Nat)
   have:=usedN_cut h.nodup hf
   rw [h.used]
   omega
theorem gone_same {D:Dk} {k k':Nm} (h:k'≠k):findF (goneD D k).files k'=findF D.files k':=goneD_find h
theorem gone_rest (D:Dk) (k:Nm):(goneD D k).down=D.down∧(goneD D k).armed=D.armed:=by
 unfold goneD
 split<;>exact ⟨rfl,rfl⟩
theorem removeD_z (hw:Wz C D) {f:Fl} (hf:findF D.files k=some f):Out C (· = k) (fun D'=>findF D'.files k=none) D 0 (removeD D k).1 (removeD D k).2:=by
 have hb:=hw.begins
 rcases begins_z hw with ⟨h0,hg,hfs,hu,hr⟩ | ⟨h7,hc⟩
 · have hfb:findF (beginsD D).2.files k=some f:=by rw [hfs];exact hf
   have he:removeD D k=(0,goneD (beginsD D).2 k):=by rw [removeD,if_neg (by omega),hfb]
   rw [he]
   obtain ⟨g1,g2⟩:=gone_rest (beginsD D).2 k
   refine ⟨hb.gone,.inl ⟨rfl,⟨hg.up0,g1.trans hg.up,fun e=>g2.trans (hg.calm e),fun k' hk'=>?_⟩,goneD_none⟩⟩
   rw [gone_same hk',hg.same k' (fun h=>h.elim)]
 · have he:removeD D k=(7,(beginsD D).2):=by rw [removeD,if_pos h7]
   rw [he]
   exact ⟨hb,.inr ⟨rfl,hc.any⟩⟩
theorem removeD_zn (hw:Wz C D) (hf:findF D.files k=none):Out C none1 (fun _=>True) D 4 (removeD D k).1 (removeD D k).2:=by
 have hb:=hw.begins
 rcases begins_z hw with ⟨h0,hg,hfs,hu,hr⟩ | ⟨h7,hc⟩
 · have he:removeD D k=(4,(beginsD D).2):=by rw [removeD,if_neg (by omega),hfs,hf]
   rw [he]
   exact ⟨hb,.inl ⟨rfl,hg,trivial⟩⟩
 · have he:removeD D k=(7,(beginsD D).2):=by rw [removeD,if_pos h7]
   rw [he]
   exact ⟨hb,.inr ⟨rfl,hc⟩⟩
theorem renameD_z (hw:Wz C D) {f:Fl} (hf:findF D.files k=some f) {to:Nm} (hk:to∈C.S) (hm:mayN ⟨to.toArray⟩=true) (hne:k≠to):Out C (fun x=>x=k∨x=to) (fun D'=>findF D'.files k=none∧findF D'.files to=some f) D 0 (renameD D k to).1 (renameD D k to).2:=by
 have hb:=hw.begins
 rcases begins_z hw with ⟨h0,hg,hfs,hu,hr⟩ | ⟨h7,hc⟩
 · have hfb:findF (beginsD D).2.files k=some f:=by rw [hfs];exact hf
   have he:renameD D k to=(0,{ goneD (beginsD D).2 to with files:=cutF (goneD (beginsD D).2 to).files k++[(to,f)] }):=by
    rw [renameD,if_neg (by omega),hfb]
    simp only
    rw [if_neg (by rw [hm];decide),if_neg hne]
   rw [he]
   have hgo:=hb.gone (k:=to)
   have hfg:findF (goneD (beginsD D).2 to).files k=some f:=by rw [goneD_find hne];exact hfb
   have hno:findF (cutF (goneD (beginsD D).2 to).files k) to=none:=findF_none_cut goneD_none
   obtain ⟨g1,g2⟩:=gone_rest (beginsD D).2 to
   refine ⟨⟨keys_app_nodup (cutF_nodup hgo.nodup) hno,fun p hp=>?_,fun p hp=>?_,?_,hgo.room,hgo.armed⟩,.inl ⟨rfl,⟨hg.up0,g1.trans hg.up,fun e=>g2.trans (hg.calm e),fun k' hk'=>?_⟩,?_,?_⟩⟩
   · rcases List.mem_append.1 hp with hp | hp
     · exact hgo.names p (List.mem_filter.1 hp).1
     · rw [List.mem_singleton] at hp;subst hp;exact hk
   · rcases List.mem_append.1 hp with hp | hp
     · exact hgo.few p (List.mem_filter.1 hp).1
     · rw [List.mem_singleton] at hp;subst hp;exact hb.find hfb
   · show (goneD (beginsD D).2 to).used=(usedN (cutF (goneD (beginsD D).2 to).files k++[(to,f)]):Nat)
     have:=usedN_cut hgo.nodup hfg
     rw [hgo.used,usedN_append,usedN_cons]
     show _=((_+(secs f.now.length+0):Nat):Int)
     omega
   · simp only [not_or] at hk'
     show findF (cutF (goneD (beginsD D).2 to).files k++[(to,f)]) k'=_
     rw [findF_snoc,findF_cut hk'.1,gone_same hk'.2,hg.same k' (fun h=>h.elim)]
     cases findF D.files k' with
     | some f=>rfl
     | none=>rw [if_neg (fun e=>hk'.2 e.symm)]
   · show findF (cutF (goneD (beginsD D).2 to).files k++[(to,f)]) k=_
     rw [findF_snoc,findF_cutSame,if_neg (fun e=>hne e.symm)]
   · show findF (cutF (goneD (beginsD D).2 to).files k++[(to,f)]) to=_
     rw [findF_snoc,hno,if_pos rfl]
 · have he:renameD D k to=(7,(beginsD D).2):=by rw [renameD,if_pos h7]
   rw [he]
   exact ⟨hb,.inr ⟨rfl,hc.any⟩⟩
theorem sizeD_z (hw:Wz C D) {f:Fl} (hf:findF D.files k=some f):Out C none1 (fun _=>(sizeD D k).1=((f.now.length:Nat):Int)) D 0 (sizeD D k).2 (beginsD D).2:=by
 rcases begins_z hw with ⟨h0,hg,hfs,hu,hr⟩ | ⟨h7,hc⟩
 · have he:sizeD D k=(((f.now.length:Nat):Int),0):=by rw [sizeD,if_neg (by omega),hfs,hf]
   rw [he]
   exact ⟨hw.begins,.inl ⟨rfl,hg,rfl⟩⟩
 · have he:sizeD D k=(0,7):=by rw [sizeD,if_pos h7]
   rw [he]
   exact ⟨hw.begins,.inr ⟨rfl,hc⟩⟩
theorem sizeD_zn (hw:Wz C D) (hf:findF D.files k=none):Out C none1 (fun _=>True) D 4 (sizeD D k).2 (beginsD D).2:=by
 rcases begins_z hw with ⟨h0,hg,hfs,hu,hr⟩ | ⟨h7,hc⟩
 · have he:sizeD D k=(0,4):=by rw [sizeD,if_neg (by omega),hfs,hf]
   rw [he]
   exact ⟨hw.begins,.inl ⟨rfl,hg,trivial⟩⟩
 · have he:sizeD D k=(0,7):=by rw [sizeD,if_pos h7]
   rw [he]
   exact ⟨hw.begins,.inr ⟨rfl,hc⟩⟩
theorem readD_z (hw:Wz C D) {f:Fl} (hf:findF D.files k=some f) {a m:Nat} (ham:a+m≤f.now.length):Out C none1 (fun _=>(readD D k (a:Int) (m:Int)).1=(f.now.drop a).take m) D 0 (readD D k (a:Int) (m:Int)).2 (beginsD D).2:=by
 rcases begins_z hw with ⟨h0,hg,hfs,hu,hr⟩ | ⟨h7,hc⟩
 · have he:readD D k (a:Int) (m:Int)=((f.now.drop a).take m,0):=by
    rw [readD,if_neg (by omega),hfs,hf]
    simp only
    rw [if_neg (by omega),Int.toNat_natCast,Int.toNat_natCast]
   rw [he]
   exact ⟨hw.begins,.inl ⟨rfl,hg,rfl⟩⟩
 · have he:readD D k (a:Int) (m:Int)=([],7):=by rw [readD,if_pos h7]
   rw [he]
   exact ⟨hw.begins,.inr ⟨rfl,hc⟩⟩
theorem listD_z (hw:Wz C D):Out C none1 (fun D'=>(listD D).1=Go.Proofs.YtkpiakgmkpbikaaGreatDoor.sortN (D.files.map (·.1))∧D'.files=D.files) D 0 (listD D).2 (beginsD D).2:=by
 rcases begins_z hw with ⟨h0,hg,hfs,hu,hr⟩ | ⟨h7,hc⟩
 · have he:listD D=(Go.Proofs.YtkpiakgmkpbikaaGreatDoor.sortN (D.files.map (·.1)),0):=by rw [listD,if_neg (by omega),hfs]
   rw [he]
   exact ⟨hw.begins,.inl ⟨rfl,hg,rfl,hfs⟩⟩
 · have he:listD D=([],7):=by rw [listD,if_pos h7]
   rw [he]
   exact ⟨hw.begins,.inr ⟨rfl,hc⟩⟩
end
section
variable {F : Fm} {db : Nat} {C : Cx} {D : Dk} {s : Hl}
theorem create_z (hC:C.Ok) (hD:DiskAt db D s) (hw:Wz C D) {k:Nm} (hk:k∈C.S) (hf:findF D.files k=none) :
 Spec Tryz.prog 222 #[.pointer (some ⟨db,0,none⟩),kS k] F s fun v s'=>∃e D',v=.int .i64 e∧DiskAt db D' s'∧Out C (· = k) (fun D'=>findF D'.files k=some ⟨[],[]⟩) D 0 e D' :=
 have hz:=hw.dz hC
 (create_spec hD hz.sz hz.fewB hz.arm k).mono fun v s ⟨h1,h2⟩=>⟨_,_,h1,h2,createD_z hw hk (hC.may k hk) hf⟩
theorem append_z (hC:C.Ok) (hD:DiskAt db D s) (hw:Wz C D) {k:Nm} {f:Fl} (hf:findF D.files k=some f) {vb:Value} {bs:List UInt8} (hb:Arg byteE F vb bs) (hl:f.now.length+bs.length≤C.cap) :
 Spec Tryz.prog 228 #[.pointer (some ⟨db,0,none⟩),kS k,vb] F s fun v s'=>∃e D',v=.int .i64 e∧DiskAt db D' s'∧Out C (· = k) (fun D'=>findF D'.files k=some ⟨f.now++bs,f.synced⟩) D 0 e D' :=
 have hz:=hw.dz hC
 (append_spec hD hz.sz hz.fewB hz.arm hz.fewB2 (by have:=hz.usedB;omega) k hb (by have:=hC.cap;omega)).mono fun v s ⟨h1,h2⟩=>⟨_,_,h1,h2,writeD_z hC hw hf bs hl⟩
theorem sync_z (hC:C.Ok) (hD:DiskAt db D s) (hw:Wz C D) {k:Nm} {f:Fl} (hf:findF D.files k=some f) :
 Spec Tryz.prog 230 #[.pointer (some ⟨db,0,none⟩),kS k] F s fun v s'=>∃e D',v=.int .i64 e∧DiskAt db D' s'∧Out C (· = k) (fun D'=>findF D'.files k=some ⟨f.now,f.now⟩) D 0 e D' :=
 have hz:=hw.dz hC
 (sync_spec hD hz.sz hz.fewB hz.arm hz.fewB2 k).mono fun v s ⟨h1,h2⟩=>⟨_,_,h1,h2,syncD_z hw hf⟩
theorem remove_z (hC:C.Ok) (hD:DiskAt db D s) (hw:Wz C D) {k:Nm} {f:Fl} (hf:findF D.files k=some f) :
 Spec Tryz.prog 72 #[.pointer (some ⟨db,0,none⟩),kS k] F s fun v s'=>∃e D',v=.int .i64 e∧DiskAt db D' s'∧Out C (· = k) (fun D'=>findF D'.files k=none) D 0 e D' :=
 have hz:=hw.dz hC
 (remove_spec hD hz.sz hz.fewB hz.arm hz.fewB2 (by have:=hz.usedB;omega) k).mono fun v s ⟨h1,h2⟩=>⟨_,_,h1,h2,removeD_z hw hf⟩
theorem rename_z (hC:C.Ok) (hD:DiskAt db D s) (hw:Wz C D) {k:Nm} {f:Fl} (hf:findF D.files k=some f) {to:Nm} (hk:to∈C.S) (hne:k≠to) :
 Spec Tryz.prog 232 #[.pointer (some ⟨db,0,none⟩),kS k,kS to] F s fun v s'=>∃e D',v=.int .i64 e∧DiskAt db D' s'∧Out C (fun x=>x=k∨x=to) (fun D'=>findF D'.files k=none∧findF D'.files to=some f) D 0 e D' :=
 have hz:=hw.dz hC
 (rename_spec hD hz k to).mono fun v s ⟨h1,h2⟩=>⟨_,_,h1,h2,renameD_z hw hf hk (hC.may to hk) hne⟩
theorem size_z (hC:C.Ok) (hD:DiskAt db D s) (hw:Wz C D) {k:Nm} {f:Fl} (hf:findF D.files k=some f) :
 Spec Tryz.prog 85 #[.pointer (some ⟨db,0,none⟩),kS k] F s fun v s'=>∃m e D',v=.tuple #[.int .i64 m,.int .i64 e]∧DiskAt db D' s'∧Out C none1 (fun _=>m=((f.now.length:Nat):Int)) D 0 e D' :=
 have hz:=hw.dz hC
 (size_spec hD hz.sz hz.fewB hz.arm k).mono fun v s ⟨h1,h2⟩=>⟨_,_,_,h1,h2,sizeD_z hw hf⟩
theorem size_zn (hC:C.Ok) (hD:DiskAt db D s) (hw:Wz C D) {k:Nm} (hf:findF D.files k=none) :
 Spec Tryz.prog 85 #[.pointer (some ⟨db,0,none⟩),kS k] F s fun v s'=>∃m e D',v=.tuple #[.int .i64 m,.int .i64 e]∧DiskAt db D' s'∧Out C none1 (fun _=>True) D 4 e D' :=
 have hz:=hw.dz hC
 (size_spec hD hz.sz hz.fewB hz.arm k).mono fun v s ⟨h1,h2⟩=>⟨_,_,_,h1,h2,sizeD_zn hw hf⟩
theorem read_z (hC:C.Ok) (hD:DiskAt db D s) (hw:Wz C D) {k:Nm} {f:Fl} (hf:findF D.files k=some f) {a m:Nat} (ham:a+m≤f.now.length) :
 Spec Tryz.prog 86 #[.pointer (some ⟨db,0,none⟩),kS k,.int .i64 (a:Int),.int .i64 (m:Int)] F s fun v s'=>∃u s1 s2 bs e D',v=.tuple #[u,.int .i64 e]∧Own byteE u bs s1∧DiskAt db D' s2∧Out C none1 (fun _=>bs=(f.now.drop a).take m) D 0 e D'∧s'=s1++s2 :=
 have hz:=hw.dz hC
 (readAt_spec hD hz.sz hz.fewB hz.arm hz.fewB2 k (a:Int) (m:Int)).mono fun v s ⟨u,s1,s2,h1,h2,h3,h4⟩=>⟨u,s1,s2,_,_,_,h1,h2,h3,readD_z hw hf ham,h4⟩
theorem list_z (hC:C.Ok) (hD:DiskAt db D s) (hw:Wz C D) :
 Spec Tryz.prog 70 #[.pointer (some ⟨db,0,none⟩)] F s fun v s'=>∃u s1 s2 ns e D',v=.tuple #[u,.int .i64 e]∧Own strE u ns s1∧DiskAt db D' s2∧Out C none1 (fun D'=>ns=Go.Proofs.YtkpiakgmkpbikaaGreatDoor.sortN (D.files.map (·.1))∧D'.files=D.files) D 0 e D'∧s'=s1++s2 :=
 have hz:=hw.dz hC
 (list_spec hD hz).mono fun v s ⟨u,s1,s2,h1,h2,h3,h4⟩=>⟨u,s1,s2,_,_,_,h1,h2,h3,listD_z hw,h4⟩
end
def leBytes:Nat→Nat→List UInt8
 | 0,_=>[]
 | s+1,n=>UInt8.ofNat n::leBytes s (n / 256)
def leNum:List UInt8→Nat
 | []=>0
 | b::r=>b.toNat+256*leNum r
@[simp] theorem leBytes_length:∀(s n:Nat),(leBytes s n).length=s
 | 0,_=>rfl
 | s+1,n=>by simp [leBytes,leBytes_length s]
theorem leBytes_snoc:∀(s n:Nat),leBytes (s+1) n=leBytes s n++[UInt8.ofNat (n / 256 ^ s)]
 | 0,n=>by simp [leBytes]
 | s+1,n=>by
  have h:=leBytes_snoc s (n / 256)
  rw [leBytes,h,Nat.div_div_eq_div_mul,show 256*256 ^ s=256 ^ (s+1) by rw [Nat.pow_succ,Nat.mul_comm]]
  rfl
theorem leNum_lt:∀l:List UInt8,leNum l<256 ^ l.length
 | []=>by simp [leNum]
 | b::r=>by
  have h:=leNum_lt r
  have hb:=b.toNat_lt
  simp only [leNum,List.length_cons,Nat.pow_succ]
  omega
theorem leNum_leBytes:∀(s n:Nat),leNum (leBytes s n)=n % 256 ^ s
 | 0,n=>by simp [leBytes,leNum,Nat.mod_one]
 | s+1,n=>by
  rw [leBytes,leNum,leNum_leBytes s,Nat.pow_succ,Nat.mul_comm (256 ^ s) 256,Nat.mod_mul]
  simp
theorem leNum_step {n b:Nat} (hn:n<2 ^ 56) (hb:b<256):(n*2 ^ 8 % 2 ^ 64) ||| b=b+256*n:=by
 rw [Nat.mod_eq_of_lt (by omega),Nat.mul_comm n,←Nat.two_pow_add_eq_or_of_lt (by omega)]
 omega
theorem leNum_snoc:∀(l:List UInt8) (b:UInt8),leNum (l++[b])=leNum l+b.toNat*256 ^ l.length
 | [],b=>by simp [leNum]
 | x::l,b=>by
  have h:=leNum_snoc l b
  simp only [List.cons_append,leNum,h,List.length_cons,Nat.pow_succ]
  rw [Nat.mul_add,Nat.add_assoc]
  congr 2
  rw [Nat.mul_comm (256 ^ l.length) 256,Nat.mul_left_comm]
def bwd (xs:List UInt8):List (Nat×UInt8):=(xs.zipIdx.map fun p=>(p.2,p.1)).reverse
theorem bwd_length (xs:List UInt8):(bwd xs).length=xs.length:=by simp [bwd]
theorem bwd_get (xs:List UInt8) {k:Nat} (hk:k<xs.length):(bwd xs)[k]? = some (xs.length-1-k,xs[xs.length-1-k]!):=by
 unfold bwd
 rw [List.getElem?_reverse (by simpa using hk)]
 simp only [List.length_map,List.length_zipIdx,List.getElem?_map,List.getElem?_zipIdx,Nat.zero_add]
 rw [List.getElem?_eq_getElem (by omega),getElem!_pos xs _ (by omega)]
 rfl
theorem take_snoc {α:Type} {ys:List α} {k:Nat} {x:α} (h:ys[k]? = some x):ys.take k++[x]=ys.take (k+1):=by
 rw [List.take_add_one,h];rfl
theorem prefix_get {α:Type} {pre ys:List α} {x:α} (h:pre++[x] <+: ys):ys[pre.length]? = some x:=by
 obtain ⟨t,rfl⟩:=h
 simp
theorem prefix_take {α:Type} {pre ys:List α} {x:α} (h:pre++[x] <+: ys):pre.length<ys.length∧pre=ys.take pre.length:=by
 obtain ⟨t,rfl⟩:=h
 simp
end Go.Proofs.YtkpiakgmkpbikaaGreatDoor
