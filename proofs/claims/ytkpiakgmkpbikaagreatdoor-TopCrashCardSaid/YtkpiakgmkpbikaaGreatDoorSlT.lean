/- Steps of the proof. -/
import Derived.Test.YtkpiakgmkpbikaaGreatDoorSlN
import Derived.Shelf.SortM.Plain
import Derived.Shelf.SortM.SortNone
set_option linter.unusedVariables false
namespace Go.Proofs.YtkpiakgmkpbikaaGreatDoor
open Go.Proofs Go.Shelf Go.Sort
theorem sort_str {P:Program} {ρ:Ren} (L:SlLaysM.n6 P ρ) (E:Enc (List UInt8)) (hk:E.k=1) (h1:∀x,E.cells x=[E.val x]) (hv:∀x,E.val x=encStr x) (F:Fm) (b cap:Nat) (xs:List (List UInt8)) (sp:List Value) (hsz:xs.length<4611686018427387904) :
 Spec P (ρ.f 6) #[.slice (some ⟨b,0,none⟩) xs.length cap] F [(b,rowS E xs sp)] fun _ hl'=>hl'=[(b,rowS E (xs.mergeSort fun x y=>decide (x≤y)) sp)]:=by
 intro w hw
 have hflat:∀l:List (List UInt8),flat E l=l.map encStr:=fun l=>by
  induction l with
  | nil=>rfl
  | cons x l ih=>rw [List.map_cons,←ih];show E.cells x++flat E l=_;rw [h1,hv];rfl
 have hblk:w.heap[b]? = some (rowS E xs sp):=hw.own b _ List.mem_cons_self
 have hlt:=hw.lt (b:=b) (o:=rowS E xs sp) List.mem_cons_self
 have hH:Holds encStr w b 0 xs.toArray:=fun j hj=>by
  have hj':j<xs.length:=by simpa using hj
  constructor
  · simp only [World.cell?,hblk,rowS,Option.isSome_none,Bool.false_eq_true,if_false,Nat.zero_add,List.getElem?_toArray,hflat]
    rw [List.getElem?_append_left (by simpa using hj'),List.getElem?_map,List.getElem?_eq_getElem hj']
    rw [getElem!_pos xs.toArray j hj]
    simp
  · simp [World.frozen?,hblk,rowS]
 refine (AnyM.slices_Sort_string L b 0 cap xs w hH hlt hsz).mono fun e w' ⟨he,n,os,hw'⟩=>⟨_,_,he,rfl,?_⟩
 obtain ⟨ds,hds⟩:∃ds,ds=xs.mergeSort fun x y=>decide (x≤y):=⟨_,rfl⟩
 have hdl:ds.length=xs.length:=by rw [hds,List.length_mergeSort]
 rw [←hds] at hw' ⊢
 have e0:(w.heap.modify b (onCells (putCells encStr 0 ds.toArray)))[b]? = some (rowS E ds sp):=by
  rw [Array.getElem?_modify,if_pos rfl,hblk]
  simp only [Option.map_some,rowS,onCells]
  congr 2
  apply Array.ext_getElem?
  intro k
  simp only [putCells,Array.getElem?_mapIdx,List.getElem?_toArray,hflat]
  by_cases hk':k<xs.length
  · rw [List.getElem?_append_left (by simpa using hk'),List.getElem?_append_left (by simpa [hdl] using hk')]
    simp only [List.getElem?_map,List.getElem?_eq_getElem hk',Option.map_some,Nat.sub_zero,Nat.zero_le,true_and,Nat.zero_add,List.size_toArray,hdl,hk',if_true]
    rw [List.getElem?_eq_getElem (by omega)]
    simp only [Option.map_some]
    rw [getElem!_pos ds.toArray k (by simpa [hdl] using hk')]
    simp
  · rw [List.getElem?_append_right (by simp;omega),List.getElem?_append_right (by simp [hdl];omega)]
    simp only [List.length_map,hdl,List.size_toArray,Nat.zero_add,Nat.zero_le,true_and,hk',if_false]
    cases sp[k-xs.length]? <;> rfl
 have hself:w'.heap=w.heap.modify b (onCells (putCells encStr 0 ds.toArray))++os:=by rw [hw'];rfl
 refine ⟨by rw [hw'];exact hw.os,by rw [hw'];exact hw.tape,by rw [hw'];exact hw.output,fun c o hc=>?_,fun c o hc=>?_,by simp,fun c o o' hc hf=>?_,by rw [hw'];exact Nat.le_trans hw.drawn (Nat.le_add_right _ _)⟩
 · simp only [List.mem_singleton,Prod.mk.injEq] at hc
   obtain ⟨rfl,rfl⟩:=hc
   rw [hself,Array.getElem?_append_left (by simpa using hlt)]
   exact e0
 · have hne:b≠c:=fun e=>hw.apart b _ o List.mem_cons_self (e▸hc)
   rw [hself,Array.getElem?_append_left (by simpa using hw.flt hc),Array.getElem?_modify,if_neg hne]
   exact hw.frame c o hc
 · simp only [List.mem_singleton,Prod.mk.injEq] at hc
   obtain ⟨rfl,rfl⟩:=hc
   exact hw.apart c _ o' List.mem_cons_self hf
end Go.Proofs.YtkpiakgmkpbikaaGreatDoor
