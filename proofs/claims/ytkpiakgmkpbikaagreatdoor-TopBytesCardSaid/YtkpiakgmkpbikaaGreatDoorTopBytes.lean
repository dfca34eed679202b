/- Proved here: for every input, where the six listed package variables lie as the program's text lays them, the law TopBytes returns true, and each argument reads behind the call as it read before it; then its tied card. Conditions: what the row lists as laid; the card ties it to the text. -/
import Derived.Test.YtkpiakgmkpbikaaGreatDoorTcv
import Derived.Test.YtkpiakgmkpbikaaGreatDoorTie
import Derived.Test.YtkpiakgmkpbikaaGreatDoorCards
import Derived.SevenTiedAt
set_option linter.unusedVariables false
namespace Go.Proofs.YtkpiakgmkpbikaaGreatDoor
open Go.ChangeShapes Go.WideShapes Go.ChangeAt Go.RowKit
open ED (Eg egV egC edgeE InE grV)
set_option maxRecDepth 100000 in
theorem TopBytes_contract (H:Type) (enc:TypeId×Value→H) (W:World) (base:Nat) (args:Array Value) (ds gs:List (DataW H)) (before:List MemPlace) (hL:laidMetH Tryz.prog laidL W)
 (hval0:∀(j:Nat) t v,Tryz.f5.params[j]? = some t→args[j]? = some v→Value.okWide Tryz.prog W .any base t v)
 (hW:DataW.Whole enc Tryz.prog Tryz.f5.params.toList Rows.topBytesSpec.vars false W args.toList ds gs before) :
 Calls Tryz.prog 5 args W fun e W'=>∃v,e=.returned v∧Rows.topBytesSpec.post enc Tryz.prog Tryz.f5 false true false false W args v W':=by
 have hW':=hW
 obtain ⟨p,q,hA0,hV,rfl,hfz,hnd⟩:=hW
 have hA:DataW.TrodAll enc Tryz.prog W 0 (fun _=>true) true Tryz.f5.params.toList args.toList ds p:=hA0
 have hval:=hval0
 rw [Tryz.params5] at hA hval
 obtain ⟨rfl,rfl⟩:=trodVars_none hV
 obtain ⟨v0,v1,v2,d0,d1,d2,p0,p1,p2,rfl,rfl,rfl,h0,h1,h2⟩:=trodAll_three hA
 obtain ⟨bs0,g0⟩:=open_bytesT (hval 0 _ v0 rfl rfl) h0
 obtain ⟨S,rfl,rfl,rfl,_⟩:=open_int Tryz.underlying3 (hval 1 _ v1 rfl rfl) h1
 obtain ⟨ks0,g2⟩:=open_bitsT (hval 2 _ v2 rfl rfl) h2
 refine (TopBytes_spec (F:=fmOf W) (laid_of hL) g0 g2 S W (hp_start W)).mono fun e W' ⟨v,hl',he,hv,hh⟩=>⟨v,he,?_⟩
 subst hv
 exact post_kept laidOut rowed slicesFull (by kernel_rfl) hW' rfl rfl Tryz.underlying4 (by kernel_rfl) (below_end hh)
set_option maxRecDepth 100000 in
theorem TopBytes_lifted (os:Os) (started:os.Started) (H:Type) (enc:TypeId×Value→H) :
 ReturnsInHanded {} Tryz.checked os 5 .any (fun w args=>(Rows.topBytesSpec.pre enc Tryz.prog Tryz.f5 [] false w args∧laidMetH Tryz.prog laidL w)∧sizedMet enc Tryz.prog Tryz.f5 (OpenSpec.ofChange Rows.topBytesSpec) false w args)
  (Rows.topBytesSpec.post enc Tryz.prog Tryz.f5 false true false false):=by
 refine returnsInHanded_of_change_and (C:=Tryz.checked) (X:=fun w _=>laidMetH Tryz.prog laidL w) (fun _ _ _ hh h=>h.of_heap hh) ownKnob_none started (by kernel_rfl) Tryz.func5
  (ChangeSpec.witness_shaped (enc:=enc) (C:=Tryz.checked) (os:=os) (X:=fun w _=>laidMetH Tryz.prog laidL w) false (World.doorLaid Tryz.prog 87 os) #[.slice none 0 0,.int .i64 0,.slice none 0 0] 8 rfl (World.shaped_of_RefB (by kernel_rfl) (by kernel_rfl)) (by kernel_rfl) (by kernel_rfl) (by kernel_rfl) (door_met os _)) ?_
 intro W base args ds gs before hval hW _ _ hL _
 exact TopBytes_contract H enc W base args ds gs before hL hval hW
theorem TopBytes_proved:Rows.TopBytesSaid :=
 OpenClaim.holds_of_wide 5 Tryz.f5 rfl rfl rfl rfl rfl rfl rfl ⟨rfl,rfl,rfl,rfl,rfl⟩ rfl rfl rfl rfl rfl (by kernel_rfl) Tryz.func5 (by kernel_rfl)
  (of_decide_eq_true (by kernel_rfl)) (by unfold Func.isWrapper;first | (rw [if_pos (by decide +kernel)];kernel_rfl) | (rw [if_neg (by decide +kernel)];exact ⟨rfl,rfl⟩))
  (fun os started H enc _=>TopBytes_lifted os started H enc)
theorem TopBytes_card:Rows.TopBytesCardSaid :=
 Claim7.holds_tied_plain_at .later [] [.data, .data, .data, .sentinel, .sentinel, .funcs] true (true, "4c3855acfa6d077989c74d6d9772be5bba84848ec2af4f7477d14e5a9328c01d") true
  TopBytes_proved (fun _ h=>by cases h) (by kernel_rfl) (fun _ h=>by cases h) topBytes_row_tie rfl ⟨rfl,rfl⟩ (by kernel_rfl) rfl
  (fun f fn hf hfn=>by
   obtain rfl : f = 5 := Option.some.inj ((show Tryz.prog.funcNamed "cartage/cartagetop.TopBytes" = some 5 by kernel_rfl).symm.trans hf) |>.symm
   obtain rfl:fn=Tryz.f5:=(Option.some.inj (Tryz.func5.symm.trans hfn)).symm
   exact ⟨by kernel_rfl,fun j t ht=>by
    rw [Tryz.params5] at ht
    have hm:t∈[40,3,41]:=by simpa using Array.mem_of_getElem? ht
    have hall:([40,3,41].all fun u=>!Tryz.prog.wantsStandIn u)=true:=by kernel_rfl
    exact (show Tryz.prog.wantsStandIn t=false by simpa using List.all_eq_true.1 hall t hm)⟩)
  (by kernel_rfl)
end Go.Proofs.YtkpiakgmkpbikaaGreatDoor
