/- Proved here: for every input, where the six listed package variables lie as the program's text lays them, the law TopCrash returns true, and each argument reads behind the call as it read before it; then its tied card. Conditions: what the row lists as laid; the card ties it to the text. -/
import Derived.Test.YtkpiakgmkpbikaaGreatDoorTcv
import Derived.Test.YtkpiakgmkpbikaaGreatDoorTie
import Derived.Test.YtkpiakgmkpbikaaGreatDoorCards
import Derived.SevenTiedAt
set_option linter.unusedVariables false
namespace Go.Proofs.YtkpiakgmkpbikaaGreatDoor
open Go.ChangeShapes Go.WideShapes Go.ChangeAt Go.RowKit
open ED (Eg egV egC edgeE InE grV)
set_option maxRecDepth 100000 in
theorem TopCrash_contract (H:Type) (enc:TypeId×Value→H) (W:World) (base:Nat) (args:Array Value) (ds gs:List (DataW H)) (before:List MemPlace) (hL:laidMetH Tryz.prog laidL W)
 (hval0:∀(j:Nat) t v,Tryz.f4.params[j]? = some t→args[j]? = some v→Value.okWide Tryz.prog W .any base t v)
 (hW:DataW.Whole enc Tryz.prog Tryz.f4.params.toList Rows.topCrashSpec.vars false W args.toList ds gs before) :
 Calls Tryz.prog 4 args W fun e W'=>∃v,e=.returned v∧Rows.topCrashSpec.post enc Tryz.prog Tryz.f4 false true false false W args v W':=by
 have hW':=hW
 obtain ⟨p,q,hA0,hV,rfl,hfz,hnd⟩:=hW
 have hA:DataW.TrodAll enc Tryz.prog W 0 (fun _=>true) true Tryz.f4.params.toList args.toList ds p:=hA0
 have hval:=hval0
 rw [Tryz.params4] at hA hval
 obtain ⟨rfl,rfl⟩:=trodVars_none hV
 obtain ⟨v0,v1,v2,d0,d1,d2,p0,p1,p2,rfl,rfl,rfl,h0,h1,h2⟩:=trodAll_three hA
 obtain ⟨p,N,S,M,Bd,ve,es0,rfl,g0,hE0,hp⟩:=open_runT (hval 0 _ v0 rfl rfl) h0
 obtain ⟨ats,g1⟩:=open_numsT (hval 1 _ v1 rfl rfl) h1
 obtain ⟨ks0,g2⟩:=open_bitsT (hval 2 _ v2 rfl rfl) h2
 refine (TopCrash_spec (F:=fmOf W) (laid_of hL) g0 hE0 hp g1 g2 N S M Bd W (hp_start W)).mono fun e W' ⟨v,hl',he,hv,hh⟩=>⟨v,he,?_⟩
 subst hv
 exact post_kept laidOut rowed slicesFull (by kernel_rfl) hW' rfl rfl Tryz.underlying4 (by kernel_rfl) (below_end hh)
set_option maxRecDepth 100000 in
theorem TopCrash_lifted (os:Os) (started:os.Started) (H:Type) (enc:TypeId×Value→H) :
 ReturnsInHanded {} Tryz.checked os 4 .any (fun w args=>(Rows.topCrashSpec.pre enc Tryz.prog Tryz.f4 [] false w args∧laidMetH Tryz.prog laidL w)∧sizedMet enc Tryz.prog Tryz.f4 (OpenSpec.ofChange Rows.topCrashSpec) false w args)
  (Rows.topCrashSpec.post enc Tryz.prog Tryz.f4 false true false false):=by
 refine returnsInHanded_of_change_and (C:=Tryz.checked) (X:=fun w _=>laidMetH Tryz.prog laidL w) (fun _ _ _ hh h=>h.of_heap hh) ownKnob_none started (by kernel_rfl) Tryz.func4
  (ChangeSpec.witness_shaped (enc:=enc) (C:=Tryz.checked) (os:=os) (X:=fun w _=>laidMetH Tryz.prog laidL w) false (World.doorLaid Tryz.prog 87 os) #[.agg #[.int .i64 0,.int .u32 0,.int .i64 0,.slice none 0 0,.int .i64 0,.int .i64 0,.int .i64 0],.slice none 0 0,.slice none 0 0] 8 rfl (World.shaped_of_RefB (by kernel_rfl) (by kernel_rfl)) (by kernel_rfl) (by kernel_rfl) (by kernel_rfl) (door_met os _)) ?_
 intro W base args ds gs before hval hW _ _ hL _
 exact TopCrash_contract H enc W base args ds gs before hL hval hW
theorem TopCrash_proved:Rows.TopCrashSaid :=
 OpenClaim.holds_of_wide 4 Tryz.f4 rfl rfl rfl rfl rfl rfl rfl ⟨rfl,rfl,rfl,rfl,rfl⟩ rfl rfl rfl rfl rfl (by kernel_rfl) Tryz.func4 (by kernel_rfl)
  (of_decide_eq_true (by kernel_rfl)) (by unfold Func.isWrapper;first | (rw [if_pos (by decide +kernel)];kernel_rfl) | (rw [if_neg (by decide +kernel)];exact ⟨rfl,rfl⟩))
  (fun os started H enc _=>TopCrash_lifted os started H enc)
theorem TopCrash_card:Rows.TopCrashCardSaid :=
 Claim7.holds_tied_plain_at .later [] [.data, .data, .data, .sentinel, .sentinel, .funcs] true (true, "4c3855acfa6d077989c74d6d9772be5bba84848ec2af4f7477d14e5a9328c01d") true
  TopCrash_proved (fun _ h=>by cases h) (by kernel_rfl) (fun _ h=>by cases h) topCrash_row_tie rfl ⟨rfl,rfl⟩ (by kernel_rfl) rfl
  (fun f fn hf hfn=>by
   obtain rfl : f = 4 := Option.some.inj ((show Tryz.prog.funcNamed "cartage/cartagetop.TopCrash" = some 4 by kernel_rfl).symm.trans hf) |>.symm
   obtain rfl:fn=Tryz.f4:=(Option.some.inj (Tryz.func4.symm.trans hfn)).symm
   exact ⟨by kernel_rfl,fun j t ht=>by
    rw [Tryz.params4] at ht
    have hm:t∈[29,45,41]:=by simpa using Array.mem_of_getElem? ht
    have hall:([29,45,41].all fun u=>!Tryz.prog.wantsStandIn u)=true:=by kernel_rfl
    exact (show Tryz.prog.wantsStandIn t=false by simpa using List.all_eq_true.1 hall t hm)⟩)
  (by kernel_rfl)
end Go.Proofs.YtkpiakgmkpbikaaGreatDoor
