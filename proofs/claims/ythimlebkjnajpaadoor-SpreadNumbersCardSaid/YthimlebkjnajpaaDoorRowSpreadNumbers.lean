/- SpreadNumbers: for every input the law returns true, each argument reads behind the call as it read before; no condition. -/
import Derived.Test.YthimlebkjnajpaaDoorRows
import Derived.Test.YthimlebkjnajpaaDoorSpreadNumbersM4
import Derived.WalkKit
import Derived.ProofKit
import Derived.OpenShut
import Derived.ShutString
import Derived.ChangeOld
import Derived.Below
import Derived.SizedLaws
import Derived.Laws.Cover2
import Derived.LaidMore
import Derived.Stop.Joined
import Derived.Test.YthimlebkjnajpaaDoorCards
import Derived.Test.YthimlebkjnajpaaDoorTie
-- written by this session's own program (wip/fprint.py)
namespace Go.Proofs.YthimlebkjnajpaaDoor.spreadNumbers
open Go.ChangeShapes Go.WideShapes Go.ChangeAt Go.RowKit Go.Proofs.YthimlebkjnajpaaDoor.Pr Go.Proofs.YthimlebkjnajpaaDoorW.PrintWords
open Go.ChangeMaps (open_string shut_string)
set_option linter.unusedVariables false
theorem own : ownKnob Tryd.prog.godebug = none := by kernel_rfl
set_option maxRecDepth 100000 in
theorem lifted (os : Os) (started : os.Started) (H : Type) (enc : TypeId × Value → H) :
  ReturnsInHanded {} Tryd.checked os 4 .any (fun w args=>(Rows.spreadNumbersSpec.pre enc Tryd.prog Tryd.f4 [] false w args ∧ laidMetH Tryd.prog LaidHere.laidL w) ∧ sizedMet enc Tryd.prog Tryd.f4 (OpenSpec.ofChange Rows.spreadNumbersSpec) false w args)
   (Rows.spreadNumbersSpec.post enc Tryd.prog Tryd.f4 false true false false):=by
 refine returnsInHanded_of_change_and (C:=Tryd.checked) (X:=fun w _=>laidMetH Tryd.prog LaidHere.laidL w) (fun _ _ _ hh h=>h.of_heap hh) own started (by kernel_rfl) Tryd.func4
  (ChangeSpec.witness_shaped (enc:=enc) (C:=Tryd.checked) (os:=os) (X:=fun w _=>laidMetH Tryd.prog LaidHere.laidL w) false (World.doorLaid Tryd.prog 400 os) #[] 8 rfl (World.shaped_of_RefB (by kernel_rfl) (by kernel_rfl)) (by kernel_rfl) (by kernel_rfl) (by kernel_rfl) (LaidHere.door_met os _)) ?_
 intro W base args ds gs before hval0 hW hcnd hsz0 hL _
 have hsz : (DataW.weightsEach Tryd.prog (Tryd.f4.params.toList ++ Rows.spreadNumbersSpec.plain.varTypes Tryd.prog) (ds ++ gs)).all (· ≤ reachBytes) = true:=hsz0
 have hval : ∀ (j : Nat) t v,Tryd.f4.params[j]? = some t → args[j]? = some v → Value.okWide Tryd.prog W .any base t v:=hval0
 have hW':=hW
 obtain ⟨p,q,hA0,hV,rfl,hfz,hnd⟩:=hW
 have hA : DataW.TrodAll enc Tryd.prog W 0 (fun _=>true) true Tryd.f4.params.toList args.toList ds p:=hA0
 rw [Tryd.params4] at hA hval hsz
 obtain ⟨rfl,rfl,rfl⟩:=trodAll_none hA
 obtain ⟨rfl,rfl⟩:=trodVars_none hV
 clear hA0 hval0 hsz0 hsz
 have hcall : Calls Tryd.prog 4 #[] W fun e w'=>e = .returned (.bool true) ∧ Below W.heap.size W w':=(Sp.numbers_T W (LaidHere.glob_laid hL)).mono fun e w' he=>⟨he.1,he.2⟩
 refine hcall.mono fun e W' ⟨he,bel⟩=>?_
 subst he
 exact ⟨_,rfl,_,_,_,[],_,[],hW',trodAll_mk1 (shut_bool Tryd.underlying4 _),trodAll_mk0,rfl,bel.frame _,fun h=>by cases h⟩
theorem over : Rows.spreadNumbersRow.holds Tryd.pinned (OpenSpec.ofChange Rows.spreadNumbersSpec) :=
 OpenClaim.holds_of_wide 4 Tryd.f4 rfl rfl rfl rfl rfl rfl rfl ⟨rfl,rfl,rfl,rfl,rfl⟩ rfl rfl rfl rfl rfl (by kernel_rfl) Tryd.func4 (by kernel_rfl)
  (of_decide_eq_true (by kernel_rfl)) (by unfold Func.isWrapper;first|(rw [if_pos (by decide +kernel)];kernel_rfl)|(rw [if_neg (by decide +kernel)];exact ⟨rfl,rfl⟩))
  (fun os started H enc _=>lifted os started H enc)
theorem proved : Rows.SpreadNumbersSaid := over
#print axioms proved
end Go.Proofs.YthimlebkjnajpaaDoor.spreadNumbers
namespace Go.Proofs.YthimlebkjnajpaaDoor
/-- The row, under a short name, for the claim. -/
theorem spreadNumbers_holds : Rows.SpreadNumbersSaid := spreadNumbers.proved
/-- THE TIED CARD. -/
theorem spreadNumbersCard_holds : Rows.SpreadNumbersCardSaid :=
 Claim7.holds_tied_plain_at .later [] [.data] true (true,"a3eafabcf8b9cca95ec1bec92ca98c1e004ea5feeb83da298582c11fcc5f590b") false
  spreadNumbers_holds (fun _ h=>by cases h) (by kernel_rfl) (fun _ h=>by cases h) spreadNumbers_row_tie rfl ⟨rfl,rfl⟩ (by kernel_rfl) rfl
  (fun f fn hf hfn=>by
   obtain rfl : f = 4:=Option.some.inj ((show Tryd.prog.funcNamed "steelyard/steelyardlaw08.SpreadNumbers" = some 4 by kernel_rfl).symm.trans hf) |>.symm
   obtain rfl : fn = Tryd.f4:=(Option.some.inj (Tryd.func4.symm.trans hfn)).symm
   exact ⟨by kernel_rfl,fun j t ht=>by
    rw [Tryd.params4] at ht
    have hm : t ∈ ([] : List TypeId):=by simpa using Array.mem_of_getElem? ht
    have hall : (([] : List TypeId).all fun u=>!Tryd.prog.wantsStandIn u) = true:=by kernel_rfl
    exact (show Tryd.prog.wantsStandIn t = false by simpa using List.all_eq_true.1 hall t hm)⟩)
  (by kernel_rfl)
#print axioms spreadNumbersCard_holds
end Go.Proofs.YthimlebkjnajpaaDoor
