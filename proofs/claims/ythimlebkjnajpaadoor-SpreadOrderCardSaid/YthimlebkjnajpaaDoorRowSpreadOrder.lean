/- SpreadOrder: for every input the law returns true, each argument reads behind the call as it read before; no condition. -/
import Derived.Test.YthimlebkjnajpaaDoorRows
import Derived.Test.YthimlebkjnajpaaDoorSpreadOrderM5
import Derived.Test.YthimlebkjnajpaaDoorSpreadOrderM4
import Derived.WalkKit
import Derived.ProofKit
import Derived.OpenShut
import Derived.ShutString
import Derived.ChangeOld
import Derived.Below
import Derived.SizedLaws
import Derived.Laws.Cover2
import Derived.LaidMore
import Derived.Stop.Joined
import Derived.Test.YthimlebkjnajpaaDoorCards
import Derived.Test.YthimlebkjnajpaaDoorTie
namespace Go.Proofs.YthimlebkjnajpaaDoor.spreadOrder
open Go.ChangeShapes Go.WideShapes Go.ChangeAt Go.RowKit Go.Proofs.YthimlebkjnajpaaDoor.Pr Go.Proofs.YthimlebkjnajpaaDoorW.PrintWords
open Go.ChangeMaps (open_string shut_string)
set_option linter.unusedVariables false
theorem own : ownKnob Tryd.prog.godebug = none := by kernel_rfl
theorem laidOut : laidOutB Tryd.prog = true := by kernel_rfl
set_option maxRecDepth 100000 in
set_option maxHeartbeats 2000000 in
theorem lifted (os : Os) (started : os.Started) (H : Type) (enc : TypeId × Value → H) :
  ReturnsInHanded {} Tryd.checked os 5 .any (fun w args=>(Rows.spreadOrderSpec.pre enc Tryd.prog Tryd.f5 [] false w args ∧ laidMetH Tryd.prog LaidHere.laidL w) ∧ sizedMet enc Tryd.prog Tryd.f5 (OpenSpec.ofChange Rows.spreadOrderSpec) false w args)
   (Rows.spreadOrderSpec.post enc Tryd.prog Tryd.f5 false true false false):=by
 refine returnsInHanded_of_change_and (C:=Tryd.checked) (X:=fun w _=>laidMetH Tryd.prog LaidHere.laidL w) (fun _ _ _ hh h=>h.of_heap hh) own started (by kernel_rfl) Tryd.func5
  (ChangeSpec.witness_shaped (enc:=enc) (C:=Tryd.checked) (os:=os) (X:=fun w _=>laidMetH Tryd.prog LaidHere.laidL w) false (World.doorLaid Tryd.prog 400 os) #[.slice none 0 0,.slice none 0 0,.int .i64 0] 8 rfl (World.shaped_of_RefB (by kernel_rfl) (by kernel_rfl)) (by kernel_rfl) (by kernel_rfl) (by kernel_rfl) (LaidHere.door_met os _)) ?_
 intro W base args ds gs before hval0 hW hcnd hsz0 hL _
 have hsz : (DataW.weightsEach Tryd.prog (Tryd.f5.params.toList ++ Rows.spreadOrderSpec.plain.varTypes Tryd.prog) (ds ++ gs)).all (· ≤ reachBytes) = true:=hsz0
 have hval : ∀ (j : Nat) t v,Tryd.f5.params[j]? = some t → args[j]? = some v → Value.okWide Tryd.prog W .any base t v:=hval0
 have hW':=hW
 obtain ⟨p,q,hA0,hV,rfl,hfz,hnd⟩:=hW
 have hA : DataW.TrodAll enc Tryd.prog W 0 (fun _=>true) true Tryd.f5.params.toList args.toList ds p:=hA0
 rw [Tryd.params5] at hA hval hsz
 obtain ⟨v0,vs0,d0,ds0,p0,q0,hargs,rfl,rfl,h0,r0⟩:=trodAll_cons hA
 obtain ⟨v1,vs1,d1,ds1,p1,q1,rfl,rfl,rfl,h1,r1⟩:=trodAll_cons r0
 obtain ⟨v2,vs2,d2,ds2,p2,q2,rfl,rfl,rfl,h2,r2⟩:=trodAll_cons r1
 obtain ⟨rfl,rfl,rfl⟩:=trodAll_nil r2
 obtain rfl : args = #[v0,v1,v2]:=by cases args;simp_all
 obtain ⟨rfl,rfl⟩:=trodVars_none hV
 obtain ⟨a0,len0,cap0,rfl⟩:=okWide_slice Tryd.underlying22 (hval 0 22 v0 rfl rfl)
 have k0:=h0
 have lt0 : ∀ x ∈ p0,x.block < W.heap.size:=by obtain ⟨m,hm⟩:=k0;exact DataW.trod_lt m _ _ _ hm
 obtain ⟨l0,⟨A0,c0,he0,hc0,hr0⟩,hw0⟩:=Opens.arg (Opens.slice (B:=8) Tryd.underlying22 (Opens.float Tryd.underlying34) (by kernel_rfl) (by kernel_rfl)) h0 hsz (j:=0) rfl rfl
 obtain ⟨rfl,rfl,rfl⟩ : a0 = A0 ∧ len0 = l0.length ∧ cap0 = c0:=by simpa [Value.cells] using he0
 obtain ⟨a1,len1,cap1,rfl⟩:=okWide_slice Tryd.underlying50 (hval 1 50 v1 rfl rfl)
 have k1:=h1
 have lt1 : ∀ x ∈ p1,x.block < W.heap.size:=by obtain ⟨m,hm⟩:=k1;exact DataW.trod_lt m _ _ _ hm
 obtain ⟨l1,⟨A1,c1,he1,hc1,hr1⟩,hw1⟩:=Opens.arg (Opens.slice (B:=8) Tryd.underlying50 (Opens.int Tryd.underlying3) (by kernel_rfl) (by kernel_rfl)) h1 hsz (j:=1) rfl rfl
 obtain ⟨rfl,rfl,rfl⟩ : a1 = A1 ∧ len1 = l1.length ∧ cap1 = c1:=by simpa [Value.cells] using he1
 obtain ⟨a2,rfl,rfl,rfl,w2⟩:=open_int Tryd.underlying3 (hval 2 3 v2 rfl rfl) h2
 have hcall : Calls Tryd.prog 5 #[.slice a0 l0.length cap0,.slice a1 l1.length cap1,.int .i64 a2] W fun e w'=>e = .returned (.bool true) ∧ Below W.heap.size W w':=(Sp.order_T _ _ l0 _ _ l1 a2 W (LaidHere.glob_laid hL) hr0 hc0 hr1 hc1 (by have:=hw0.2.1;omega) (fun y_ hy_=>Go.Proofs.YthimlebkjnajpaaDoorW.FL.f64_wf (hw0.2.2 y_ hy_)) (fun y_ hy_=>Sp.i64_wf (hw1.2.2 y_ hy_)) (Sp.i64_wf w2)).mono fun e w' he=>⟨he.1,he.2⟩
 refine hcall.mono fun e W' ⟨he,bel⟩=>?_
 subst he
 exact ⟨_,rfl,_,_,_,[],_,[],hW',trodAll_mk1 (shut_bool Tryd.underlying4 _),(trodAll_cons_mk (Below.trod laidOut (by kernel_rfl) (of_decide_eq_true (by kernel_rfl)) k0 bel lt0) (trodAll_cons_mk (Below.trod laidOut (by kernel_rfl) (of_decide_eq_true (by kernel_rfl)) k1 bel lt1) (trodAll_cons_mk (shut_int Tryd.underlying3 w2) trodAll_mk0))),rfl,bel.frame _,fun h=>by cases h⟩
theorem over : Rows.spreadOrderRow.holds Tryd.pinned (OpenSpec.ofChange Rows.spreadOrderSpec) :=
 OpenClaim.holds_of_wide 5 Tryd.f5 rfl rfl rfl rfl rfl rfl rfl ⟨rfl,rfl,rfl,rfl,rfl⟩ rfl rfl rfl rfl rfl (by kernel_rfl) Tryd.func5 (by kernel_rfl)
  (of_decide_eq_true (by kernel_rfl)) (by unfold Func.isWrapper;first|(rw [if_pos (by decide +kernel)];kernel_rfl)|(rw [if_neg (by decide +kernel)];exact ⟨rfl,rfl⟩))
  (fun os started H enc _=>lifted os started H enc)
theorem proved : Rows.SpreadOrderSaid := over
#print axioms proved
end Go.Proofs.YthimlebkjnajpaaDoor.spreadOrder
namespace Go.Proofs.YthimlebkjnajpaaDoor
/-- The row, under a short name, for the claim. -/
theorem spreadOrder_holds : Rows.SpreadOrderSaid := spreadOrder.proved
/-- THE TIED CARD. -/
theorem spreadOrderCard_holds : Rows.SpreadOrderCardSaid :=
 Claim7.holds_tied_plain_at .later [] [.data] true (true,"a3eafabcf8b9cca95ec1bec92ca98c1e004ea5feeb83da298582c11fcc5f590b") false
  spreadOrder_holds (fun _ h=>by cases h) (by kernel_rfl) (fun _ h=>by cases h) spreadOrder_row_tie rfl ⟨rfl,rfl⟩ (by kernel_rfl) rfl
  (fun f fn hf hfn=>by
   obtain rfl : f = 5:=Option.some.inj ((show Tryd.prog.funcNamed "steelyard/steelyardlaw08.SpreadOrder" = some 5 by kernel_rfl).symm.trans hf) |>.symm
   obtain rfl : fn = Tryd.f5:=(Option.some.inj (Tryd.func5.symm.trans hfn)).symm
   exact ⟨by kernel_rfl,fun j t ht=>by
    rw [Tryd.params5] at ht
    have hm : t ∈ ([22,50,3] : List TypeId):=by simpa using Array.mem_of_getElem? ht
    have hall : (([22,50,3] : List TypeId).all fun u=>!Tryd.prog.wantsStandIn u) = true:=by kernel_rfl
    exact (show Tryd.prog.wantsStandIn t = false by simpa using List.all_eq_true.1 hall t hm)⟩)
  (by kernel_rfl)
#print axioms spreadOrderCard_holds
end Go.Proofs.YthimlebkjnajpaaDoor
