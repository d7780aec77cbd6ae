/- PairNear: for every input the law returns true, each argument reads behind the call as it read before; no condition. -/
import Derived.Test.YtdemanikmaafeaaRows
import Derived.Test.YtdemanikmaafeaaPairNearM3
import Derived.Test.YtdemanikmaafeaaPairNearM5
import Derived.WalkKit
import Derived.ProofKit
import Derived.OpenShut
import Derived.ShutString
import Derived.ChangeOld
import Derived.Below
import Derived.SizedLaws
import Derived.Laws.Cover2
-- written by this session's own program (wip/fprint.py), which widens the kit's print by floats
namespace Go.Proofs.Ytdemanikmaafeaa.pairNear
open Go.ChangeShapes Go.WideShapes Go.ChangeAt Go.RowKit Go.Proofs.Ytdemanikmaafeaa.Pr Go.Proofs.YtdemanikmaafeaaW.PrintWords
open Go.ChangeMaps (open_string shut_string)
set_option linter.unusedVariables false
theorem own : ownKnob Try.prog.godebug = none := by kernel_rfl
theorem laidOut : laidOutB Try.prog = true := by kernel_rfl
set_option maxRecDepth 100000 in
theorem lifted (os : Os) (started : os.Started) (H : Type) (enc : TypeId × Value → H) :
  ReturnsInHanded {} Try.checked os 6 .any (Rows.pairNearSpec.pre6 enc Try.prog Try.f6 Rows.pairNearRow.domain false) (Rows.pairNearSpec.post enc Try.prog Try.f6 false true false false):=by
 refine returnsInHanded_of_change_sized (C:=Try.checked) own started (by kernel_rfl) Try.func6
  (ChangeSpec.witness6 (enc:=enc) (C:=Try.checked) false ⟨#[],#[.agg #[.float .f64 0,.float .f64 0],.agg #[.float .f64 0,.float .f64 0]],[]⟩ 8 (by kernel_rfl) (by kernel_rfl) (by kernel_rfl) (by kernel_rfl)) ?_
 intro W base args ds gs before hval0 hW hcnd hsz0 _
 have hsz : (DataW.weightsEach Try.prog (Try.f6.params.toList ++ Rows.pairNearSpec.plain.varTypes Try.prog) (ds ++ gs)).all (· ≤ reachBytes) = true:=hsz0
 have hval : ∀ (j : Nat) t v,Try.f6.params[j]? = some t → args[j]? = some v → Value.okWide Try.prog W .any base t v:=hval0
 have hW':=hW
 obtain ⟨p,q,hA0,hV,rfl,hfz,hnd⟩:=hW
 have hA : DataW.TrodAll enc Try.prog W 0 (fun _=>true) true Try.f6.params.toList args.toList ds p:=hA0
 rw [Try.params6] at hA hval hsz
 obtain ⟨v0,vs0,d0,ds0,p0,q0,hargs,rfl,rfl,h0,r0⟩:=trodAll_cons hA
 obtain ⟨v1,vs1,d1,ds1,p1,q1,rfl,rfl,rfl,h1,r1⟩:=trodAll_cons r0
 obtain ⟨rfl,rfl,rfl⟩:=trodAll_nil r1
 obtain rfl : args = #[v0,v1]:=by cases args;simp_all
 obtain ⟨rfl,rfl⟩:=trodVars_none hV
 obtain ⟨cs0,rfl,_⟩:=okWide_struct Try.underlying30 (hval 0 30 v0 rfl rfl)
 have k0:=h0
 have lt0 : ∀ x ∈ p0,x.block < W.heap.size:=by obtain ⟨m,hm⟩:=k0;exact DataW.trod_lt m _ _ _ hm
 obtain ⟨x0,K0,hw0⟩:=Opens.arg (Opens.struct Try.underlying30 (@OpensF.cons _ _ _ _ _ _ _ _ _ _ (Opens.float Try.underlying23) (by rfl) (by kernel_rfl) (@OpensF.one _ _ _ _ _ _ (Opens.float Try.underlying23) (by rfl) (by kernel_rfl))) (by kernel_rfl) (fun x : S30=>(x.f0,x.f1)) (fun p=>(⟨p.1,p.2⟩ : S30)) (fun _=>rfl)) h0 hsz (j:=0) rfl rfl
 obtain he0:=k30_open (show k30.K W x0 cs0.toList from K0)
 obtain rfl : cs0 = #[.float .f64 x0.f0,.float .f64 x0.f1]:=by have h_:=congrArg List.toArray he0;cases cs0;exact h_
 obtain ⟨cs1,rfl,_⟩:=okWide_struct Try.underlying30 (hval 1 30 v1 rfl rfl)
 have k1:=h1
 have lt1 : ∀ x ∈ p1,x.block < W.heap.size:=by obtain ⟨m,hm⟩:=k1;exact DataW.trod_lt m _ _ _ hm
 obtain ⟨x1,K1,hw1⟩:=Opens.arg (Opens.struct Try.underlying30 (@OpensF.cons _ _ _ _ _ _ _ _ _ _ (Opens.float Try.underlying23) (by rfl) (by kernel_rfl) (@OpensF.one _ _ _ _ _ _ (Opens.float Try.underlying23) (by rfl) (by kernel_rfl))) (by kernel_rfl) (fun x : S30=>(x.f0,x.f1)) (fun p=>(⟨p.1,p.2⟩ : S30)) (fun _=>rfl)) h1 hsz (j:=1) rfl rfl
 obtain he1:=k30_open (show k30.K W x1 cs1.toList from K1)
 obtain rfl : cs1 = #[.float .f64 x1.f0,.float .f64 x1.f1]:=by have h_:=congrArg List.toArray he1;cases cs1;exact h_
 clear hA0 hval0 hsz0 hsz
 obtain ⟨k,h⟩:=Pure.PairNear x0.f0 x0.f1 x1.f0 x1.f1 hw0.1 hw0.2 hw1.1 hw1.2
 have hcall : Calls Try.prog 6 #[.agg #[.float .f64 x0.f0,.float .f64 x0.f1],.agg #[.float .f64 x1.f0,.float .f64 x1.f1]] W fun e w'=>e = .returned (.bool true) ∧ Below W.heap.size W w':=(l05_PairNear.calls k x0.f0 x0.f1 x1.f0 x1.f1 true W h).mono fun e w' he=>⟨he.1,he.2⟩
 refine hcall.mono fun e W' ⟨he,bel⟩=>?_
 subst he
 exact ⟨_,rfl,_,_,_,[],_,[],hW',trodAll_mk1 (shut_bool Try.underlying4 _),(trodAll_cons_mk (Below.trod laidOut (by kernel_rfl) (of_decide_eq_true (by kernel_rfl)) k0 bel lt0) (trodAll_cons_mk (Below.trod laidOut (by kernel_rfl) (of_decide_eq_true (by kernel_rfl)) k1 bel lt1) trodAll_mk0)),rfl,bel.frame _,fun h=>by cases h⟩
theorem over : Rows.pairNearRow.holds Try.pinned (OpenSpec.ofChange Rows.pairNearSpec) :=
 OpenClaim.holds_of_wide 6 Try.f6 rfl rfl rfl rfl rfl rfl rfl ⟨rfl,rfl,rfl,rfl,rfl⟩ rfl rfl rfl rfl rfl (by kernel_rfl) Try.func6 (by kernel_rfl)
  (of_decide_eq_true (by kernel_rfl)) (by unfold Func.isWrapper;first|(rw [if_pos (by decide +kernel)];kernel_rfl)|(rw [if_neg (by decide +kernel)];exact ⟨rfl,rfl⟩))
  (fun os started H enc _=>lifted os started H enc)
theorem proved : Rows.PairNearSaid := over
#print axioms proved
end Go.Proofs.Ytdemanikmaafeaa.pairNear
namespace Go.Proofs.Ytdemanikmaafeaa
/-- The row, under a short name, for the claim. -/
theorem pairNear_holds : Rows.PairNearSaid := pairNear.proved
end Go.Proofs.Ytdemanikmaafeaa
