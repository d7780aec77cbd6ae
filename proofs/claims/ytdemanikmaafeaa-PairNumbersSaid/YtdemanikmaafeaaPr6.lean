-- written by this session's own program (wip/fprint.py), which widens the kit's print by floats
import Derived.Test.YtdemanikmaafeaaPr0
import Derived.Test.YtdemanikmaafeaaPr1
import Derived.Test.YtdemanikmaafeaaPr2
import Derived.Test.YtdemanikmaafeaaPr5
namespace Go.Proofs.Ytdemanikmaafeaa.Pr
open Go.RowKit Go.Proofs.YtdemanikmaafeaaW.PrintWords Go.Proofs.YtdemanikmaafeaaW.PrintLast Go.Proofs.YtdemanikmaafeaaW.PrintMore
attribute [local go_sem] max2_int min2_int max_two min_two max_three min_three max_four min_four   -- for this text's walks alone
set_option linter.unusedVariables false
set_option linter.unusedSimpArgs false

/-! ### steelyardlaw05_PairNumbers: function 3 -/
def steelyardlaw05_PairNumbers.f  : Option (Bool) := (steelyardlaw05_awake.f).bind fun t236 => ((steelyardref05_Odd.f).bind fun t237 => ((steelyardref05_Turned.f 0).bind fun t238 => ((pair_Sum.f 4591870180066957722 4596373779694328218).bind fun bt239 => ((steelyardlaw05_is.f bt239.1 bt239.2 4599075939470750516 13582856476149415936).bind fun t241 => ((pair_Sum.f 9218868437227405311 9218868437227405311).bind fun bt242 => ((steelyardlaw05_is.f bt242.1 bt242.2 9218868437227405312 t237).bind fun t244 => ((pair_Sum.f 9218868437227405312 4607182418800017408).bind fun bt245 => ((steelyardlaw05_is.f bt245.1 bt245.2 9218868437227405312 t237).bind fun t247 => ((pair_Halves.f t238).bind fun bt248 => ((steelyardlaw05_is.f bt248.1 bt248.2 0 t238).bind fun t250 => ((pair_Product.f 4591870180066957722 4621819117588971520).bind fun bt251 => ((steelyardlaw05_is.f bt251.1 bt251.2 4607182418800017408 4363988038922010624).bind fun t253 => ((pair_Product.f 13830554455654793216 0).bind fun bt254 => ((steelyardlaw05_is.f bt254.1 bt254.2 t238 0).bind fun t256 => ((steelyardlaw05_power.f 1000).bind fun t257 => ((pair_Product.f t257 4607182418800017408).bind fun bt258 => ((steelyardlaw05_power.f 1000).bind fun t260 => ((steelyardlaw05_is.f bt258.1 bt258.2 t260 t237).bind fun t261 => ((pair_Sum.f 4607182418800017408 13830554455654793216).bind fun bt262 => ((steelyardlaw05_is.f bt262.1 bt262.2 0 0).bind fun t264 => (if t236 = true then (if t241 = true then (if t244 = true then (if t247 = true then (if t250 = true then (if t253 = true then (if t256 = true then (if t261 = true then (some t264) else (none)) else (none)) else (none)) else (none)) else (none)) else (none)) else (none)) else (none))))))))))))))))))))))
set_option maxHeartbeats 8000000 in
set_option maxRecDepth 100000 in
theorem steelyardlaw05_PairNumbers.calls  (r : Bool) (w : World) (h : steelyardlaw05_PairNumbers.f  = some r) :
    Calls Try.prog 3 #[] w fun e w' => e = .returned (.bool r) ∧ Below w.heap.size w w' := by
  have HB := Aside0.mk (Below.refl w.heap.size w)
  have H : ((steelyardlaw05_awake.f).bind fun t236 => ((steelyardref05_Odd.f).bind fun t237 => ((steelyardref05_Turned.f 0).bind fun t238 => ((pair_Sum.f 4591870180066957722 4596373779694328218).bind fun bt239 => ((steelyardlaw05_is.f bt239.1 bt239.2 4599075939470750516 13582856476149415936).bind fun t241 => ((pair_Sum.f 9218868437227405311 9218868437227405311).bind fun bt242 => ((steelyardlaw05_is.f bt242.1 bt242.2 9218868437227405312 t237).bind fun t244 => ((pair_Sum.f 9218868437227405312 4607182418800017408).bind fun bt245 => ((steelyardlaw05_is.f bt245.1 bt245.2 9218868437227405312 t237).bind fun t247 => ((pair_Halves.f t238).bind fun bt248 => ((steelyardlaw05_is.f bt248.1 bt248.2 0 t238).bind fun t250 => ((pair_Product.f 4591870180066957722 4621819117588971520).bind fun bt251 => ((steelyardlaw05_is.f bt251.1 bt251.2 4607182418800017408 4363988038922010624).bind fun t253 => ((pair_Product.f 13830554455654793216 0).bind fun bt254 => ((steelyardlaw05_is.f bt254.1 bt254.2 t238 0).bind fun t256 => ((steelyardlaw05_power.f 1000).bind fun t257 => ((pair_Product.f t257 4607182418800017408).bind fun bt258 => ((steelyardlaw05_power.f 1000).bind fun t260 => ((steelyardlaw05_is.f bt258.1 bt258.2 t260 t237).bind fun t261 => ((pair_Sum.f 4607182418800017408 13830554455654793216).bind fun bt262 => ((steelyardlaw05_is.f bt262.1 bt262.2 0 0).bind fun t264 => (if t236 = true then (if t241 = true then (if t244 = true then (if t247 = true then (if t250 = true then (if t253 = true then (if t256 = true then (if t261 = true then (some t264) else (none)) else (none)) else (none)) else (none)) else (none)) else (none)) else (none)) else (none))))))))))))))))))))))) = some r := h
  clear h
  replace H := Option.bind_eq_some_iff.mp H
  obtain ⟨t236, A10, H⟩ := H
  replace H : ((steelyardref05_Odd.f).bind fun t237 => ((steelyardref05_Turned.f 0).bind fun t238 => ((pair_Sum.f 4591870180066957722 4596373779694328218).bind fun bt239 => ((steelyardlaw05_is.f bt239.1 bt239.2 4599075939470750516 13582856476149415936).bind fun t241 => ((pair_Sum.f 9218868437227405311 9218868437227405311).bind fun bt242 => ((steelyardlaw05_is.f bt242.1 bt242.2 9218868437227405312 t237).bind fun t244 => ((pair_Sum.f 9218868437227405312 4607182418800017408).bind fun bt245 => ((steelyardlaw05_is.f bt245.1 bt245.2 9218868437227405312 t237).bind fun t247 => ((pair_Halves.f t238).bind fun bt248 => ((steelyardlaw05_is.f bt248.1 bt248.2 0 t238).bind fun t250 => ((pair_Product.f 4591870180066957722 4621819117588971520).bind fun bt251 => ((steelyardlaw05_is.f bt251.1 bt251.2 4607182418800017408 4363988038922010624).bind fun t253 => ((pair_Product.f 13830554455654793216 0).bind fun bt254 => ((steelyardlaw05_is.f bt254.1 bt254.2 t238 0).bind fun t256 => ((steelyardlaw05_power.f 1000).bind fun t257 => ((pair_Product.f t257 4607182418800017408).bind fun bt258 => ((steelyardlaw05_power.f 1000).bind fun t260 => ((steelyardlaw05_is.f bt258.1 bt258.2 t260 t237).bind fun t261 => ((pair_Sum.f 4607182418800017408 13830554455654793216).bind fun bt262 => ((steelyardlaw05_is.f bt262.1 bt262.2 0 0).bind fun t264 => (if t236 = true then (if t241 = true then (if t244 = true then (if t247 = true then (if t250 = true then (if t253 = true then (if t256 = true then (if t261 = true then (some t264) else (none)) else (none)) else (none)) else (none)) else (none)) else (none)) else (none)) else (none)))))))))))))))))))))) = some r := H
  have A1 := Aside0.mk A10
  clear A10
  replace H := Option.bind_eq_some_iff.mp H
  obtain ⟨t237, A20, H⟩ := H
  replace H : ((steelyardref05_Turned.f 0).bind fun t238 => ((pair_Sum.f 4591870180066957722 4596373779694328218).bind fun bt239 => ((steelyardlaw05_is.f bt239.1 bt239.2 4599075939470750516 13582856476149415936).bind fun t241 => ((pair_Sum.f 9218868437227405311 9218868437227405311).bind fun bt242 => ((steelyardlaw05_is.f bt242.1 bt242.2 9218868437227405312 t237).bind fun t244 => ((pair_Sum.f 9218868437227405312 4607182418800017408).bind fun bt245 => ((steelyardlaw05_is.f bt245.1 bt245.2 9218868437227405312 t237).bind fun t247 => ((pair_Halves.f t238).bind fun bt248 => ((steelyardlaw05_is.f bt248.1 bt248.2 0 t238).bind fun t250 => ((pair_Product.f 4591870180066957722 4621819117588971520).bind fun bt251 => ((steelyardlaw05_is.f bt251.1 bt251.2 4607182418800017408 4363988038922010624).bind fun t253 => ((pair_Product.f 13830554455654793216 0).bind fun bt254 => ((steelyardlaw05_is.f bt254.1 bt254.2 t238 0).bind fun t256 => ((steelyardlaw05_power.f 1000).bind fun t257 => ((pair_Product.f t257 4607182418800017408).bind fun bt258 => ((steelyardlaw05_power.f 1000).bind fun t260 => ((steelyardlaw05_is.f bt258.1 bt258.2 t260 t237).bind fun t261 => ((pair_Sum.f 4607182418800017408 13830554455654793216).bind fun bt262 => ((steelyardlaw05_is.f bt262.1 bt262.2 0 0).bind fun t264 => (if t236 = true then (if t241 = true then (if t244 = true then (if t247 = true then (if t250 = true then (if t253 = true then (if t256 = true then (if t261 = true then (some t264) else (none)) else (none)) else (none)) else (none)) else (none)) else (none)) else (none)) else (none))))))))))))))))))))) = some r := H
  have A2 := Aside0.mk A20
  clear A20
  replace H := Option.bind_eq_some_iff.mp H
  obtain ⟨t238, A30, H⟩ := H
  replace H : ((pair_Sum.f 4591870180066957722 4596373779694328218).bind fun bt239 => ((steelyardlaw05_is.f bt239.1 bt239.2 4599075939470750516 13582856476149415936).bind fun t241 => ((pair_Sum.f 9218868437227405311 9218868437227405311).bind fun bt242 => ((steelyardlaw05_is.f bt242.1 bt242.2 9218868437227405312 t237).bind fun t244 => ((pair_Sum.f 9218868437227405312 4607182418800017408).bind fun bt245 => ((steelyardlaw05_is.f bt245.1 bt245.2 9218868437227405312 t237).bind fun t247 => ((pair_Halves.f t238).bind fun bt248 => ((steelyardlaw05_is.f bt248.1 bt248.2 0 t238).bind fun t250 => ((pair_Product.f 4591870180066957722 4621819117588971520).bind fun bt251 => ((steelyardlaw05_is.f bt251.1 bt251.2 4607182418800017408 4363988038922010624).bind fun t253 => ((pair_Product.f 13830554455654793216 0).bind fun bt254 => ((steelyardlaw05_is.f bt254.1 bt254.2 t238 0).bind fun t256 => ((steelyardlaw05_power.f 1000).bind fun t257 => ((pair_Product.f t257 4607182418800017408).bind fun bt258 => ((steelyardlaw05_power.f 1000).bind fun t260 => ((steelyardlaw05_is.f bt258.1 bt258.2 t260 t237).bind fun t261 => ((pair_Sum.f 4607182418800017408 13830554455654793216).bind fun bt262 => ((steelyardlaw05_is.f bt262.1 bt262.2 0 0).bind fun t264 => (if t236 = true then (if t241 = true then (if t244 = true then (if t247 = true then (if t250 = true then (if t253 = true then (if t256 = true then (if t261 = true then (some t264) else (none)) else (none)) else (none)) else (none)) else (none)) else (none)) else (none)) else (none)))))))))))))))))))) = some r := H
  have A3 := Aside0.mk A30
  clear A30
  replace H := Option.bind_eq_some_iff.mp H
  obtain ⟨⟨t239, t240⟩, A40, H⟩ := H
  replace H : ((steelyardlaw05_is.f t239 t240 4599075939470750516 13582856476149415936).bind fun t241 => ((pair_Sum.f 9218868437227405311 9218868437227405311).bind fun bt242 => ((steelyardlaw05_is.f bt242.1 bt242.2 9218868437227405312 t237).bind fun t244 => ((pair_Sum.f 9218868437227405312 4607182418800017408).bind fun bt245 => ((steelyardlaw05_is.f bt245.1 bt245.2 9218868437227405312 t237).bind fun t247 => ((pair_Halves.f t238).bind fun bt248 => ((steelyardlaw05_is.f bt248.1 bt248.2 0 t238).bind fun t250 => ((pair_Product.f 4591870180066957722 4621819117588971520).bind fun bt251 => ((steelyardlaw05_is.f bt251.1 bt251.2 4607182418800017408 4363988038922010624).bind fun t253 => ((pair_Product.f 13830554455654793216 0).bind fun bt254 => ((steelyardlaw05_is.f bt254.1 bt254.2 t238 0).bind fun t256 => ((steelyardlaw05_power.f 1000).bind fun t257 => ((pair_Product.f t257 4607182418800017408).bind fun bt258 => ((steelyardlaw05_power.f 1000).bind fun t260 => ((steelyardlaw05_is.f bt258.1 bt258.2 t260 t237).bind fun t261 => ((pair_Sum.f 4607182418800017408 13830554455654793216).bind fun bt262 => ((steelyardlaw05_is.f bt262.1 bt262.2 0 0).bind fun t264 => (if t236 = true then (if t241 = true then (if t244 = true then (if t247 = true then (if t250 = true then (if t253 = true then (if t256 = true then (if t261 = true then (some t264) else (none)) else (none)) else (none)) else (none)) else (none)) else (none)) else (none)) else (none))))))))))))))))))) = some r := H
  have A4 := Aside0.mk A40
  clear A40
  replace H := Option.bind_eq_some_iff.mp H
  obtain ⟨t241, A50, H⟩ := H
  replace H : ((pair_Sum.f 9218868437227405311 9218868437227405311).bind fun bt242 => ((steelyardlaw05_is.f bt242.1 bt242.2 9218868437227405312 t237).bind fun t244 => ((pair_Sum.f 9218868437227405312 4607182418800017408).bind fun bt245 => ((steelyardlaw05_is.f bt245.1 bt245.2 9218868437227405312 t237).bind fun t247 => ((pair_Halves.f t238).bind fun bt248 => ((steelyardlaw05_is.f bt248.1 bt248.2 0 t238).bind fun t250 => ((pair_Product.f 4591870180066957722 4621819117588971520).bind fun bt251 => ((steelyardlaw05_is.f bt251.1 bt251.2 4607182418800017408 4363988038922010624).bind fun t253 => ((pair_Product.f 13830554455654793216 0).bind fun bt254 => ((steelyardlaw05_is.f bt254.1 bt254.2 t238 0).bind fun t256 => ((steelyardlaw05_power.f 1000).bind fun t257 => ((pair_Product.f t257 4607182418800017408).bind fun bt258 => ((steelyardlaw05_power.f 1000).bind fun t260 => ((steelyardlaw05_is.f bt258.1 bt258.2 t260 t237).bind fun t261 => ((pair_Sum.f 4607182418800017408 13830554455654793216).bind fun bt262 => ((steelyardlaw05_is.f bt262.1 bt262.2 0 0).bind fun t264 => (if t236 = true then (if t241 = true then (if t244 = true then (if t247 = true then (if t250 = true then (if t253 = true then (if t256 = true then (if t261 = true then (some t264) else (none)) else (none)) else (none)) else (none)) else (none)) else (none)) else (none)) else (none)))))))))))))))))) = some r := H
  have A5 := Aside0.mk A50
  clear A50
  replace H := Option.bind_eq_some_iff.mp H
  obtain ⟨⟨t242, t243⟩, A60, H⟩ := H
  replace H : ((steelyardlaw05_is.f t242 t243 9218868437227405312 t237).bind fun t244 => ((pair_Sum.f 9218868437227405312 4607182418800017408).bind fun bt245 => ((steelyardlaw05_is.f bt245.1 bt245.2 9218868437227405312 t237).bind fun t247 => ((pair_Halves.f t238).bind fun bt248 => ((steelyardlaw05_is.f bt248.1 bt248.2 0 t238).bind fun t250 => ((pair_Product.f 4591870180066957722 4621819117588971520).bind fun bt251 => ((steelyardlaw05_is.f bt251.1 bt251.2 4607182418800017408 4363988038922010624).bind fun t253 => ((pair_Product.f 13830554455654793216 0).bind fun bt254 => ((steelyardlaw05_is.f bt254.1 bt254.2 t238 0).bind fun t256 => ((steelyardlaw05_power.f 1000).bind fun t257 => ((pair_Product.f t257 4607182418800017408).bind fun bt258 => ((steelyardlaw05_power.f 1000).bind fun t260 => ((steelyardlaw05_is.f bt258.1 bt258.2 t260 t237).bind fun t261 => ((pair_Sum.f 4607182418800017408 13830554455654793216).bind fun bt262 => ((steelyardlaw05_is.f bt262.1 bt262.2 0 0).bind fun t264 => (if t236 = true then (if t241 = true then (if t244 = true then (if t247 = true then (if t250 = true then (if t253 = true then (if t256 = true then (if t261 = true then (some t264) else (none)) else (none)) else (none)) else (none)) else (none)) else (none)) else (none)) else (none))))))))))))))))) = some r := H
  have A6 := Aside0.mk A60
  clear A60
  replace H := Option.bind_eq_some_iff.mp H
  obtain ⟨t244, A70, H⟩ := H
  replace H : ((pair_Sum.f 9218868437227405312 4607182418800017408).bind fun bt245 => ((steelyardlaw05_is.f bt245.1 bt245.2 9218868437227405312 t237).bind fun t247 => ((pair_Halves.f t238).bind fun bt248 => ((steelyardlaw05_is.f bt248.1 bt248.2 0 t238).bind fun t250 => ((pair_Product.f 4591870180066957722 4621819117588971520).bind fun bt251 => ((steelyardlaw05_is.f bt251.1 bt251.2 4607182418800017408 4363988038922010624).bind fun t253 => ((pair_Product.f 13830554455654793216 0).bind fun bt254 => ((steelyardlaw05_is.f bt254.1 bt254.2 t238 0).bind fun t256 => ((steelyardlaw05_power.f 1000).bind fun t257 => ((pair_Product.f t257 4607182418800017408).bind fun bt258 => ((steelyardlaw05_power.f 1000).bind fun t260 => ((steelyardlaw05_is.f bt258.1 bt258.2 t260 t237).bind fun t261 => ((pair_Sum.f 4607182418800017408 13830554455654793216).bind fun bt262 => ((steelyardlaw05_is.f bt262.1 bt262.2 0 0).bind fun t264 => (if t236 = true then (if t241 = true then (if t244 = true then (if t247 = true then (if t250 = true then (if t253 = true then (if t256 = true then (if t261 = true then (some t264) else (none)) else (none)) else (none)) else (none)) else (none)) else (none)) else (none)) else (none)))))))))))))))) = some r := H
  have A7 := Aside0.mk A70
  clear A70
  replace H := Option.bind_eq_some_iff.mp H
  obtain ⟨⟨t245, t246⟩, A80, H⟩ := H
  replace H : ((steelyardlaw05_is.f t245 t246 9218868437227405312 t237).bind fun t247 => ((pair_Halves.f t238).bind fun bt248 => ((steelyardlaw05_is.f bt248.1 bt248.2 0 t238).bind fun t250 => ((pair_Product.f 4591870180066957722 4621819117588971520).bind fun bt251 => ((steelyardlaw05_is.f bt251.1 bt251.2 4607182418800017408 4363988038922010624).bind fun t253 => ((pair_Product.f 13830554455654793216 0).bind fun bt254 => ((steelyardlaw05_is.f bt254.1 bt254.2 t238 0).bind fun t256 => ((steelyardlaw05_power.f 1000).bind fun t257 => ((pair_Product.f t257 4607182418800017408).bind fun bt258 => ((steelyardlaw05_power.f 1000).bind fun t260 => ((steelyardlaw05_is.f bt258.1 bt258.2 t260 t237).bind fun t261 => ((pair_Sum.f 4607182418800017408 13830554455654793216).bind fun bt262 => ((steelyardlaw05_is.f bt262.1 bt262.2 0 0).bind fun t264 => (if t236 = true then (if t241 = true then (if t244 = true then (if t247 = true then (if t250 = true then (if t253 = true then (if t256 = true then (if t261 = true then (some t264) else (none)) else (none)) else (none)) else (none)) else (none)) else (none)) else (none)) else (none))))))))))))))) = some r := H
  have A8 := Aside0.mk A80
  clear A80
  replace H := Option.bind_eq_some_iff.mp H
  obtain ⟨t247, A90, H⟩ := H
  replace H : ((pair_Halves.f t238).bind fun bt248 => ((steelyardlaw05_is.f bt248.1 bt248.2 0 t238).bind fun t250 => ((pair_Product.f 4591870180066957722 4621819117588971520).bind fun bt251 => ((steelyardlaw05_is.f bt251.1 bt251.2 4607182418800017408 4363988038922010624).bind fun t253 => ((pair_Product.f 13830554455654793216 0).bind fun bt254 => ((steelyardlaw05_is.f bt254.1 bt254.2 t238 0).bind fun t256 => ((steelyardlaw05_power.f 1000).bind fun t257 => ((pair_Product.f t257 4607182418800017408).bind fun bt258 => ((steelyardlaw05_power.f 1000).bind fun t260 => ((steelyardlaw05_is.f bt258.1 bt258.2 t260 t237).bind fun t261 => ((pair_Sum.f 4607182418800017408 13830554455654793216).bind fun bt262 => ((steelyardlaw05_is.f bt262.1 bt262.2 0 0).bind fun t264 => (if t236 = true then (if t241 = true then (if t244 = true then (if t247 = true then (if t250 = true then (if t253 = true then (if t256 = true then (if t261 = true then (some t264) else (none)) else (none)) else (none)) else (none)) else (none)) else (none)) else (none)) else (none)))))))))))))) = some r := H
  have A9 := Aside0.mk A90
  clear A90
  replace H := Option.bind_eq_some_iff.mp H
  obtain ⟨⟨t248, t249⟩, A100, H⟩ := H
  replace H : ((steelyardlaw05_is.f t248 t249 0 t238).bind fun t250 => ((pair_Product.f 4591870180066957722 4621819117588971520).bind fun bt251 => ((steelyardlaw05_is.f bt251.1 bt251.2 4607182418800017408 4363988038922010624).bind fun t253 => ((pair_Product.f 13830554455654793216 0).bind fun bt254 => ((steelyardlaw05_is.f bt254.1 bt254.2 t238 0).bind fun t256 => ((steelyardlaw05_power.f 1000).bind fun t257 => ((pair_Product.f t257 4607182418800017408).bind fun bt258 => ((steelyardlaw05_power.f 1000).bind fun t260 => ((steelyardlaw05_is.f bt258.1 bt258.2 t260 t237).bind fun t261 => ((pair_Sum.f 4607182418800017408 13830554455654793216).bind fun bt262 => ((steelyardlaw05_is.f bt262.1 bt262.2 0 0).bind fun t264 => (if t236 = true then (if t241 = true then (if t244 = true then (if t247 = true then (if t250 = true then (if t253 = true then (if t256 = true then (if t261 = true then (some t264) else (none)) else (none)) else (none)) else (none)) else (none)) else (none)) else (none)) else (none))))))))))))) = some r := H
  have A10 := Aside0.mk A100
  clear A100
  replace H := Option.bind_eq_some_iff.mp H
  obtain ⟨t250, A110, H⟩ := H
  replace H : ((pair_Product.f 4591870180066957722 4621819117588971520).bind fun bt251 => ((steelyardlaw05_is.f bt251.1 bt251.2 4607182418800017408 4363988038922010624).bind fun t253 => ((pair_Product.f 13830554455654793216 0).bind fun bt254 => ((steelyardlaw05_is.f bt254.1 bt254.2 t238 0).bind fun t256 => ((steelyardlaw05_power.f 1000).bind fun t257 => ((pair_Product.f t257 4607182418800017408).bind fun bt258 => ((steelyardlaw05_power.f 1000).bind fun t260 => ((steelyardlaw05_is.f bt258.1 bt258.2 t260 t237).bind fun t261 => ((pair_Sum.f 4607182418800017408 13830554455654793216).bind fun bt262 => ((steelyardlaw05_is.f bt262.1 bt262.2 0 0).bind fun t264 => (if t236 = true then (if t241 = true then (if t244 = true then (if t247 = true then (if t250 = true then (if t253 = true then (if t256 = true then (if t261 = true then (some t264) else (none)) else (none)) else (none)) else (none)) else (none)) else (none)) else (none)) else (none)))))))))))) = some r := H
  have A11 := Aside0.mk A110
  clear A110
  replace H := Option.bind_eq_some_iff.mp H
  obtain ⟨⟨t251, t252⟩, A120, H⟩ := H
  replace H : ((steelyardlaw05_is.f t251 t252 4607182418800017408 4363988038922010624).bind fun t253 => ((pair_Product.f 13830554455654793216 0).bind fun bt254 => ((steelyardlaw05_is.f bt254.1 bt254.2 t238 0).bind fun t256 => ((steelyardlaw05_power.f 1000).bind fun t257 => ((pair_Product.f t257 4607182418800017408).bind fun bt258 => ((steelyardlaw05_power.f 1000).bind fun t260 => ((steelyardlaw05_is.f bt258.1 bt258.2 t260 t237).bind fun t261 => ((pair_Sum.f 4607182418800017408 13830554455654793216).bind fun bt262 => ((steelyardlaw05_is.f bt262.1 bt262.2 0 0).bind fun t264 => (if t236 = true then (if t241 = true then (if t244 = true then (if t247 = true then (if t250 = true then (if t253 = true then (if t256 = true then (if t261 = true then (some t264) else (none)) else (none)) else (none)) else (none)) else (none)) else (none)) else (none)) else (none))))))))))) = some r := H
  have A12 := Aside0.mk A120
  clear A120
  replace H := Option.bind_eq_some_iff.mp H
  obtain ⟨t253, A130, H⟩ := H
  replace H : ((pair_Product.f 13830554455654793216 0).bind fun bt254 => ((steelyardlaw05_is.f bt254.1 bt254.2 t238 0).bind fun t256 => ((steelyardlaw05_power.f 1000).bind fun t257 => ((pair_Product.f t257 4607182418800017408).bind fun bt258 => ((steelyardlaw05_power.f 1000).bind fun t260 => ((steelyardlaw05_is.f bt258.1 bt258.2 t260 t237).bind fun t261 => ((pair_Sum.f 4607182418800017408 13830554455654793216).bind fun bt262 => ((steelyardlaw05_is.f bt262.1 bt262.2 0 0).bind fun t264 => (if t236 = true then (if t241 = true then (if t244 = true then (if t247 = true then (if t250 = true then (if t253 = true then (if t256 = true then (if t261 = true then (some t264) else (none)) else (none)) else (none)) else (none)) else (none)) else (none)) else (none)) else (none)))))))))) = some r := H
  have A13 := Aside0.mk A130
  clear A130
  replace H := Option.bind_eq_some_iff.mp H
  obtain ⟨⟨t254, t255⟩, A140, H⟩ := H
  replace H : ((steelyardlaw05_is.f t254 t255 t238 0).bind fun t256 => ((steelyardlaw05_power.f 1000).bind fun t257 => ((pair_Product.f t257 4607182418800017408).bind fun bt258 => ((steelyardlaw05_power.f 1000).bind fun t260 => ((steelyardlaw05_is.f bt258.1 bt258.2 t260 t237).bind fun t261 => ((pair_Sum.f 4607182418800017408 13830554455654793216).bind fun bt262 => ((steelyardlaw05_is.f bt262.1 bt262.2 0 0).bind fun t264 => (if t236 = true then (if t241 = true then (if t244 = true then (if t247 = true then (if t250 = true then (if t253 = true then (if t256 = true then (if t261 = true then (some t264) else (none)) else (none)) else (none)) else (none)) else (none)) else (none)) else (none)) else (none))))))))) = some r := H
  have A14 := Aside0.mk A140
  clear A140
  replace H := Option.bind_eq_some_iff.mp H
  obtain ⟨t256, A150, H⟩ := H
  replace H : ((steelyardlaw05_power.f 1000).bind fun t257 => ((pair_Product.f t257 4607182418800017408).bind fun bt258 => ((steelyardlaw05_power.f 1000).bind fun t260 => ((steelyardlaw05_is.f bt258.1 bt258.2 t260 t237).bind fun t261 => ((pair_Sum.f 4607182418800017408 13830554455654793216).bind fun bt262 => ((steelyardlaw05_is.f bt262.1 bt262.2 0 0).bind fun t264 => (if t236 = true then (if t241 = true then (if t244 = true then (if t247 = true then (if t250 = true then (if t253 = true then (if t256 = true then (if t261 = true then (some t264) else (none)) else (none)) else (none)) else (none)) else (none)) else (none)) else (none)) else (none)))))))) = some r := H
  have A15 := Aside0.mk A150
  clear A150
  replace H := Option.bind_eq_some_iff.mp H
  obtain ⟨t257, A160, H⟩ := H
  replace H : ((pair_Product.f t257 4607182418800017408).bind fun bt258 => ((steelyardlaw05_power.f 1000).bind fun t260 => ((steelyardlaw05_is.f bt258.1 bt258.2 t260 t237).bind fun t261 => ((pair_Sum.f 4607182418800017408 13830554455654793216).bind fun bt262 => ((steelyardlaw05_is.f bt262.1 bt262.2 0 0).bind fun t264 => (if t236 = true then (if t241 = true then (if t244 = true then (if t247 = true then (if t250 = true then (if t253 = true then (if t256 = true then (if t261 = true then (some t264) else (none)) else (none)) else (none)) else (none)) else (none)) else (none)) else (none)) else (none))))))) = some r := H
  have A16 := Aside0.mk A160
  clear A160
  replace H := Option.bind_eq_some_iff.mp H
  obtain ⟨⟨t258, t259⟩, A170, H⟩ := H
  replace H : ((steelyardlaw05_power.f 1000).bind fun t260 => ((steelyardlaw05_is.f t258 t259 t260 t237).bind fun t261 => ((pair_Sum.f 4607182418800017408 13830554455654793216).bind fun bt262 => ((steelyardlaw05_is.f bt262.1 bt262.2 0 0).bind fun t264 => (if t236 = true then (if t241 = true then (if t244 = true then (if t247 = true then (if t250 = true then (if t253 = true then (if t256 = true then (if t261 = true then (some t264) else (none)) else (none)) else (none)) else (none)) else (none)) else (none)) else (none)) else (none)))))) = some r := H
  have A17 := Aside0.mk A170
  clear A170
  replace H := Option.bind_eq_some_iff.mp H
  obtain ⟨t260, A180, H⟩ := H
  replace H : ((steelyardlaw05_is.f t258 t259 t260 t237).bind fun t261 => ((pair_Sum.f 4607182418800017408 13830554455654793216).bind fun bt262 => ((steelyardlaw05_is.f bt262.1 bt262.2 0 0).bind fun t264 => (if t236 = true then (if t241 = true then (if t244 = true then (if t247 = true then (if t250 = true then (if t253 = true then (if t256 = true then (if t261 = true then (some t264) else (none)) else (none)) else (none)) else (none)) else (none)) else (none)) else (none)) else (none))))) = some r := H
  have A18 := Aside0.mk A180
  clear A180
  replace H := Option.bind_eq_some_iff.mp H
  obtain ⟨t261, A190, H⟩ := H
  replace H : ((pair_Sum.f 4607182418800017408 13830554455654793216).bind fun bt262 => ((steelyardlaw05_is.f bt262.1 bt262.2 0 0).bind fun t264 => (if t236 = true then (if t241 = true then (if t244 = true then (if t247 = true then (if t250 = true then (if t253 = true then (if t256 = true then (if t261 = true then (some t264) else (none)) else (none)) else (none)) else (none)) else (none)) else (none)) else (none)) else (none)))) = some r := H
  have A19 := Aside0.mk A190
  clear A190
  replace H := Option.bind_eq_some_iff.mp H
  obtain ⟨⟨t262, t263⟩, A200, H⟩ := H
  replace H : ((steelyardlaw05_is.f t262 t263 0 0).bind fun t264 => (if t236 = true then (if t241 = true then (if t244 = true then (if t247 = true then (if t250 = true then (if t253 = true then (if t256 = true then (if t261 = true then (some t264) else (none)) else (none)) else (none)) else (none)) else (none)) else (none)) else (none)) else (none))) = some r := H
  have A20 := Aside0.mk A200
  clear A200
  replace H := Option.bind_eq_some_iff.mp H
  obtain ⟨t264, A210, H⟩ := H
  replace H : (if t236 = true then (if t241 = true then (if t244 = true then (if t247 = true then (if t250 = true then (if t253 = true then (if t256 = true then (if t261 = true then (some t264) else (none)) else (none)) else (none)) else (none)) else (none)) else (none)) else (none)) else (none)) = some r := H
  have A21 := Aside0.mk A210
  clear A210
  by_cases c22 : t236 = true
  · subst c22
    have H1 : (if t241 = true then (if t244 = true then (if t247 = true then (if t250 = true then (if t253 = true then (if t256 = true then (if t261 = true then (some t264) else (none)) else (none)) else (none)) else (none)) else (none)) else (none)) else (none)) = some r := by rw [if_pos rfl] at H; exact H
    clear H
    have H := H1
    clear H1
    by_cases c23 : t241 = true
    · subst c23
      have H1 : (if t244 = true then (if t247 = true then (if t250 = true then (if t253 = true then (if t256 = true then (if t261 = true then (some t264) else (none)) else (none)) else (none)) else (none)) else (none)) else (none)) = some r := by rw [if_pos rfl] at H; exact H
      clear H
      have H := H1
      clear H1
      by_cases c24 : t244 = true
      · subst c24
        have H1 : (if t247 = true then (if t250 = true then (if t253 = true then (if t256 = true then (if t261 = true then (some t264) else (none)) else (none)) else (none)) else (none)) else (none)) = some r := by rw [if_pos rfl] at H; exact H
        clear H
        have H := H1
        clear H1
        by_cases c25 : t247 = true
        · subst c25
          have H1 : (if t250 = true then (if t253 = true then (if t256 = true then (if t261 = true then (some t264) else (none)) else (none)) else (none)) else (none)) = some r := by rw [if_pos rfl] at H; exact H
          clear H
          have H := H1
          clear H1
          by_cases c26 : t250 = true
          · subst c26
            have H1 : (if t253 = true then (if t256 = true then (if t261 = true then (some t264) else (none)) else (none)) else (none)) = some r := by rw [if_pos rfl] at H; exact H
            clear H
            have H := H1
            clear H1
            by_cases c27 : t253 = true
            · subst c27
              have H1 : (if t256 = true then (if t261 = true then (some t264) else (none)) else (none)) = some r := by rw [if_pos rfl] at H; exact H
              clear H
              have H := H1
              clear H1
              by_cases c28 : t256 = true
              · subst c28
                have H1 : (if t261 = true then (some t264) else (none)) = some r := by rw [if_pos rfl] at H; exact H
                clear H
                have H := H1
                clear H1
                by_cases c29 : t261 = true
                · subst c29
                  have H1 : (some t264) = some r := by rw [if_pos rfl] at H; exact H
                  clear H
                  have H := H1
                  clear H1
                  obtain rfl := Option.some.inj H
                  go_enter Try.func3, Try.ntmps3
                  go_wp2_with (first | ((with_reducible refine gate_callee (f := 7) rfl ?_); refine goesL_ (some 14) rfl rfl Try.func7 (by kernel_rfl) rfl #[] rfl (by (try simp only [List.map_toArray, List.map_cons, List.map_nil]); first | done | rfl | (simp only [List.length_drop, List.length_take]; rfl)) ?_; (with_reducible refine (steelyardlaw05_awake.calls  true _ A1.out).mono ?_); rintro e w30 ⟨rfl, hb⟩; refine ⟨_, rfl, ?_⟩; have n0_ := bs_ HB hb; clear HB; have HB := n0_; clear n0_; (try clear hb); (try clear hb2); (try clear hk); (try clear hi)) | ((with_reducible refine gate_callee (f := 9) rfl ?_); refine goesL_ (some 17) rfl rfl Try.func9 (by kernel_rfl) rfl #[] rfl (by (try simp only [List.map_toArray, List.map_cons, List.map_nil]); first | done | rfl | (simp only [List.length_drop, List.length_take]; rfl)) ?_; (with_reducible refine (steelyardref05_Odd.calls  t237 _ A2.out).mono ?_); rintro e w' ⟨rfl, ⟨nd, rfl⟩⟩; refine ⟨_, rfl, ?_⟩) | ((with_reducible refine gate_callee (f := 10) rfl ?_); refine goesL_ (some 18) rfl rfl Try.func10 (by kernel_rfl) rfl #[.float .f64 0] rfl (by (try simp only [List.map_toArray, List.map_cons, List.map_nil]); first | done | rfl | (simp only [List.length_drop, List.length_take]; rfl)) ?_; (with_reducible refine (steelyardref05_Turned.calls 0 t238 _ A3.out).mono ?_); rintro e w' ⟨rfl, ⟨nd, rfl⟩⟩; refine ⟨_, rfl, ?_⟩) | ((with_reducible refine gate_callee (f := 12) rfl ?_); refine goesL_ (some 19) rfl rfl Try.func12 (by kernel_rfl) rfl #[.float .f64 4591870180066957722, .float .f64 4596373779694328218] rfl (by (try simp only [List.map_toArray, List.map_cons, List.map_nil]); first | done | rfl | (simp only [List.length_drop, List.length_take]; rfl)) ?_; (with_reducible refine (pair_Sum.calls 4591870180066957722 4596373779694328218 t239 t240 _ A4.out).mono ?_); rintro e w31 ⟨rfl, hb⟩; refine ⟨_, rfl, ?_⟩; have n0_ := bs_ HB hb; clear HB; have HB := n0_; clear n0_; (try clear hb); (try clear hb2); (try clear hk); (try clear hi)) | ((with_reducible refine gate_callee (f := 11) rfl ?_); refine goesL_ (some 20) rfl rfl Try.func11 (by kernel_rfl) rfl #[.agg #[.float .f64 t239, .float .f64 t240], .float .f64 4599075939470750516, .float .f64 13582856476149415936] rfl (by (try simp only [List.map_toArray, List.map_cons, List.map_nil]); first | done | rfl | (simp only [List.length_drop, List.length_take]; rfl)) ?_; (with_reducible refine (steelyardlaw05_is.calls t239 t240 4599075939470750516 13582856476149415936 true _ A5.out).mono ?_); rintro e w32 ⟨rfl, hb⟩; refine ⟨_, rfl, ?_⟩; have n0_ := bs_ HB hb; clear HB; have HB := n0_; clear n0_; (try clear hb); (try clear hb2); (try clear hk); (try clear hi)) | ((with_reducible refine gate_callee (f := 12) rfl ?_); refine goesL_ (some 23) rfl rfl Try.func12 (by kernel_rfl) rfl #[.float .f64 9218868437227405311, .float .f64 9218868437227405311] rfl (by (try simp only [List.map_toArray, List.map_cons, List.map_nil]); first | done | rfl | (simp only [List.length_drop, List.length_take]; rfl)) ?_; (with_reducible refine (pair_Sum.calls 9218868437227405311 9218868437227405311 t242 t243 _ A6.out).mono ?_); rintro e w33 ⟨rfl, hb⟩; refine ⟨_, rfl, ?_⟩; have n0_ := bs_ HB hb; clear HB; have HB := n0_; clear n0_; (try clear hb); (try clear hb2); (try clear hk); (try clear hi)) | ((with_reducible refine gate_callee (f := 11) rfl ?_); refine goesL_ (some 26) rfl rfl Try.func11 (by kernel_rfl) rfl #[.agg #[.float .f64 t242, .float .f64 t243], .float .f64 9218868437227405312, .float .f64 t237] rfl (by (try simp only [List.map_toArray, List.map_cons, List.map_nil]); first | done | rfl | (simp only [List.length_drop, List.length_take]; rfl)) ?_; (with_reducible refine (steelyardlaw05_is.calls t242 t243 9218868437227405312 t237 true _ A7.out).mono ?_); rintro e w34 ⟨rfl, hb⟩; refine ⟨_, rfl, ?_⟩; have n0_ := bs_ HB hb; clear HB; have HB := n0_; clear n0_; (try clear hb); (try clear hb2); (try clear hk); (try clear hi)) | ((with_reducible refine gate_callee (f := 12) rfl ?_); refine goesL_ (some 28) rfl rfl Try.func12 (by kernel_rfl) rfl #[.float .f64 9218868437227405312, .float .f64 4607182418800017408] rfl (by (try simp only [List.map_toArray, List.map_cons, List.map_nil]); first | done | rfl | (simp only [List.length_drop, List.length_take]; rfl)) ?_; (with_reducible refine (pair_Sum.calls 9218868437227405312 4607182418800017408 t245 t246 _ A8.out).mono ?_); rintro e w35 ⟨rfl, hb⟩; refine ⟨_, rfl, ?_⟩; have n0_ := bs_ HB hb; clear HB; have HB := n0_; clear n0_; (try clear hb); (try clear hb2); (try clear hk); (try clear hi)) | ((with_reducible refine gate_callee (f := 11) rfl ?_); refine goesL_ (some 31) rfl rfl Try.func11 (by kernel_rfl) rfl #[.agg #[.float .f64 t245, .float .f64 t246], .float .f64 9218868437227405312, .float .f64 t237] rfl (by (try simp only [List.map_toArray, List.map_cons, List.map_nil]); first | done | rfl | (simp only [List.length_drop, List.length_take]; rfl)) ?_; (with_reducible refine (steelyardlaw05_is.calls t245 t246 9218868437227405312 t237 true _ A9.out).mono ?_); rintro e w36 ⟨rfl, hb⟩; refine ⟨_, rfl, ?_⟩; have n0_ := bs_ HB hb; clear HB; have HB := n0_; clear n0_; (try clear hb); (try clear hb2); (try clear hk); (try clear hi)) | ((with_reducible refine gate_callee (f := 13) rfl ?_); refine goesL_ (some 33) rfl rfl Try.func13 (by kernel_rfl) rfl #[.float .f64 t238] rfl (by (try simp only [List.map_toArray, List.map_cons, List.map_nil]); first | done | rfl | (simp only [List.length_drop, List.length_take]; rfl)) ?_; (with_reducible refine (pair_Halves.calls t238 t248 t249 _ A10.out).mono ?_); rintro e w37 ⟨rfl, hb⟩; refine ⟨_, rfl, ?_⟩; have n0_ := bs_ HB hb; clear HB; have HB := n0_; clear n0_; (try clear hb); (try clear hb2); (try clear hk); (try clear hi)) | ((with_reducible refine gate_callee (f := 11) rfl ?_); refine goesL_ (some 35) rfl rfl Try.func11 (by kernel_rfl) rfl #[.agg #[.float .f64 t248, .float .f64 t249], .float .f64 0, .float .f64 t238] rfl (by (try simp only [List.map_toArray, List.map_cons, List.map_nil]); first | done | rfl | (simp only [List.length_drop, List.length_take]; rfl)) ?_; (with_reducible refine (steelyardlaw05_is.calls t248 t249 0 t238 true _ A11.out).mono ?_); rintro e w38 ⟨rfl, hb⟩; refine ⟨_, rfl, ?_⟩; have n0_ := bs_ HB hb; clear HB; have HB := n0_; clear n0_; (try clear hb); (try clear hb2); (try clear hk); (try clear hi)) | ((with_reducible refine gate_callee (f := 14) rfl ?_); refine goesL_ (some 36) rfl rfl Try.func14 (by kernel_rfl) rfl #[.float .f64 4591870180066957722, .float .f64 4621819117588971520] rfl (by (try simp only [List.map_toArray, List.map_cons, List.map_nil]); first | done | rfl | (simp only [List.length_drop, List.length_take]; rfl)) ?_; (with_reducible refine (pair_Product.calls 4591870180066957722 4621819117588971520 t251 t252 _ A12.out).mono ?_); rintro e w39 ⟨rfl, hb⟩; refine ⟨_, rfl, ?_⟩; have n0_ := bs_ HB hb; clear HB; have HB := n0_; clear n0_; (try clear hb); (try clear hb2); (try clear hk); (try clear hi)) | ((with_reducible refine gate_callee (f := 11) rfl ?_); refine goesL_ (some 37) rfl rfl Try.func11 (by kernel_rfl) rfl #[.agg #[.float .f64 t251, .float .f64 t252], .float .f64 4607182418800017408, .float .f64 4363988038922010624] rfl (by (try simp only [List.map_toArray, List.map_cons, List.map_nil]); first | done | rfl | (simp only [List.length_drop, List.length_take]; rfl)) ?_; (with_reducible refine (steelyardlaw05_is.calls t251 t252 4607182418800017408 4363988038922010624 true _ A13.out).mono ?_); rintro e w40 ⟨rfl, hb⟩; refine ⟨_, rfl, ?_⟩; have n0_ := bs_ HB hb; clear HB; have HB := n0_; clear n0_; (try clear hb); (try clear hb2); (try clear hk); (try clear hi)) | ((with_reducible refine gate_callee (f := 14) rfl ?_); refine goesL_ (some 38) rfl rfl Try.func14 (by kernel_rfl) rfl #[.float .f64 13830554455654793216, .float .f64 0] rfl (by (try simp only [List.map_toArray, List.map_cons, List.map_nil]); first | done | rfl | (simp only [List.length_drop, List.length_take]; rfl)) ?_; (with_reducible refine (pair_Product.calls 13830554455654793216 0 t254 t255 _ A14.out).mono ?_); rintro e w41 ⟨rfl, hb⟩; refine ⟨_, rfl, ?_⟩; have n0_ := bs_ HB hb; clear HB; have HB := n0_; clear n0_; (try clear hb); (try clear hb2); (try clear hk); (try clear hi)) | ((with_reducible refine gate_callee (f := 11) rfl ?_); refine goesL_ (some 40) rfl rfl Try.func11 (by kernel_rfl) rfl #[.agg #[.float .f64 t254, .float .f64 t255], .float .f64 t238, .float .f64 0] rfl (by (try simp only [List.map_toArray, List.map_cons, List.map_nil]); first | done | rfl | (simp only [List.length_drop, List.length_take]; rfl)) ?_; (with_reducible refine (steelyardlaw05_is.calls t254 t255 t238 0 true _ A15.out).mono ?_); rintro e w42 ⟨rfl, hb⟩; refine ⟨_, rfl, ?_⟩; have n0_ := bs_ HB hb; clear HB; have HB := n0_; clear n0_; (try clear hb); (try clear hb2); (try clear hk); (try clear hi)) | ((with_reducible refine gate_callee (f := 15) rfl ?_); refine goesL_ (some 41) rfl rfl Try.func15 (by kernel_rfl) rfl #[.int .i64 1000] rfl (by (try simp only [List.map_toArray, List.map_cons, List.map_nil]); first | done | rfl | (simp only [List.length_drop, List.length_take]; rfl)) ?_; (with_reducible refine (steelyardlaw05_power.calls 1000 t257 _ A16.out).mono ?_); rintro e w' ⟨rfl, ⟨nd, rfl⟩⟩; refine ⟨_, rfl, ?_⟩) | ((with_reducible refine gate_callee (f := 14) rfl ?_); refine goesL_ (some 42) rfl rfl Try.func14 (by kernel_rfl) rfl #[.float .f64 t257, .float .f64 4607182418800017408] rfl (by (try simp only [List.map_toArray, List.map_cons, List.map_nil]); first | done | rfl | (simp only [List.length_drop, List.length_take]; rfl)) ?_; (with_reducible refine (pair_Product.calls t257 4607182418800017408 t258 t259 _ A17.out).mono ?_); rintro e w43 ⟨rfl, hb⟩; refine ⟨_, rfl, ?_⟩; have n0_ := bs_ HB hb; clear HB; have HB := n0_; clear n0_; (try clear hb); (try clear hb2); (try clear hk); (try clear hi)) | ((with_reducible refine gate_callee (f := 15) rfl ?_); refine goesL_ (some 43) rfl rfl Try.func15 (by kernel_rfl) rfl #[.int .i64 1000] rfl (by (try simp only [List.map_toArray, List.map_cons, List.map_nil]); first | done | rfl | (simp only [List.length_drop, List.length_take]; rfl)) ?_; (with_reducible refine (steelyardlaw05_power.calls 1000 t260 _ A18.out).mono ?_); rintro e w' ⟨rfl, ⟨nd, rfl⟩⟩; refine ⟨_, rfl, ?_⟩) | ((with_reducible refine gate_callee (f := 11) rfl ?_); refine goesL_ (some 45) rfl rfl Try.func11 (by kernel_rfl) rfl #[.agg #[.float .f64 t258, .float .f64 t259], .float .f64 t260, .float .f64 t237] rfl (by (try simp only [List.map_toArray, List.map_cons, List.map_nil]); first | done | rfl | (simp only [List.length_drop, List.length_take]; rfl)) ?_; (with_reducible refine (steelyardlaw05_is.calls t258 t259 t260 t237 true _ A19.out).mono ?_); rintro e w44 ⟨rfl, hb⟩; refine ⟨_, rfl, ?_⟩; have n0_ := bs_ HB hb; clear HB; have HB := n0_; clear n0_; (try clear hb); (try clear hb2); (try clear hk); (try clear hi)) | ((with_reducible refine gate_callee (f := 12) rfl ?_); refine goesL_ (some 46) rfl rfl Try.func12 (by kernel_rfl) rfl #[.float .f64 4607182418800017408, .float .f64 13830554455654793216] rfl (by (try simp only [List.map_toArray, List.map_cons, List.map_nil]); first | done | rfl | (simp only [List.length_drop, List.length_take]; rfl)) ?_; (with_reducible refine (pair_Sum.calls 4607182418800017408 13830554455654793216 t262 t263 _ A20.out).mono ?_); rintro e w45 ⟨rfl, hb⟩; refine ⟨_, rfl, ?_⟩; have n0_ := bs_ HB hb; clear HB; have HB := n0_; clear n0_; (try clear hb); (try clear hb2); (try clear hk); (try clear hi)) | ((with_reducible refine gate_callee (f := 11) rfl ?_); refine goesL_ (some 47) rfl rfl Try.func11 (by kernel_rfl) rfl #[.agg #[.float .f64 t262, .float .f64 t263], .float .f64 0, .float .f64 0] rfl (by (try simp only [List.map_toArray, List.map_cons, List.map_nil]); first | done | rfl | (simp only [List.length_drop, List.length_take]; rfl)) ?_; (with_reducible refine (steelyardlaw05_is.calls t262 t263 0 0 t264 _ A21.out).mono ?_); rintro e w46 ⟨rfl, hb⟩; refine ⟨_, rfl, ?_⟩; have n0_ := bs_ HB hb; clear HB; have HB := n0_; clear n0_; (try clear hb); (try clear hb2); (try clear hk); (try clear hi)))
                  go_ret
                  exact ⟨by first | rfl | (simp [errW_none, errW_some] <;> rfl) | (simp [*, errW_none, errW_some] <;> rfl), by repeat (first | (with_reducible first | exact HB.out | apply below_alloc | apply pw_below_drewN | apply below_drew1) | exact HB.out)⟩
                · replace c29 := Bool.eq_false_iff.mpr c29
                  subst c29
                  have H1 : (none) = some r := by rw [if_neg (show ¬ (false = true) by decide)] at H; exact H
                  clear H
                  have H := H1
                  clear H1
                  exact absurd H (by simp)
              · replace c28 := Bool.eq_false_iff.mpr c28
                subst c28
                have H1 : (none) = some r := by rw [if_neg (show ¬ (false = true) by decide)] at H; exact H
                clear H
                have H := H1
                clear H1
                exact absurd H (by simp)
            · replace c27 := Bool.eq_false_iff.mpr c27
              subst c27
              have H1 : (none) = some r := by rw [if_neg (show ¬ (false = true) by decide)] at H; exact H
              clear H
              have H := H1
              clear H1
              exact absurd H (by simp)
          · replace c26 := Bool.eq_false_iff.mpr c26
            subst c26
            have H1 : (none) = some r := by rw [if_neg (show ¬ (false = true) by decide)] at H; exact H
            clear H
            have H := H1
            clear H1
            exact absurd H (by simp)
        · replace c25 := Bool.eq_false_iff.mpr c25
          subst c25
          have H1 : (none) = some r := by rw [if_neg (show ¬ (false = true) by decide)] at H; exact H
          clear H
          have H := H1
          clear H1
          exact absurd H (by simp)
      · replace c24 := Bool.eq_false_iff.mpr c24
        subst c24
        have H1 : (none) = some r := by rw [if_neg (show ¬ (false = true) by decide)] at H; exact H
        clear H
        have H := H1
        clear H1
        exact absurd H (by simp)
    · replace c23 := Bool.eq_false_iff.mpr c23
      subst c23
      have H1 : (none) = some r := by rw [if_neg (show ¬ (false = true) by decide)] at H; exact H
      clear H
      have H := H1
      clear H1
      exact absurd H (by simp)
  · replace c22 := Bool.eq_false_iff.mpr c22
    subst c22
    have H1 : (none) = some r := by rw [if_neg (show ¬ (false = true) by decide)] at H; exact H
    clear H
    have H := H1
    clear H1
    exact absurd H (by simp)

/-- THE ONE PURE STATEMENT of steelyardlaw05_PairNumbers: yours. -/
def steelyardlaw05_PairNumbers.Pure : Prop := steelyardlaw05_PairNumbers.f  = some true

/-! ### steelyardref02_size: function 75 -/
def steelyardref02_size.l0 : Nat → List Int → Int → Option (Int)
  | 0, _, _ => none
  | k + 1, x0, x3 => if x3 > 0 then (if 0 ≤ (wrap64 (x3 - 1)) then (if (wrap64 (x3 - 1)) < (x0.length : Int) then (if (rd x0 (wrap64 (x3 - 1))) = 0 then (steelyardref02_size.l0 k x0 (wrap64 (x3 - 1))) else (some x3)) else (none)) else (none)) else (some x3)
def steelyardref02_size.f (k : Nat) (l0 : List Int) : Option (Int) := steelyardref02_size.l0 k l0 (l0.length : Int)
theorem steelyardref02_size.mono_l : ∀ k, (∀ y0 y1, LeO (steelyardref02_size.l0 k y0 y1) (steelyardref02_size.l0 (k + 1) y0 y1))
  | 0 => fun _ _ r h => by simp [steelyardref02_size.l0] at h
  | k + 1 => by
    have ih0 := steelyardref02_size.mono_l k
    · intro y0 y1
      unfold steelyardref02_size.l0
      repeat' first
      | (with_reducible exact ih0 _ _)
      | (with_reducible exact LeO.refl _)
      | (with_reducible exact LeO.none _)
      | (with_reducible refine LeO.ite ?_ ?_)
      | (with_reducible refine LeO.bind ?_ (fun _ => ?_))
      | exact ih0 _ _
      | exact LeO.none _
      | refine LeO.ite ?_ ?_
      | refine LeO.bind ?_ (fun _ => ?_)
theorem steelyardref02_size.mono : ∀ a0 k, LeO (steelyardref02_size.f k a0) (steelyardref02_size.f (k + 1) a0) := by
  intro a0 k
  have ih0 := steelyardref02_size.mono_l k
  unfold steelyardref02_size.f
  repeat' first
      | (with_reducible exact ih0 _ _)
      | (with_reducible exact LeO.refl _)
      | (with_reducible exact LeO.none _)
      | (with_reducible refine LeO.ite ?_ ?_)
      | (with_reducible refine LeO.bind ?_ (fun _ => ?_))
      | exact ih0 _ _
      | exact LeO.none _
      | refine LeO.ite ?_ ?_
      | refine LeO.bind ?_ (fun _ => ?_)
set_option maxHeartbeats 8000000 in
set_option maxRecDepth 100000 in
theorem steelyardref02_size.calls (k : Nat) (A0 : Option Addr) (c0 : Nat) (l0 : List Int) (r : Int) (w : World) (hr0 : Kd.C (Kd.int .u32) w A0 l0.length l0) (hc0 : l0.length ≤ c0) (h : steelyardref02_size.f k l0 = some r) :
    Calls Try.prog 75 #[.slice A0 l0.length c0] w fun e w' => e = .returned (.int .i64 r) ∧ Drawn0 w w' := by
  have HR0 := Aside0.mk hr0
  have HC0 := Aside0.mk hc0
  clear hr0 hc0
  have H : (steelyardref02_size.l0 k l0 (l0.length : Int)) = some r := h
  clear h
  have H' := Aside0.mk H
  clear H
  go_enter Try.func75, Try.ntmps75
  go_wp2
  go_loopg [3] k (fun kq v3 w' => ∃ (x3_1 : Int), v3 = .int .i64 x3_1 ∧ Aside0 (steelyardref02_size.l0 kq l0 x3_1 = some r) ∧ Aside0 (kq ≤ k) ∧ Drawn0 w w')
  case atStart => exact ⟨((l0.length : Int)), (by first | rfl | (simp; done) | (simp [*]; done)), H', ⟨Nat.le_refl _⟩, by repeat (first | exact Drawn0.refl _ | apply Drawn0.step)⟩
  case round =>
    clear H'
    obtain ⟨x3_1, rfl, HA, HK1, ⟨m1, rfl⟩⟩ := hrel
    cases gk with
    | zero => exact absurd HA.out (by simp [steelyardref02_size.l0])
    | succ k1 =>
      have H := HA.out
      clear HA
      simp only [steelyardref02_size.l0] at H
      by_cases c2 : x3_1 > 0
      · rw [if_pos c2] at H
        have c2b0 : decide (0 < x3_1) = true := decide_eq_true c2
        clear c2
        obtain ⟨ji3, hji3⟩ : ∃ j_ : Int, (wrap64 (x3_1 - 1)) = j_ := ⟨_, rfl⟩
        replace H : (if 0 ≤ (ji3) then (if (ji3) < (l0.length : Int) then (if (rd l0 (ji3)) = 0 then (steelyardref02_size.l0 k1 l0 ji3) else (some x3_1)) else (none)) else (none)) = some r := by first | (rw [hji3] at H; exact H) | (simp only [hji3] at H ⊢; exact H)
        have hji3w : (IntKind.i64.wrap (x3_1 - 1)) = ji3 := (i64_w _).trans hji3
        by_cases c4 : 0 ≤ (ji3)
        · rw [if_pos c4] at H
          have c4b0 : decide (0 ≤ (ji3)) = true := decide_eq_true c4
          clear c4
          by_cases c5 : (ji3) < (l0.length : Int)
          · rw [if_pos c5] at H
            have c5b0 : decide ((ji3) < (l0.length : Int)) = true := decide_eq_true c5
            clear c5
            by_cases c6 : (rd l0 (ji3)) = 0
            · rw [if_pos c6] at H
              have c6b0 : ((rd l0 (ji3)) == 0) = true := beq_iff_eq.mpr c6
              have c6b1 : ((rd l0 (ji3)) != 0) = false := bne_eq_false_iff_eq.mpr c6
              clear c6
              have H' := Aside0.mk H
              clear H
              have p265 : 0 ≤ ((ji3) : Int) := of_decide_eq_true (by first | (with_reducible assumption) | assumption)
              have q265 : (ji3) < (l0.length : Int) := of_decide_eq_true (by first | (with_reducible assumption) | assumption)
              obtain ⟨ad265, e265, hx265_0⟩ := Kd.at_int HR0.out (ji3) p265 q265
              cases e265
              replace p265 := eq_true p265
              replace q265 := eq_true q265
              go_wp2
              go_roundg k1
              case measure => have := HK1.out; omega
              case rel => exact ⟨(ji3), (by first | rfl | (simp; done) | (simp only [← hji3] <;> (first | rfl | simp)) | (simp [*]; done)), H', ⟨by have := HK1.out; omega⟩, by repeat (first | exact Drawn0.refl _ | apply Drawn0.step)⟩
            · rw [if_neg c6] at H
              have c6b0 : ((rd l0 (ji3)) == 0) = false := beq_eq_false_iff_ne.mpr c6
              have c6b1 : ((rd l0 (ji3)) != 0) = true := bne_iff_ne.mpr c6
              obtain rfl := Option.some.inj H
              have p265 : 0 ≤ ((ji3) : Int) := of_decide_eq_true (by first | (with_reducible assumption) | assumption)
              have q265 : (ji3) < (l0.length : Int) := of_decide_eq_true (by first | (with_reducible assumption) | assumption)
              obtain ⟨ad265, e265, hx265_0⟩ := Kd.at_int HR0.out (ji3) p265 q265
              cases e265
              replace p265 := eq_true p265
              replace q265 := eq_true q265
              go_wp2
              go_ret
              exact ⟨by first | rfl | (simp; done) | (simp only [← hji3] <;> (first | rfl | simp)) | (simp [*]; done), by repeat (first | exact Drawn0.refl _ | apply Drawn0.step)⟩
          · rw [if_neg c5] at H
            exact absurd H (by simp)
        · rw [if_neg c4] at H
          exact absurd H (by simp)
      · rw [if_neg c2] at H
        have c2b0 : decide (0 < x3_1) = false := decide_eq_false c2
        clear c2
        obtain rfl := Option.some.inj H
        go_wp2
        go_ret
        exact ⟨by first | rfl | (simp; done) | (simp [*]; done), by repeat (first | exact Drawn0.refl _ | apply Drawn0.step)⟩

end Go.Proofs.Ytdemanikmaafeaa.Pr
