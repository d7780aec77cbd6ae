-- short
-- written by this session's own program (wip/fprint.py), which widens the kit's print by floats
import Derived.Test.YtdemanikmaafeaaPr0
import Derived.Test.YtdemanikmaafeaaPr1
import Derived.Test.YtdemanikmaafeaaPr2
import Derived.Test.YtdemanikmaafeaaPr3
import Derived.Test.YtdemanikmaafeaaPr4
namespace Go.Proofs.Ytdemanikmaafeaa.Pr
open Go.RowKit Go.Proofs.YtdemanikmaafeaaW.PrintWords Go.Proofs.YtdemanikmaafeaaW.PrintLast Go.Proofs.YtdemanikmaafeaaW.PrintMore
attribute [local go_sem] max2_int min2_int max_two min_two max_three min_three max_four min_four   -- for this text's walks alone
set_option linter.unusedVariables false
set_option linter.unusedSimpArgs false

/-! ### steelyardlaw05_awake: function 7 -/
def steelyardlaw05_awake.f  : Option (Bool) := (steelyardlaw05_power.f 27).bind fun t195 => (if (FloatKind.f64.format.add t195 4607182418800017408).isSome = true then ((steelyardref05_Turned.f 0).bind fun t196 => ((steelyardref05_Odd.f).bind fun t197 => ((steelyardlaw05_power.f (-60)).bind fun t198 => ((pair_Sum.f 4607182418800017408 t198).bind fun bt199 => ((steelyardlaw05_power.f (-60)).bind fun t201 => ((steelyardlaw05_is.f bt199.1 bt199.2 4607182418800017408 t201).bind fun t202 => ((steelyardlaw05_power.f 60).bind fun t203 => (if (FloatKind.f64.format.add t203 4643211215818981376).isSome = true then ((pair_Quick.f 4607182418800017408 ((FloatKind.f64.format.add t203 4643211215818981376).getD 0)).bind fun bt204 => ((steelyardlaw05_power.f 60).bind fun t206 => (if (FloatKind.f64.format.add t206 4643211215818981376).isSome = true then ((steelyardlaw05_is.f bt204.1 bt204.2 ((FloatKind.f64.format.add t206 4643211215818981376).getD 0) 0).bind fun t207 => ((pair_Sum.f t196 t196).bind fun bt208 => ((steelyardlaw05_is.f bt208.1 bt208.2 t196 0).bind fun t210 => ((pair_Sum.f t197 4607182418800017408).bind fun bt211 => ((steelyardlaw05_is.f bt211.1 bt211.2 t197 t197).bind fun t213 => ((pair_Halves.f ((FloatKind.f64.format.add t195 4607182418800017408).getD 0)).bind fun bt214 => ((steelyardlaw05_power.f 27).bind fun t216 => ((steelyardlaw05_is.f bt214.1 bt214.2 t216 4607182418800017408).bind fun t217 => ((pair_Product.f ((FloatKind.f64.format.add t195 4607182418800017408).getD 0) ((FloatKind.f64.format.add t195 4607182418800017408).getD 0)).bind fun bt218 => ((steelyardlaw05_power.f 54).bind fun t220 => ((steelyardlaw05_power.f 28).bind fun t221 => (if (FloatKind.f64.format.add t220 t221).isSome = true then ((steelyardlaw05_is.f bt218.1 bt218.2 ((FloatKind.f64.format.add t220 t221).getD 0) 4607182418800017408).bind fun t222 => ((steelyardlaw05_power.f (-60)).bind fun t223 => ((pair_Add.f 4607182418800017408 t223 13830554455654793216 0).bind fun bt224 => ((steelyardlaw05_power.f (-60)).bind fun t226 => ((steelyardlaw05_is.f bt224.1 bt224.2 t226 0).bind fun t227 => ((steelyardlaw05_power.f 53).bind fun t228 => ((pair_Mul.f t228 4607182418800017408 4611686018427387904 0).bind fun bt229 => ((steelyardlaw05_power.f 54).bind fun t231 => ((steelyardlaw05_is.f bt229.1 bt229.2 t231 4611686018427387904).bind fun t232 => ((steelyardlaw05_power.f (-60)).bind fun t233 => ((pair_Value.f 4607182418800017408 t233).bind fun t234 => ((steelyardref05_Same.f t234 4607182418800017408).bind fun t235 => (if t202 = true then (if t207 = true then (if t210 = true then (if t213 = true then (if t217 = true then (if t222 = true then (if t227 = true then (if t232 = true then (some t235) else (none)) else (none)) else (none)) else (none)) else (none)) else (none)) else (none)) else (none)))))))))))))) else (none))))))))))))) else (none)))) else (none))))))))) else (none))
set_option maxHeartbeats 3000000 in
set_option maxRecDepth 100000 in
theorem steelyardlaw05_awake.calls  (r : Bool) (w : World) (h : steelyardlaw05_awake.f  = some r) :
  Calls Try.prog 7 #[] w fun e w' => e = .returned (.bool r) ∧ Below w.heap.size w w' := by
 have hu30 := Try.underlying30
 have HB := Aside0.mk (Below.refl w.heap.size w)
 have H : ((steelyardlaw05_power.f 27).bind fun t195 => (if (FloatKind.f64.format.add t195 4607182418800017408).isSome = true then ((steelyardref05_Turned.f 0).bind fun t196 => ((steelyardref05_Odd.f).bind fun t197 => ((steelyardlaw05_power.f (-60)).bind fun t198 => ((pair_Sum.f 4607182418800017408 t198).bind fun bt199 => ((steelyardlaw05_power.f (-60)).bind fun t201 => ((steelyardlaw05_is.f bt199.1 bt199.2 4607182418800017408 t201).bind fun t202 => ((steelyardlaw05_power.f 60).bind fun t203 => (if (FloatKind.f64.format.add t203 4643211215818981376).isSome = true then ((pair_Quick.f 4607182418800017408 ((FloatKind.f64.format.add t203 4643211215818981376).getD 0)).bind fun bt204 => ((steelyardlaw05_power.f 60).bind fun t206 => (if (FloatKind.f64.format.add t206 4643211215818981376).isSome = true then ((steelyardlaw05_is.f bt204.1 bt204.2 ((FloatKind.f64.format.add t206 4643211215818981376).getD 0) 0).bind fun t207 => ((pair_Sum.f t196 t196).bind fun bt208 => ((steelyardlaw05_is.f bt208.1 bt208.2 t196 0).bind fun t210 => ((pair_Sum.f t197 4607182418800017408).bind fun bt211 => ((steelyardlaw05_is.f bt211.1 bt211.2 t197 t197).bind fun t213 => ((pair_Halves.f ((FloatKind.f64.format.add t195 4607182418800017408).getD 0)).bind fun bt214 => ((steelyardlaw05_power.f 27).bind fun t216 => ((steelyardlaw05_is.f bt214.1 bt214.2 t216 4607182418800017408).bind fun t217 => ((pair_Product.f ((FloatKind.f64.format.add t195 4607182418800017408).getD 0) ((FloatKind.f64.format.add t195 4607182418800017408).getD 0)).bind fun bt218 => ((steelyardlaw05_power.f 54).bind fun t220 => ((steelyardlaw05_power.f 28).bind fun t221 => (if (FloatKind.f64.format.add t220 t221).isSome = true then ((steelyardlaw05_is.f bt218.1 bt218.2 ((FloatKind.f64.format.add t220 t221).getD 0) 4607182418800017408).bind fun t222 => ((steelyardlaw05_power.f (-60)).bind fun t223 => ((pair_Add.f 4607182418800017408 t223 13830554455654793216 0).bind fun bt224 => ((steelyardlaw05_power.f (-60)).bind fun t226 => ((steelyardlaw05_is.f bt224.1 bt224.2 t226 0).bind fun t227 => ((steelyardlaw05_power.f 53).bind fun t228 => ((pair_Mul.f t228 4607182418800017408 4611686018427387904 0).bind fun bt229 => ((steelyardlaw05_power.f 54).bind fun t231 => ((steelyardlaw05_is.f bt229.1 bt229.2 t231 4611686018427387904).bind fun t232 => ((steelyardlaw05_power.f (-60)).bind fun t233 => ((pair_Value.f 4607182418800017408 t233).bind fun t234 => ((steelyardref05_Same.f t234 4607182418800017408).bind fun t235 => (if t202 = true then (if t207 = true then (if t210 = true then (if t213 = true then (if t217 = true then (if t222 = true then (if t227 = true then (if t232 = true then (some t235) else (none)) else (none)) else (none)) else (none)) else (none)) else (none)) else (none)) else (none)))))))))))))) else (none))))))))))))) else (none)))) else (none))))))))) else (none))) = some r := h
 clear h
 obtain ⟨t195, A1, H⟩ := ob_ H
 try dsimp only at H
 by_cases c2 : (FloatKind.f64.format.add t195 4607182418800017408).isSome = true
 ·rw [if_pos c2] at H
  have c2b0 : (FloatKind.f64.format.add t195 4607182418800017408).isSome = true := c2
  clear c2
  obtain ⟨t196, A3, H⟩ := ob_ H
  try dsimp only at H
  obtain ⟨t197, A4, H⟩ := ob_ H
  try dsimp only at H
  obtain ⟨t198, A5, H⟩ := ob_ H
  try dsimp only at H
  obtain ⟨⟨t199, t200⟩, A6, H⟩ := ob_ H
  try dsimp only at H
  obtain ⟨t201, A7, H⟩ := ob_ H
  try dsimp only at H
  obtain ⟨t202, A8, H⟩ := ob_ H
  try dsimp only at H
  obtain ⟨t203, A9, H⟩ := ob_ H
  try dsimp only at H
  by_cases c10 : (FloatKind.f64.format.add t203 4643211215818981376).isSome = true
  ·rw [if_pos c10] at H
   have c10b0 : (FloatKind.f64.format.add t203 4643211215818981376).isSome = true := c10
   clear c10
   obtain ⟨⟨t204, t205⟩, A11, H⟩ := ob_ H
   try dsimp only at H
   obtain ⟨t206, A12, H⟩ := ob_ H
   try dsimp only at H
   by_cases c13 : (FloatKind.f64.format.add t206 4643211215818981376).isSome = true
   ·rw [if_pos c13] at H
    have c13b0 : (FloatKind.f64.format.add t206 4643211215818981376).isSome = true := c13
    clear c13
    obtain ⟨t207, A14, H⟩ := ob_ H
    try dsimp only at H
    obtain ⟨⟨t208, t209⟩, A15, H⟩ := ob_ H
    try dsimp only at H
    obtain ⟨t210, A16, H⟩ := ob_ H
    try dsimp only at H
    obtain ⟨⟨t211, t212⟩, A17, H⟩ := ob_ H
    try dsimp only at H
    obtain ⟨t213, A18, H⟩ := ob_ H
    try dsimp only at H
    obtain ⟨⟨t214, t215⟩, A19, H⟩ := ob_ H
    try dsimp only at H
    obtain ⟨t216, A20, H⟩ := ob_ H
    try dsimp only at H
    obtain ⟨t217, A21, H⟩ := ob_ H
    try dsimp only at H
    obtain ⟨⟨t218, t219⟩, A22, H⟩ := ob_ H
    try dsimp only at H
    obtain ⟨t220, A23, H⟩ := ob_ H
    try dsimp only at H
    obtain ⟨t221, A24, H⟩ := ob_ H
    try dsimp only at H
    by_cases c25 : (FloatKind.f64.format.add t220 t221).isSome = true
    ·rw [if_pos c25] at H
     have c25b0 : (FloatKind.f64.format.add t220 t221).isSome = true := c25
     clear c25
     obtain ⟨t222, A26, H⟩ := ob_ H
     try dsimp only at H
     obtain ⟨t223, A27, H⟩ := ob_ H
     try dsimp only at H
     obtain ⟨⟨t224, t225⟩, A28, H⟩ := ob_ H
     try dsimp only at H
     obtain ⟨t226, A29, H⟩ := ob_ H
     try dsimp only at H
     obtain ⟨t227, A30, H⟩ := ob_ H
     try dsimp only at H
     obtain ⟨t228, A31, H⟩ := ob_ H
     try dsimp only at H
     obtain ⟨⟨t229, t230⟩, A32, H⟩ := ob_ H
     try dsimp only at H
     obtain ⟨t231, A33, H⟩ := ob_ H
     try dsimp only at H
     obtain ⟨t232, A34, H⟩ := ob_ H
     try dsimp only at H
     obtain ⟨t233, A35, H⟩ := ob_ H
     try dsimp only at H
     obtain ⟨t234, A36, H⟩ := ob_ H
     try dsimp only at H
     obtain ⟨t235, A37, H⟩ := ob_ H
     try dsimp only at H
     by_cases c38 : t202 = true
     ·subst c38
      have H1 : (if t207 = true then (if t210 = true then (if t213 = true then (if t217 = true then (if t222 = true then (if t227 = true then (if t232 = true then (some t235) else (none)) else (none)) else (none)) else (none)) else (none)) else (none)) else (none)) = some r := by rw [if_pos rfl] at H; exact H
      clear H
      have H := H1
      clear H1
      by_cases c39 : t207 = true
      ·subst c39
       have H1 : (if t210 = true then (if t213 = true then (if t217 = true then (if t222 = true then (if t227 = true then (if t232 = true then (some t235) else (none)) else (none)) else (none)) else (none)) else (none)) else (none)) = some r := by rw [if_pos rfl] at H; exact H
       clear H
       have H := H1
       clear H1
       by_cases c40 : t210 = true
       ·subst c40
        have H1 : (if t213 = true then (if t217 = true then (if t222 = true then (if t227 = true then (if t232 = true then (some t235) else (none)) else (none)) else (none)) else (none)) else (none)) = some r := by rw [if_pos rfl] at H; exact H
        clear H
        have H := H1
        clear H1
        by_cases c41 : t213 = true
        ·subst c41
         have H1 : (if t217 = true then (if t222 = true then (if t227 = true then (if t232 = true then (some t235) else (none)) else (none)) else (none)) else (none)) = some r := by rw [if_pos rfl] at H; exact H
         clear H
         have H := H1
         clear H1
         by_cases c42 : t217 = true
         ·subst c42
          have H1 : (if t222 = true then (if t227 = true then (if t232 = true then (some t235) else (none)) else (none)) else (none)) = some r := by rw [if_pos rfl] at H; exact H
          clear H
          have H := H1
          clear H1
          by_cases c43 : t222 = true
          ·subst c43
           have H1 : (if t227 = true then (if t232 = true then (some t235) else (none)) else (none)) = some r := by rw [if_pos rfl] at H; exact H
           clear H
           have H := H1
           clear H1
           by_cases c44 : t227 = true
           ·subst c44
            have H1 : (if t232 = true then (some t235) else (none)) = some r := by rw [if_pos rfl] at H; exact H
            clear H
            have H := H1
            clear H1
            by_cases c45 : t232 = true
            ·subst c45
             have H1 : (some t235) = some r := by rw [if_pos rfl] at H; exact H
             clear H
             have H := H1
             clear H1
             obtain rfl := Option.some.inj H
             go_enter Try.func7, Try.ntmps7
             go_wp2_with (first | ((with_reducible refine gate_callee (f := 15) rfl ?_); refine goesM (some 13) Try.func15 #[.int .i64 27] ?_; (with_reducible refine (steelyardlaw05_power.calls 27 t195 _ A1.out).mono ?_); rintro e w' ⟨rfl, ⟨nd, rfl⟩⟩; refine ⟨_, rfl, ?_⟩) | ((with_reducible refine gate_callee (f := 10) rfl ?_); refine goesM (some 15) Try.func10 #[.float .f64 0] ?_; (with_reducible refine (steelyardref05_Turned.calls 0 t196 _ A3.out).mono ?_); rintro e w' ⟨rfl, ⟨nd, rfl⟩⟩; refine ⟨_, rfl, ?_⟩) | ((with_reducible refine gate_callee (f := 9) rfl ?_); refine goesM (some 16) Try.func9 #[] ?_; (with_reducible refine (steelyardref05_Odd.calls  t197 _ A4.out).mono ?_); rintro e w' ⟨rfl, ⟨nd, rfl⟩⟩; refine ⟨_, rfl, ?_⟩) | ((with_reducible refine gate_callee (f := 15) rfl ?_); refine goesM (some 17) Try.func15 #[.int .i64 (-60)] ?_; (with_reducible refine (steelyardlaw05_power.calls (-60) t198 _ A5.out).mono ?_); rintro e w' ⟨rfl, ⟨nd, rfl⟩⟩; refine ⟨_, rfl, ?_⟩) | ((with_reducible refine gate_callee (f := 12) rfl ?_); refine goesM (some 18) Try.func12 #[.float .f64 4607182418800017408, .float .f64 t198] ?_; (with_reducible refine (pair_Sum.calls 4607182418800017408 t198 t199 t200 _ A6.out).mono ?_); rintro e w46 ⟨rfl, hb⟩; refine ⟨_, rfl, ?_⟩; have n0_ := bs_ HB hb; clear HB; have HB := n0_; clear n0_; (try clear hb); (try clear hb2); (try clear hk); (try clear hi)) | ((with_reducible refine gate_callee (f := 15) rfl ?_); refine goesM (some 19) Try.func15 #[.int .i64 (-60)] ?_; (with_reducible refine (steelyardlaw05_power.calls (-60) t201 _ A7.out).mono ?_); rintro e w' ⟨rfl, ⟨nd, rfl⟩⟩; refine ⟨_, rfl, ?_⟩) | ((with_reducible refine gate_callee (f := 11) rfl ?_); refine goesM (some 20) Try.func11 #[.agg #[.float .f64 t199, .float .f64 t200], .float .f64 4607182418800017408, .float .f64 t201] ?_; (with_reducible refine (steelyardlaw05_is.calls t199 t200 4607182418800017408 t201 true _ A8.out).mono ?_); rintro e w47 ⟨rfl, hb⟩; refine ⟨_, rfl, ?_⟩; have n0_ := bs_ HB hb; clear HB; have HB := n0_; clear n0_; (try clear hb); (try clear hb2); (try clear hk); (try clear hi)) | ((with_reducible refine gate_callee (f := 15) rfl ?_); refine goesM (some 21) Try.func15 #[.int .i64 60] ?_; (with_reducible refine (steelyardlaw05_power.calls 60 t203 _ A9.out).mono ?_); rintro e w' ⟨rfl, ⟨nd, rfl⟩⟩; refine ⟨_, rfl, ?_⟩) | ((with_reducible refine gate_callee (f := 18) rfl ?_); refine goesM (some 23) Try.func18 #[.float .f64 4607182418800017408, .float .f64 ((FloatKind.f64.format.add t203 4643211215818981376).getD 0)] ?_; (with_reducible refine (pair_Quick.calls 4607182418800017408 ((FloatKind.f64.format.add t203 4643211215818981376).getD 0) t204 t205 _ A11.out).mono ?_); rintro e w48 ⟨rfl, hb⟩; refine ⟨_, rfl, ?_⟩; have n0_ := bs_ HB hb; clear HB; have HB := n0_; clear n0_; (try clear hb); (try clear hb2); (try clear hk); (try clear hi)) | ((with_reducible refine gate_callee (f := 15) rfl ?_); refine goesM (some 24) Try.func15 #[.int .i64 60] ?_; (with_reducible refine (steelyardlaw05_power.calls 60 t206 _ A12.out).mono ?_); rintro e w' ⟨rfl, ⟨nd, rfl⟩⟩; refine ⟨_, rfl, ?_⟩) | ((with_reducible refine gate_callee (f := 11) rfl ?_); refine goesM (some 26) Try.func11 #[.agg #[.float .f64 t204, .float .f64 t205], .float .f64 ((FloatKind.f64.format.add t206 4643211215818981376).getD 0), .float .f64 0] ?_; (with_reducible refine (steelyardlaw05_is.calls t204 t205 ((FloatKind.f64.format.add t206 4643211215818981376).getD 0) 0 true _ A14.out).mono ?_); rintro e w49 ⟨rfl, hb⟩; refine ⟨_, rfl, ?_⟩; have n0_ := bs_ HB hb; clear HB; have HB := n0_; clear n0_; (try clear hb); (try clear hb2); (try clear hk); (try clear hi)) | ((with_reducible refine gate_callee (f := 12) rfl ?_); refine goesM (some 29) Try.func12 #[.float .f64 t196, .float .f64 t196] ?_; (with_reducible refine (pair_Sum.calls t196 t196 t208 t209 _ A15.out).mono ?_); rintro e w50 ⟨rfl, hb⟩; refine ⟨_, rfl, ?_⟩; have n0_ := bs_ HB hb; clear HB; have HB := n0_; clear n0_; (try clear hb); (try clear hb2); (try clear hk); (try clear hi)) | ((with_reducible refine gate_callee (f := 11) rfl ?_); refine goesM (some 31) Try.func11 #[.agg #[.float .f64 t208, .float .f64 t209], .float .f64 t196, .float .f64 0] ?_; (with_reducible refine (steelyardlaw05_is.calls t208 t209 t196 0 true _ A16.out).mono ?_); rintro e w51 ⟨rfl, hb⟩; refine ⟨_, rfl, ?_⟩; have n0_ := bs_ HB hb; clear HB; have HB := n0_; clear n0_; (try clear hb); (try clear hb2); (try clear hk); (try clear hi)) | ((with_reducible refine gate_callee (f := 12) rfl ?_); refine goesM (some 33) Try.func12 #[.float .f64 t197, .float .f64 4607182418800017408] ?_; (with_reducible refine (pair_Sum.calls t197 4607182418800017408 t211 t212 _ A17.out).mono ?_); rintro e w52 ⟨rfl, hb⟩; refine ⟨_, rfl, ?_⟩; have n0_ := bs_ HB hb; clear HB; have HB := n0_; clear n0_; (try clear hb); (try clear hb2); (try clear hk); (try clear hi)) | ((with_reducible refine gate_callee (f := 11) rfl ?_); refine goesM (some 36) Try.func11 #[.agg #[.float .f64 t211, .float .f64 t212], .float .f64 t197, .float .f64 t197] ?_; (with_reducible refine (steelyardlaw05_is.calls t211 t212 t197 t197 true _ A18.out).mono ?_); rintro e w53 ⟨rfl, hb⟩; refine ⟨_, rfl, ?_⟩; have n0_ := bs_ HB hb; clear HB; have HB := n0_; clear n0_; (try clear hb); (try clear hb2); (try clear hk); (try clear hi)) | ((with_reducible refine gate_callee (f := 13) rfl ?_); refine goesM (some 38) Try.func13 #[.float .f64 ((FloatKind.f64.format.add t195 4607182418800017408).getD 0)] ?_; (with_reducible refine (pair_Halves.calls ((FloatKind.f64.format.add t195 4607182418800017408).getD 0) t214 t215 _ A19.out).mono ?_); rintro e w54 ⟨rfl, hb⟩; refine ⟨_, rfl, ?_⟩; have n0_ := bs_ HB hb; clear HB; have HB := n0_; clear n0_; (try clear hb); (try clear hb2); (try clear hk); (try clear hi)) | ((with_reducible refine gate_callee (f := 15) rfl ?_); refine goesM (some 39) Try.func15 #[.int .i64 27] ?_; (with_reducible refine (steelyardlaw05_power.calls 27 t216 _ A20.out).mono ?_); rintro e w' ⟨rfl, ⟨nd, rfl⟩⟩; refine ⟨_, rfl, ?_⟩) | ((with_reducible refine gate_callee (f := 11) rfl ?_); refine goesM (some 40) Try.func11 #[.agg #[.float .f64 t214, .float .f64 t215], .float .f64 t216, .float .f64 4607182418800017408] ?_; (with_reducible refine (steelyardlaw05_is.calls t214 t215 t216 4607182418800017408 true _ A21.out).mono ?_); rintro e w55 ⟨rfl, hb⟩; refine ⟨_, rfl, ?_⟩; have n0_ := bs_ HB hb; clear HB; have HB := n0_; clear n0_; (try clear hb); (try clear hb2); (try clear hk); (try clear hi)) | ((with_reducible refine gate_callee (f := 14) rfl ?_); refine goesM (some 43) Try.func14 #[.float .f64 ((FloatKind.f64.format.add t195 4607182418800017408).getD 0), .float .f64 ((FloatKind.f64.format.add t195 4607182418800017408).getD 0)] ?_; (with_reducible refine (pair_Product.calls ((FloatKind.f64.format.add t195 4607182418800017408).getD 0) ((FloatKind.f64.format.add t195 4607182418800017408).getD 0) t218 t219 _ A22.out).mono ?_); rintro e w56 ⟨rfl, hb⟩; refine ⟨_, rfl, ?_⟩; have n0_ := bs_ HB hb; clear HB; have HB := n0_; clear n0_; (try clear hb); (try clear hb2); (try clear hk); (try clear hi)) | ((with_reducible refine gate_callee (f := 15) rfl ?_); refine goesM (some 44) Try.func15 #[.int .i64 54] ?_; (with_reducible refine (steelyardlaw05_power.calls 54 t220 _ A23.out).mono ?_); rintro e w' ⟨rfl, ⟨nd, rfl⟩⟩; refine ⟨_, rfl, ?_⟩) | ((with_reducible refine gate_callee (f := 15) rfl ?_); refine goesM (some 45) Try.func15 #[.int .i64 28] ?_; (with_reducible refine (steelyardlaw05_power.calls 28 t221 _ A24.out).mono ?_); rintro e w' ⟨rfl, ⟨nd, rfl⟩⟩; refine ⟨_, rfl, ?_⟩) | ((with_reducible refine gate_callee (f := 11) rfl ?_); refine goesM (some 47) Try.func11 #[.agg #[.float .f64 t218, .float .f64 t219], .float .f64 ((FloatKind.f64.format.add t220 t221).getD 0), .float .f64 4607182418800017408] ?_; (with_reducible refine (steelyardlaw05_is.calls t218 t219 ((FloatKind.f64.format.add t220 t221).getD 0) 4607182418800017408 true _ A26.out).mono ?_); rintro e w57 ⟨rfl, hb⟩; refine ⟨_, rfl, ?_⟩; have n0_ := bs_ HB hb; clear HB; have HB := n0_; clear n0_; (try clear hb); (try clear hb2); (try clear hk); (try clear hi)) | ((with_reducible refine gate_callee (f := 15) rfl ?_); refine goesM (some 48) Try.func15 #[.int .i64 (-60)] ?_; (with_reducible refine (steelyardlaw05_power.calls (-60) t223 _ A27.out).mono ?_); rintro e w' ⟨rfl, ⟨nd, rfl⟩⟩; refine ⟨_, rfl, ?_⟩) | ((with_reducible refine gate_callee (f := 22) rfl ?_); refine goesM (some 51) Try.func22 #[.agg #[.float .f64 4607182418800017408, .float .f64 t223], .agg #[.float .f64 13830554455654793216, .float .f64 0]] ?_; (with_reducible refine (pair_Add.calls 4607182418800017408 t223 13830554455654793216 0 t224 t225 _ A28.out).mono ?_); rintro e w58 ⟨rfl, hb⟩; refine ⟨_, rfl, ?_⟩; have n0_ := bs_ HB hb; clear HB; have HB := n0_; clear n0_; (try clear hb); (try clear hb2); (try clear hk); (try clear hi)) | ((with_reducible refine gate_callee (f := 15) rfl ?_); refine goesM (some 52) Try.func15 #[.int .i64 (-60)] ?_; (with_reducible refine (steelyardlaw05_power.calls (-60) t226 _ A29.out).mono ?_); rintro e w' ⟨rfl, ⟨nd, rfl⟩⟩; refine ⟨_, rfl, ?_⟩) | ((with_reducible refine gate_callee (f := 11) rfl ?_); refine goesM (some 53) Try.func11 #[.agg #[.float .f64 t224, .float .f64 t225], .float .f64 t226, .float .f64 0] ?_; (with_reducible refine (steelyardlaw05_is.calls t224 t225 t226 0 true _ A30.out).mono ?_); rintro e w59 ⟨rfl, hb⟩; refine ⟨_, rfl, ?_⟩; have n0_ := bs_ HB hb; clear HB; have HB := n0_; clear n0_; (try clear hb); (try clear hb2); (try clear hk); (try clear hi)) | ((with_reducible refine gate_callee (f := 15) rfl ?_); refine goesM (some 54) Try.func15 #[.int .i64 53] ?_; (with_reducible refine (steelyardlaw05_power.calls 53 t228 _ A31.out).mono ?_); rintro e w' ⟨rfl, ⟨nd, rfl⟩⟩; refine ⟨_, rfl, ?_⟩) | ((with_reducible refine gate_callee (f := 24) rfl ?_); refine goesM (some 57) Try.func24 #[.agg #[.float .f64 t228, .float .f64 4607182418800017408], .agg #[.float .f64 4611686018427387904, .float .f64 0]] ?_; (with_reducible refine (pair_Mul.calls t228 4607182418800017408 4611686018427387904 0 t229 t230 _ A32.out).mono ?_); rintro e w60 ⟨rfl, hb⟩; refine ⟨_, rfl, ?_⟩; have n0_ := bs_ HB hb; clear HB; have HB := n0_; clear n0_; (try clear hb); (try clear hb2); (try clear hk); (try clear hi)) | ((with_reducible refine gate_callee (f := 15) rfl ?_); refine goesM (some 58) Try.func15 #[.int .i64 54] ?_; (with_reducible refine (steelyardlaw05_power.calls 54 t231 _ A33.out).mono ?_); rintro e w' ⟨rfl, ⟨nd, rfl⟩⟩; refine ⟨_, rfl, ?_⟩) | ((with_reducible refine gate_callee (f := 11) rfl ?_); refine goesM (some 59) Try.func11 #[.agg #[.float .f64 t229, .float .f64 t230], .float .f64 t231, .float .f64 4611686018427387904] ?_; (with_reducible refine (steelyardlaw05_is.calls t229 t230 t231 4611686018427387904 true _ A34.out).mono ?_); rintro e w61 ⟨rfl, hb⟩; refine ⟨_, rfl, ?_⟩; have n0_ := bs_ HB hb; clear HB; have HB := n0_; clear n0_; (try clear hb); (try clear hb2); (try clear hk); (try clear hi)) | ((with_reducible refine gate_callee (f := 15) rfl ?_); refine goesM (some 60) Try.func15 #[.int .i64 (-60)] ?_; (with_reducible refine (steelyardlaw05_power.calls (-60) t233 _ A35.out).mono ?_); rintro e w' ⟨rfl, ⟨nd, rfl⟩⟩; refine ⟨_, rfl, ?_⟩) | ((with_reducible refine gate_callee (f := 27) rfl ?_); refine goesM (some 62) Try.func27 #[.agg #[.float .f64 4607182418800017408, .float .f64 t233]] ?_; (with_reducible refine (pair_Value.calls 4607182418800017408 t233 t234 _ A36.out).mono ?_); rintro e w62 ⟨rfl, hb⟩; refine ⟨_, rfl, ?_⟩; have n0_ := bs_ HB hb; clear HB; have HB := n0_; clear n0_; (try clear hb); (try clear hb2); (try clear hk); (try clear hi)) | ((with_reducible refine gate_callee (f := 26) rfl ?_); refine goesM (some 63) Try.func26 #[.float .f64 t234, .float .f64 4607182418800017408] ?_; (with_reducible refine (steelyardref05_Same.calls t234 4607182418800017408 t235 _ A37.out).mono ?_); rintro e w' ⟨rfl, ⟨nd, rfl⟩⟩; refine ⟨_, rfl, ?_⟩))
             go_ret
             exact ⟨by first | rfl | (simp [errW_none, errW_some] <;> rfl) | (simp [*, errW_none, errW_some] <;> rfl), bl_ HB⟩
            ·replace c45 := Bool.eq_false_iff.mpr c45
             subst c45
             have H1 : (none) = some r := by rw [if_neg (show ¬ (false = true) by decide)] at H; exact H
             clear H
             have H := H1
             clear H1
             exact absurd H (by simp)
           ·replace c44 := Bool.eq_false_iff.mpr c44
            subst c44
            have H1 : (none) = some r := by rw [if_neg (show ¬ (false = true) by decide)] at H; exact H
            clear H
            have H := H1
            clear H1
            exact absurd H (by simp)
          ·replace c43 := Bool.eq_false_iff.mpr c43
           subst c43
           have H1 : (none) = some r := by rw [if_neg (show ¬ (false = true) by decide)] at H; exact H
           clear H
           have H := H1
           clear H1
           exact absurd H (by simp)
         ·replace c42 := Bool.eq_false_iff.mpr c42
          subst c42
          have H1 : (none) = some r := by rw [if_neg (show ¬ (false = true) by decide)] at H; exact H
          clear H
          have H := H1
          clear H1
          exact absurd H (by simp)
        ·replace c41 := Bool.eq_false_iff.mpr c41
         subst c41
         have H1 : (none) = some r := by rw [if_neg (show ¬ (false = true) by decide)] at H; exact H
         clear H
         have H := H1
         clear H1
         exact absurd H (by simp)
       ·replace c40 := Bool.eq_false_iff.mpr c40
        subst c40
        have H1 : (none) = some r := by rw [if_neg (show ¬ (false = true) by decide)] at H; exact H
        clear H
        have H := H1
        clear H1
        exact absurd H (by simp)
      ·replace c39 := Bool.eq_false_iff.mpr c39
       subst c39
       have H1 : (none) = some r := by rw [if_neg (show ¬ (false = true) by decide)] at H; exact H
       clear H
       have H := H1
       clear H1
       exact absurd H (by simp)
     ·replace c38 := Bool.eq_false_iff.mpr c38
      subst c38
      have H1 : (none) = some r := by rw [if_neg (show ¬ (false = true) by decide)] at H; exact H
      clear H
      have H := H1
      clear H1
      exact absurd H (by simp)
    ·rw [if_neg c25] at H
     exact absurd H (by simp)
   ·rw [if_neg c13] at H
    exact absurd H (by simp)
  ·rw [if_neg c10] at H
   exact absurd H (by simp)
 ·rw [if_neg c2] at H
  exact absurd H (by simp)

end Go.Proofs.Ytdemanikmaafeaa.Pr
