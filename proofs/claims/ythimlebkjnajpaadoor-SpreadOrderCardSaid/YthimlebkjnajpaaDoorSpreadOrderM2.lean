import Derived.Test.YthimlebkjnajpaaDoorSpreadOrderM0
import Derived.Test.YthimlebkjnajpaaDoorSpreadOrderM1
namespace Go.Proofs.YthimlebkjnajpaaDoor.Pr
open Go.RowKit Go.Proofs.YthimlebkjnajpaaDoorW.PrintWords Go.Proofs.YthimlebkjnajpaaDoorW.PrintLast Go.Proofs.YthimlebkjnajpaaDoorW.PrintMore
attribute [local go_sem] max2_int min2_int max_two min_two max_three min_three max_four min_four
set_option linter.unusedVariables false
set_option linter.unusedSimpArgs false
def math_normalize.f (a0:Nat):Option (Nat × Int):=(math_Abs.f a0).bind fun t413=>(if (FloatKind.f64.format.order t413 4503599627370496 == some .lt)=true then (if (FloatKind.f64.format.mul a0 4841369599423283200).isSome=true then (some ((FloatKind.f64.format.mul a0 4841369599423283200).getD 0,(-52))) else (none)) else (some (a0,0)))
set_option maxHeartbeats 3000000 in
set_option maxRecDepth 100000 in
theorem math_normalize.calls (a0:Nat) (r1:Nat) (r2:Int) (w:World) (h:math_normalize.f a0=some (r1,r2)) :
  Calls Tryd.prog 95 #[.float .f64 a0] w fun e w'=>e = .returned (.tuple #[.float .f64 r1,.int .i64 r2])∧Drawn0 w w':=by
 have H:=h
 unfold math_normalize.f at H
 clear h
 obtain ⟨t413,A2,H⟩:=ob_ H
 try dsimp only at H
 by_cases c3:(FloatKind.f64.format.order t413 4503599627370496 == some .lt)=true
 ·rw [if_pos c3] at H
  have c3b0:(FloatKind.f64.format.order t413 4503599627370496 == some .lt)=true:=c3
  clear c3
  by_cases c4:(FloatKind.f64.format.mul a0 4841369599423283200).isSome=true
  ·rw [if_pos c4] at H
   have c4b0:(FloatKind.f64.format.mul a0 4841369599423283200).isSome=true:=c4
   clear c4
   simp only [Option.some.injEq,Prod.mk.injEq] at H
   obtain ⟨rfl,rfl⟩:=H
   go_enter Tryd.func95,Tryd.ntmps95
   go_wp2_with (first|((with_reducible refine gate_callee (f:=45) rfl ?_);refine goesM (some 5) Tryd.func45 #[.float .f64 a0] ?_;(with_reducible refine (math_Abs.calls a0 t413 _ A2.out).mono ?_);rintro e w' ⟨rfl,⟨nd,rfl⟩⟩;refine ⟨_,rfl,?_⟩))
   go_ret2
   exact ⟨by first|rfl|(simp;done)|(simp [*];done),by repeat (first|exact Drawn0.refl _|apply Drawn0.step)⟩
  ·rw [if_neg c4] at H
   exact absurd H (by simp)
 ·rw [if_neg c3] at H
  have c3b0:(FloatKind.f64.format.order t413 4503599627370496 == some .lt)=false:=by simpa using c3
  clear c3
  simp only [Option.some.injEq,Prod.mk.injEq] at H
  obtain ⟨rfl,rfl⟩:=H
  go_enter Tryd.func95,Tryd.ntmps95
  go_wp2_with (first|((with_reducible refine gate_callee (f:=45) rfl ?_);refine goesM (some 5) Tryd.func45 #[.float .f64 a0] ?_;(with_reducible refine (math_Abs.calls a0 t413 _ A2.out).mono ?_);rintro e w' ⟨rfl,⟨nd,rfl⟩⟩;refine ⟨_,rfl,?_⟩))
  go_ret2
  exact ⟨by first|rfl|(simp;done)|(simp [*];done),by repeat (first|exact Drawn0.refl _|apply Drawn0.step)⟩

def math_Copysign.f (a0:Nat) (a1:Nat):Option (Nat):=some ((Go.bits .or .u64 (Go.bits .andNot .u64 (a0:Int) 9223372036854775808) (Go.bits .and .u64 (a1:Int) 9223372036854775808):Int).toNat)
set_option maxHeartbeats 3000000 in
set_option maxRecDepth 100000 in
theorem math_Copysign.calls (a0:Nat) (a1:Nat) (r:Nat) (w:World) (h:math_Copysign.f a0 a1=some r) :
  Calls Tryd.prog 96 #[.float .f64 a0,.float .f64 a1] w fun e w'=>e = .returned (.float .f64 r)∧Drawn0 w w':=by
 have H:=h
 unfold math_Copysign.f at H
 clear h
 obtain rfl:=Option.some.inj H
 go_enter Tryd.func96,Tryd.ntmps96
 go_wp2
 go_ret
 exact ⟨by first|rfl|(simp;done)|(simp [*];done),by repeat (first|exact Drawn0.refl _|apply Drawn0.step)⟩

def math_Inf.f (a0:Int):Option (Nat):=if a0≥0 then (some 9218868437227405312) else (some 18442240474082181120)
set_option maxHeartbeats 3000000 in
set_option maxRecDepth 100000 in
theorem math_Inf.calls (a0:Int) (r:Nat) (w:World) (h:math_Inf.f a0=some r) :
  Calls Tryd.prog 97 #[.int .i64 a0] w fun e w'=>e = .returned (.float .f64 r)∧Drawn0 w w':=by
 have H:=h
 unfold math_Inf.f at H
 clear h
 by_cases c2:a0≥0
 ·rw [if_pos c2] at H
  have c2b0:decide (0≤a0)=true:=decide_eq_true c2
  clear c2
  obtain rfl:=Option.some.inj H
  go_enter Tryd.func97,Tryd.ntmps97
  go_wp2
  go_ret
  exact ⟨by first|rfl|(simp;done)|(simp [*];done),by repeat (first|exact Drawn0.refl _|apply Drawn0.step)⟩
 ·rw [if_neg c2] at H
  have c2b0:decide (0≤a0)=false:=decide_eq_false c2
  clear c2
  obtain rfl:=Option.some.inj H
  go_enter Tryd.func97,Tryd.ntmps97
  go_wp2
  go_ret
  exact ⟨by first|rfl|(simp;done)|(simp [*];done),by repeat (first|exact Drawn0.refl _|apply Drawn0.step)⟩

def math_ldexp.f (a0:Nat) (a1:Int):Option (Nat):=if (FloatKind.f64.format.order a0 0 == some .eq)=true then (some a0) else ((math_IsInf.f a0 0).bind fun t414=>(if t414=true then (some a0) else ((math_IsNaN.f a0).bind fun t415=>(if t415=true then (some a0) else ((math_normalize.f a0).bind fun bt416=>(if (wrap64 ((wrap64 (a1+bt416.2))+(wrap64 ((Go.bits .and .i64 (wrap64 ((bt416.1:Int) / 4503599627370496)) 2047) - 1023))))<(-1075) then ((math_Copysign.f 0 bt416.1).bind fun t418=>(some t418)) else (if (wrap64 ((wrap64 (a1+bt416.2))+(wrap64 ((Go.bits .and .i64 (wrap64 ((bt416.1:Int) / 4503599627370496)) 2047) - 1023))))>1023 then (if (FloatKind.f64.format.order bt416.1 0 == some .lt)=true then ((math_Inf.f (-1)).bind fun t419=>(some t419)) else ((math_Inf.f 1).bind fun t420=>(some t420))) else (if (wrap64 ((wrap64 (a1+bt416.2))+(wrap64 ((Go.bits .and .i64 (wrap64 ((bt416.1:Int) / 4503599627370496)) 2047) - 1023))))<(-1022) then (if (FloatKind.f64.format.mul 4368491638549381120 ((Go.bits .or .u64 (Go.bits .andNot .u64 (bt416.1:Int) 9218868437227405312) (IntKind.u64.wrap ((IntKind.u64.wrap (wrap64 ((wrap64 ((wrap64 ((wrap64 (a1+bt416.2))+(wrap64 ((Go.bits .and .i64 (wrap64 ((bt416.1:Int) / 4503599627370496)) 2047) - 1023))))+53))+1023)))*4503599627370496)):Int).toNat)).isSome=true then (some ((FloatKind.f64.format.mul 4368491638549381120 ((Go.bits .or .u64 (Go.bits .andNot .u64 (bt416.1:Int) 9218868437227405312) (IntKind.u64.wrap ((IntKind.u64.wrap (wrap64 ((wrap64 ((wrap64 ((wrap64 (a1+bt416.2))+(wrap64 ((Go.bits .and .i64 (wrap64 ((bt416.1:Int) / 4503599627370496)) 2047) - 1023))))+53))+1023)))*4503599627370496)):Int).toNat)).getD 0)) else (none)) else (if (FloatKind.f64.format.mul 4607182418800017408 ((Go.bits .or .u64 (Go.bits .andNot .u64 (bt416.1:Int) 9218868437227405312) (IntKind.u64.wrap ((IntKind.u64.wrap (wrap64 ((wrap64 ((wrap64 (a1+bt416.2))+(wrap64 ((Go.bits .and .i64 (wrap64 ((bt416.1:Int) / 4503599627370496)) 2047) - 1023))))+1023)))*4503599627370496)):Int).toNat)).isSome=true then (some ((FloatKind.f64.format.mul 4607182418800017408 ((Go.bits .or .u64 (Go.bits .andNot .u64 (bt416.1:Int) 9218868437227405312) (IntKind.u64.wrap ((IntKind.u64.wrap (wrap64 ((wrap64 ((wrap64 (a1+bt416.2))+(wrap64 ((Go.bits .and .i64 (wrap64 ((bt416.1:Int) / 4503599627370496)) 2047) - 1023))))+1023)))*4503599627370496)):Int).toNat)).getD 0)) else (none))))))))))
set_option maxHeartbeats 3000000 in
set_option maxRecDepth 100000 in
theorem math_ldexp.calls (a0:Nat) (a1:Int) (r:Nat) (w:World) (h:math_ldexp.f a0 a1=some r) :
  Calls Tryd.prog 68 #[.float .f64 a0,.int .i64 a1] w fun e w'=>e = .returned (.float .f64 r)∧Drawn0 w w':=by
 have H:=h
 unfold math_ldexp.f at H
 clear h
 by_cases c3:(FloatKind.f64.format.order a0 0 == some .eq)=true
 ·rw [if_pos c3] at H
  have c3b0:(FloatKind.f64.format.order a0 0 == some .eq)=true:=c3
  clear c3
  obtain rfl:=Option.some.inj H
  go_enter Tryd.func68,Tryd.ntmps68
  go_wp2
  go_ret
  exact ⟨by first|rfl|(simp;done)|(simp [*];done),by repeat (first|exact Drawn0.refl _|apply Drawn0.step)⟩
 ·rw [if_neg c3] at H
  have c3b0:(FloatKind.f64.format.order a0 0 == some .eq)=false:=by simpa using c3
  clear c3
  obtain ⟨t414,A4,H⟩:=ob_ H
  try dsimp only at H
  by_cases c5:t414=true
  ·subst c5
   have H1:(some a0)=some r:=by rw [if_pos rfl] at H;exact H
   clear H
   have H:=H1
   clear H1
   obtain rfl:=Option.some.inj H
   go_enter Tryd.func68,Tryd.ntmps68
   go_wp2_with (first|((with_reducible refine gate_callee (f:=93) rfl ?_);refine goesM (some 14) Tryd.func93 #[.float .f64 a0,.int .i64 0] ?_;(with_reducible refine (math_IsInf.calls a0 0 true _ A4.out).mono ?_);rintro e w' ⟨rfl,⟨nd,rfl⟩⟩;refine ⟨_,rfl,?_⟩))
   go_ret
   exact ⟨by first|rfl|(simp;done)|(simp [*];done),by repeat (first|exact Drawn0.refl _|apply Drawn0.step)⟩
  ·replace c5:=Bool.eq_false_iff.mpr c5
   subst c5
   have H1:((math_IsNaN.f a0).bind fun t415=>(if t415=true then (some a0) else ((math_normalize.f a0).bind fun bt416=>(if (wrap64 ((wrap64 (a1+bt416.2))+(wrap64 ((Go.bits .and .i64 (wrap64 ((bt416.1:Int) / 4503599627370496)) 2047) - 1023))))<(-1075) then ((math_Copysign.f 0 bt416.1).bind fun t418=>(some t418)) else (if (wrap64 ((wrap64 (a1+bt416.2))+(wrap64 ((Go.bits .and .i64 (wrap64 ((bt416.1:Int) / 4503599627370496)) 2047) - 1023))))>1023 then (if (FloatKind.f64.format.order bt416.1 0 == some .lt)=true then ((math_Inf.f (-1)).bind fun t419=>(some t419)) else ((math_Inf.f 1).bind fun t420=>(some t420))) else (if (wrap64 ((wrap64 (a1+bt416.2))+(wrap64 ((Go.bits .and .i64 (wrap64 ((bt416.1:Int) / 4503599627370496)) 2047) - 1023))))<(-1022) then (if (FloatKind.f64.format.mul 4368491638549381120 ((Go.bits .or .u64 (Go.bits .andNot .u64 (bt416.1:Int) 9218868437227405312) (IntKind.u64.wrap ((IntKind.u64.wrap (wrap64 ((wrap64 ((wrap64 ((wrap64 (a1+bt416.2))+(wrap64 ((Go.bits .and .i64 (wrap64 ((bt416.1:Int) / 4503599627370496)) 2047) - 1023))))+53))+1023)))*4503599627370496)):Int).toNat)).isSome=true then (some ((FloatKind.f64.format.mul 4368491638549381120 ((Go.bits .or .u64 (Go.bits .andNot .u64 (bt416.1:Int) 9218868437227405312) (IntKind.u64.wrap ((IntKind.u64.wrap (wrap64 ((wrap64 ((wrap64 ((wrap64 (a1+bt416.2))+(wrap64 ((Go.bits .and .i64 (wrap64 ((bt416.1:Int) / 4503599627370496)) 2047) - 1023))))+53))+1023)))*4503599627370496)):Int).toNat)).getD 0)) else (none)) else (if (FloatKind.f64.format.mul 4607182418800017408 ((Go.bits .or .u64 (Go.bits .andNot .u64 (bt416.1:Int) 9218868437227405312) (IntKind.u64.wrap ((IntKind.u64.wrap (wrap64 ((wrap64 ((wrap64 (a1+bt416.2))+(wrap64 ((Go.bits .and .i64 (wrap64 ((bt416.1:Int) / 4503599627370496)) 2047) - 1023))))+1023)))*4503599627370496)):Int).toNat)).isSome=true then (some ((FloatKind.f64.format.mul 4607182418800017408 ((Go.bits .or .u64 (Go.bits .andNot .u64 (bt416.1:Int) 9218868437227405312) (IntKind.u64.wrap ((IntKind.u64.wrap (wrap64 ((wrap64 ((wrap64 (a1+bt416.2))+(wrap64 ((Go.bits .and .i64 (wrap64 ((bt416.1:Int) / 4503599627370496)) 2047) - 1023))))+1023)))*4503599627370496)):Int).toNat)).getD 0)) else (none))))))))=some r:=by rw [if_neg (show ¬ (false=true) by decide)] at H;exact H
   clear H
   have H:=H1
   clear H1
   obtain ⟨t415,A6,H⟩:=ob_ H
   try dsimp only at H
   by_cases c7:t415=true
   ·subst c7
    have H1:(some a0)=some r:=by rw [if_pos rfl] at H;exact H
    clear H
    have H:=H1
    clear H1
    obtain rfl:=Option.some.inj H
    go_enter Tryd.func68,Tryd.ntmps68
    go_wp2_with (first|((with_reducible refine gate_callee (f:=93) rfl ?_);refine goesM (some 14) Tryd.func93 #[.float .f64 a0,.int .i64 0] ?_;(with_reducible refine (math_IsInf.calls a0 0 false _ A4.out).mono ?_);rintro e w' ⟨rfl,⟨nd,rfl⟩⟩;refine ⟨_,rfl,?_⟩)|(go_at_call 94;(try simp only [i64_w,i32_w]);(with_reducible refine (math_IsNaN.calls a0 true _ A6.out).mono ?_);rintro e w' ⟨rfl,⟨nd,rfl⟩⟩))
    go_ret
    exact ⟨by first|rfl|(simp;done)|(simp [*];done),by repeat (first|exact Drawn0.refl _|apply Drawn0.step)⟩
   ·replace c7:=Bool.eq_false_iff.mpr c7
    subst c7
    have H1:((math_normalize.f a0).bind fun bt416=>(if (wrap64 ((wrap64 (a1+bt416.2))+(wrap64 ((Go.bits .and .i64 (wrap64 ((bt416.1:Int) / 4503599627370496)) 2047) - 1023))))<(-1075) then ((math_Copysign.f 0 bt416.1).bind fun t418=>(some t418)) else (if (wrap64 ((wrap64 (a1+bt416.2))+(wrap64 ((Go.bits .and .i64 (wrap64 ((bt416.1:Int) / 4503599627370496)) 2047) - 1023))))>1023 then (if (FloatKind.f64.format.order bt416.1 0 == some .lt)=true then ((math_Inf.f (-1)).bind fun t419=>(some t419)) else ((math_Inf.f 1).bind fun t420=>(some t420))) else (if (wrap64 ((wrap64 (a1+bt416.2))+(wrap64 ((Go.bits .and .i64 (wrap64 ((bt416.1:Int) / 4503599627370496)) 2047) - 1023))))<(-1022) then (if (FloatKind.f64.format.mul 4368491638549381120 ((Go.bits .or .u64 (Go.bits .andNot .u64 (bt416.1:Int) 9218868437227405312) (IntKind.u64.wrap ((IntKind.u64.wrap (wrap64 ((wrap64 ((wrap64 ((wrap64 (a1+bt416.2))+(wrap64 ((Go.bits .and .i64 (wrap64 ((bt416.1:Int) / 4503599627370496)) 2047) - 1023))))+53))+1023)))*4503599627370496)):Int).toNat)).isSome=true then (some ((FloatKind.f64.format.mul 4368491638549381120 ((Go.bits .or .u64 (Go.bits .andNot .u64 (bt416.1:Int) 9218868437227405312) (IntKind.u64.wrap ((IntKind.u64.wrap (wrap64 ((wrap64 ((wrap64 ((wrap64 (a1+bt416.2))+(wrap64 ((Go.bits .and .i64 (wrap64 ((bt416.1:Int) / 4503599627370496)) 2047) - 1023))))+53))+1023)))*4503599627370496)):Int).toNat)).getD 0)) else (none)) else (if (FloatKind.f64.format.mul 4607182418800017408 ((Go.bits .or .u64 (Go.bits .andNot .u64 (bt416.1:Int) 9218868437227405312) (IntKind.u64.wrap ((IntKind.u64.wrap (wrap64 ((wrap64 ((wrap64 (a1+bt416.2))+(wrap64 ((Go.bits .and .i64 (wrap64 ((bt416.1:Int) / 4503599627370496)) 2047) - 1023))))+1023)))*4503599627370496)):Int).toNat)).isSome=true then (some ((FloatKind.f64.format.mul 4607182418800017408 ((Go.bits .or .u64 (Go.bits .andNot .u64 (bt416.1:Int) 9218868437227405312) (IntKind.u64.wrap ((IntKind.u64.wrap (wrap64 ((wrap64 ((wrap64 (a1+bt416.2))+(wrap64 ((Go.bits .and .i64 (wrap64 ((bt416.1:Int) / 4503599627370496)) 2047) - 1023))))+1023)))*4503599627370496)):Int).toNat)).getD 0)) else (none))))))=some r:=by rw [if_neg (show ¬ (false=true) by decide)] at H;exact H
    clear H
    have H:=H1
    clear H1
    obtain ⟨⟨t416,t417⟩,A8,H⟩:=ob_ H
    try dsimp only at H
    by_cases c9:(wrap64 ((wrap64 (a1+t417))+(wrap64 ((Go.bits .and .i64 (wrap64 ((t416:Int) / 4503599627370496)) 2047) - 1023))))<(-1075)
    ·rw [if_pos c9] at H
     have c9b0:decide ((wrap64 ((wrap64 (a1+t417))+(wrap64 ((Go.bits .and .i64 (wrap64 ((t416:Int) / 4503599627370496)) 2047) - 1023))))<(-1075))=true:=decide_eq_true c9
     clear c9
     obtain ⟨t418,A10,H⟩:=ob_ H
     try dsimp only at H
     obtain rfl:=Option.some.inj H
     go_enter Tryd.func68,Tryd.ntmps68
     go_wp2_with (first|((with_reducible refine gate_callee (f:=93) rfl ?_);refine goesM (some 14) Tryd.func93 #[.float .f64 a0,.int .i64 0] ?_;(with_reducible refine (math_IsInf.calls a0 0 false _ A4.out).mono ?_);rintro e w' ⟨rfl,⟨nd,rfl⟩⟩;refine ⟨_,rfl,?_⟩)|(go_at_call 94;(try simp only [i64_w,i32_w]);(with_reducible refine (math_IsNaN.calls a0 false _ A6.out).mono ?_);rintro e w' ⟨rfl,⟨nd,rfl⟩⟩)|((with_reducible refine gate_callee (f:=95) rfl ?_);refine goesM (some 22) Tryd.func95 #[.float .f64 a0] ?_;(with_reducible refine (math_normalize.calls a0 t416 t417 _ A8.out).mono ?_);rintro e w' ⟨rfl,⟨nd,rfl⟩⟩;refine ⟨_,rfl,?_⟩)|((with_reducible refine gate_callee (f:=96) rfl ?_);refine goesM (some 40) Tryd.func96 #[.float .f64 0,.float .f64 t416] ?_;(with_reducible refine (math_Copysign.calls 0 t416 t418 _ A10.out).mono ?_);rintro e w' ⟨rfl,⟨nd,rfl⟩⟩;refine ⟨_,rfl,?_⟩))
     go_ret
     exact ⟨by first|rfl|(simp;done)|(simp [*];done),by repeat (first|exact Drawn0.refl _|apply Drawn0.step)⟩
    ·rw [if_neg c9] at H
     have c9b0:decide ((wrap64 ((wrap64 (a1+t417))+(wrap64 ((Go.bits .and .i64 (wrap64 ((t416:Int) / 4503599627370496)) 2047) - 1023))))<(-1075))=false:=decide_eq_false c9
     clear c9
     by_cases c11:(wrap64 ((wrap64 (a1+t417))+(wrap64 ((Go.bits .and .i64 (wrap64 ((t416:Int) / 4503599627370496)) 2047) - 1023))))>1023
     ·rw [if_pos c11] at H
      have c11b0:decide (1023<(wrap64 ((wrap64 (a1+t417))+(wrap64 ((Go.bits .and .i64 (wrap64 ((t416:Int) / 4503599627370496)) 2047) - 1023)))))=true:=decide_eq_true c11
      clear c11
      by_cases c12:(FloatKind.f64.format.order t416 0 == some .lt)=true
      ·rw [if_pos c12] at H
       have c12b0:(FloatKind.f64.format.order t416 0 == some .lt)=true:=c12
       clear c12
       obtain ⟨t419,A13,H⟩:=ob_ H
       try dsimp only at H
       obtain rfl:=Option.some.inj H
       go_enter Tryd.func68,Tryd.ntmps68
       go_wp2_with (first|((with_reducible refine gate_callee (f:=93) rfl ?_);refine goesM (some 14) Tryd.func93 #[.float .f64 a0,.int .i64 0] ?_;(with_reducible refine (math_IsInf.calls a0 0 false _ A4.out).mono ?_);rintro e w' ⟨rfl,⟨nd,rfl⟩⟩;refine ⟨_,rfl,?_⟩)|(go_at_call 94;(try simp only [i64_w,i32_w]);(with_reducible refine (math_IsNaN.calls a0 false _ A6.out).mono ?_);rintro e w' ⟨rfl,⟨nd,rfl⟩⟩)|((with_reducible refine gate_callee (f:=95) rfl ?_);refine goesM (some 22) Tryd.func95 #[.float .f64 a0] ?_;(with_reducible refine (math_normalize.calls a0 t416 t417 _ A8.out).mono ?_);rintro e w' ⟨rfl,⟨nd,rfl⟩⟩;refine ⟨_,rfl,?_⟩)|((with_reducible refine gate_callee (f:=97) rfl ?_);refine goesM (some 45) Tryd.func97 #[.int .i64 (-1)] ?_;(with_reducible refine (math_Inf.calls (-1) t419 _ A13.out).mono ?_);rintro e w' ⟨rfl,⟨nd,rfl⟩⟩;refine ⟨_,rfl,?_⟩))
       go_ret
       exact ⟨by first|rfl|(simp;done)|(simp [*];done),by repeat (first|exact Drawn0.refl _|apply Drawn0.step)⟩
      ·rw [if_neg c12] at H
       have c12b0:(FloatKind.f64.format.order t416 0 == some .lt)=false:=by simpa using c12
       clear c12
       obtain ⟨t420,A14,H⟩:=ob_ H
       try dsimp only at H
       obtain rfl:=Option.some.inj H
       go_enter Tryd.func68,Tryd.ntmps68
       go_wp2_with (first|((with_reducible refine gate_callee (f:=93) rfl ?_);refine goesM (some 14) Tryd.func93 #[.float .f64 a0,.int .i64 0] ?_;(with_reducible refine (math_IsInf.calls a0 0 false _ A4.out).mono ?_);rintro e w' ⟨rfl,⟨nd,rfl⟩⟩;refine ⟨_,rfl,?_⟩)|(go_at_call 94;(try simp only [i64_w,i32_w]);(with_reducible refine (math_IsNaN.calls a0 false _ A6.out).mono ?_);rintro e w' ⟨rfl,⟨nd,rfl⟩⟩)|((with_reducible refine gate_callee (f:=95) rfl ?_);refine goesM (some 22) Tryd.func95 #[.float .f64 a0] ?_;(with_reducible refine (math_normalize.calls a0 t416 t417 _ A8.out).mono ?_);rintro e w' ⟨rfl,⟨nd,rfl⟩⟩;refine ⟨_,rfl,?_⟩)|((with_reducible refine gate_callee (f:=97) rfl ?_);refine goesM (some 46) Tryd.func97 #[.int .i64 1] ?_;(with_reducible refine (math_Inf.calls 1 t420 _ A14.out).mono ?_);rintro e w' ⟨rfl,⟨nd,rfl⟩⟩;refine ⟨_,rfl,?_⟩))
       go_ret
       exact ⟨by first|rfl|(simp;done)|(simp [*];done),by repeat (first|exact Drawn0.refl _|apply Drawn0.step)⟩
     ·rw [if_neg c11] at H
      have c11b0:decide (1023<(wrap64 ((wrap64 (a1+t417))+(wrap64 ((Go.bits .and .i64 (wrap64 ((t416:Int) / 4503599627370496)) 2047) - 1023)))))=false:=decide_eq_false c11
      clear c11
      by_cases c15:(wrap64 ((wrap64 (a1+t417))+(wrap64 ((Go.bits .and .i64 (wrap64 ((t416:Int) / 4503599627370496)) 2047) - 1023))))<(-1022)
      ·rw [if_pos c15] at H
       have c15b0:decide ((wrap64 ((wrap64 (a1+t417))+(wrap64 ((Go.bits .and .i64 (wrap64 ((t416:Int) / 4503599627370496)) 2047) - 1023))))<(-1022))=true:=decide_eq_true c15
       clear c15
       by_cases c16:(FloatKind.f64.format.mul 4368491638549381120 ((Go.bits .or .u64 (Go.bits .andNot .u64 (t416:Int) 9218868437227405312) (IntKind.u64.wrap ((IntKind.u64.wrap (wrap64 ((wrap64 ((wrap64 ((wrap64 (a1+t417))+(wrap64 ((Go.bits .and .i64 (wrap64 ((t416:Int) / 4503599627370496)) 2047) - 1023))))+53))+1023)))*4503599627370496)):Int).toNat)).isSome=true
       ·rw [if_pos c16] at H
        have c16b0:(FloatKind.f64.format.mul 4368491638549381120 ((Go.bits .or .u64 (Go.bits .andNot .u64 (t416:Int) 9218868437227405312) (IntKind.u64.wrap ((IntKind.u64.wrap (wrap64 ((wrap64 ((wrap64 ((wrap64 (a1+t417))+(wrap64 ((Go.bits .and .i64 (wrap64 ((t416:Int) / 4503599627370496)) 2047) - 1023))))+53))+1023)))*4503599627370496)):Int).toNat)).isSome=true:=c16
        clear c16
        obtain rfl:=Option.some.inj H
        go_enter Tryd.func68,Tryd.ntmps68
        go_wp2_with (first|((with_reducible refine gate_callee (f:=93) rfl ?_);refine goesM (some 14) Tryd.func93 #[.float .f64 a0,.int .i64 0] ?_;(with_reducible refine (math_IsInf.calls a0 0 false _ A4.out).mono ?_);rintro e w' ⟨rfl,⟨nd,rfl⟩⟩;refine ⟨_,rfl,?_⟩)|(go_at_call 94;(try simp only [i64_w,i32_w]);(with_reducible refine (math_IsNaN.calls a0 false _ A6.out).mono ?_);rintro e w' ⟨rfl,⟨nd,rfl⟩⟩)|((with_reducible refine gate_callee (f:=95) rfl ?_);refine goesM (some 22) Tryd.func95 #[.float .f64 a0] ?_;(with_reducible refine (math_normalize.calls a0 t416 t417 _ A8.out).mono ?_);rintro e w' ⟨rfl,⟨nd,rfl⟩⟩;refine ⟨_,rfl,?_⟩))
        go_ret
        exact ⟨by first|rfl|(simp;done)|(simp [*];done),by repeat (first|exact Drawn0.refl _|apply Drawn0.step)⟩
       ·rw [if_neg c16] at H
        exact absurd H (by simp)
      ·rw [if_neg c15] at H
       have c15b0:decide ((wrap64 ((wrap64 (a1+t417))+(wrap64 ((Go.bits .and .i64 (wrap64 ((t416:Int) / 4503599627370496)) 2047) - 1023))))<(-1022))=false:=decide_eq_false c15
       clear c15
       by_cases c17:(FloatKind.f64.format.mul 4607182418800017408 ((Go.bits .or .u64 (Go.bits .andNot .u64 (t416:Int) 9218868437227405312) (IntKind.u64.wrap ((IntKind.u64.wrap (wrap64 ((wrap64 ((wrap64 (a1+t417))+(wrap64 ((Go.bits .and .i64 (wrap64 ((t416:Int) / 4503599627370496)) 2047) - 1023))))+1023)))*4503599627370496)):Int).toNat)).isSome=true
       ·rw [if_pos c17] at H
        have c17b0:(FloatKind.f64.format.mul 4607182418800017408 ((Go.bits .or .u64 (Go.bits .andNot .u64 (t416:Int) 9218868437227405312) (IntKind.u64.wrap ((IntKind.u64.wrap (wrap64 ((wrap64 ((wrap64 (a1+t417))+(wrap64 ((Go.bits .and .i64 (wrap64 ((t416:Int) / 4503599627370496)) 2047) - 1023))))+1023)))*4503599627370496)):Int).toNat)).isSome=true:=c17
        clear c17
        obtain rfl:=Option.some.inj H
        go_enter Tryd.func68,Tryd.ntmps68
        go_wp2_with (first|((with_reducible refine gate_callee (f:=93) rfl ?_);refine goesM (some 14) Tryd.func93 #[.float .f64 a0,.int .i64 0] ?_;(with_reducible refine (math_IsInf.calls a0 0 false _ A4.out).mono ?_);rintro e w' ⟨rfl,⟨nd,rfl⟩⟩;refine ⟨_,rfl,?_⟩)|(go_at_call 94;(try simp only [i64_w,i32_w]);(with_reducible refine (math_IsNaN.calls a0 false _ A6.out).mono ?_);rintro e w' ⟨rfl,⟨nd,rfl⟩⟩)|((with_reducible refine gate_callee (f:=95) rfl ?_);refine goesM (some 22) Tryd.func95 #[.float .f64 a0] ?_;(with_reducible refine (math_normalize.calls a0 t416 t417 _ A8.out).mono ?_);rintro e w' ⟨rfl,⟨nd,rfl⟩⟩;refine ⟨_,rfl,?_⟩))
        go_ret
        exact ⟨by first|rfl|(simp;done)|(simp [*];done),by repeat (first|exact Drawn0.refl _|apply Drawn0.step)⟩
       ·rw [if_neg c17] at H
        exact absurd H (by simp)

def math_Ldexp.f (a0:Nat) (a1:Int):Option (Nat):=(math_ldexp.f a0 a1).bind fun t421=>(some t421)
set_option maxHeartbeats 3000000 in
set_option maxRecDepth 100000 in
theorem math_Ldexp.calls (a0:Nat) (a1:Int) (r:Nat) (w:World) (h:math_Ldexp.f a0 a1=some r) :
  Calls Tryd.prog 46 #[.float .f64 a0,.int .i64 a1] w fun e w'=>e = .returned (.float .f64 r)∧Drawn0 w w':=by
 have H:=h
 unfold math_Ldexp.f at H
 clear h
 obtain ⟨t421,A3,H⟩:=ob_ H
 try dsimp only at H
 obtain rfl:=Option.some.inj H
 go_enter Tryd.func46,Tryd.ntmps46
 go_wp2_with (first|((with_reducible refine gate_callee (f:=68) rfl ?_);refine goesM (some 10) Tryd.func68 #[.float .f64 a0,.int .i64 a1] ?_;(with_reducible refine (math_ldexp.calls a0 a1 t421 _ A3.out).mono ?_);rintro e w' ⟨rfl,⟨nd,rfl⟩⟩;refine ⟨_,rfl,?_⟩))
 go_ret
 exact ⟨by first|rfl|(simp;done)|(simp [*];done),by repeat (first|exact Drawn0.refl _|apply Drawn0.step)⟩

/-- What an operation of pair's kind answers: the exact answer's bits; or, where it has none, any NaN's. -/
def NanOr (o:Option Nat) (b:Nat):Prop:=match o with | some r=>b=r | none=>FloatKind.f64.format.order b b=none
def pair_step.f (a0:Nat) (a1:Nat) (a2:Nat):Option (Nat):=if a0=105 then some (stepOf (FloatKind.f64.format.add a1 a2)) else if a0=106 then some (stepOf (FloatKind.f64.format.sub a1 a2)) else
 none
set_option maxHeartbeats 400000 in
theorem num_plus_any (x y:Nat) (w:World):Calls Tryd.prog 105 #[.float .f64 x,.float .f64 y] w fun e w'=>∃ b,e = .returned (.float .f64 b)∧NanOr (FloatKind.f64.format.add x y) b∧Drawn0 w w':=by
 rcases hq:FloatKind.f64.format.add x y with _|r
 ·have hrun:=fun t w=>run_float_none (P:=Tryd.prog) w .add t .f64 x y none (Or.inl ⟨rfl,hq.symm⟩) rfl
  clear hq
  go_enter Tryd.func105,Tryd.ntmps105
  go_wp2
  go_ret
  exact ⟨_,rfl,order_cut _ _ _,Drawn0.step (Drawn0.refl _) 1⟩
 ·have hs:(FloatKind.f64.format.add x y).isSome=true:=by rw [hq];rfl
  have HQ:=Aside0.mk hq
  clear hq
  go_enter Tryd.func105,Tryd.ntmps105
  go_wp2
  go_ret
  exact ⟨_,rfl,by rw [HQ.out];rfl,Drawn0.refl _⟩
set_option maxHeartbeats 400000 in
theorem num_minus_any (x y:Nat) (w:World):Calls Tryd.prog 106 #[.float .f64 x,.float .f64 y] w fun e w'=>∃ b,e = .returned (.float .f64 b)∧NanOr (FloatKind.f64.format.sub x y) b∧Drawn0 w w':=by
 rcases hq:FloatKind.f64.format.sub x y with _|r
 ·have hrun:=fun t w=>run_float_none (P:=Tryd.prog) w .sub t .f64 x y none (Or.inr (Or.inl ⟨rfl,hq.symm⟩)) rfl
  clear hq
  go_enter Tryd.func106,Tryd.ntmps106
  go_wp2
  go_ret
  exact ⟨_,rfl,order_cut _ _ _,Drawn0.step (Drawn0.refl _) 1⟩
 ·have hs:(FloatKind.f64.format.sub x y).isSome=true:=by rw [hq];rfl
  have HQ:=Aside0.mk hq
  clear hq
  go_enter Tryd.func106,Tryd.ntmps106
  go_wp2
  go_ret
  exact ⟨_,rfl,by rw [HQ.out];rfl,Drawn0.refl _⟩
theorem step_of {o:Option Nat} {b:Nat} (h:NanOr o b):stepOf o=if (FloatKind.f64.format.order b b != some .eq)=true then 9221120237041090560 else b:=by
 cases o with
 | none=>have h1:FloatKind.f64.format.order b b=none:=h;rw [h1];rfl
 | some r=>have h1:b=r:=h;rw [h1];rfl
set_option maxHeartbeats 400000 in
theorem pair_step.calls_plus (x y:Nat) (w:World):Calls Tryd.prog 104 #[.func (.func 105) #[] #[],.float .f64 x,.float .f64 y] w fun e w'=>e = .returned (.float .f64 (stepOf (FloatKind.f64.format.add x y)))∧Drawn0 w w':=by
 go_enter Tryd.func104,Tryd.ntmps104
 go_wp2_with (go_at_call 105;refine (num_plus_any _ _ _).mono ?_;rintro e w1 ⟨b,rfl,hb0,hd⟩;obtain ⟨n1,rfl⟩:=hd.out;have HB0:=Aside0.mk hb0;clear hb0 hd)
 all_goals
  go_ret
  exact ⟨by rw [step_of HB0.out];simp [*],⟨⟨_,rfl⟩⟩⟩
set_option maxHeartbeats 400000 in
theorem pair_step.calls_minus (x y:Nat) (w:World):Calls Tryd.prog 104 #[.func (.func 106) #[] #[],.float .f64 x,.float .f64 y] w fun e w'=>e = .returned (.float .f64 (stepOf (FloatKind.f64.format.sub x y)))∧Drawn0 w w':=by
 go_enter Tryd.func104,Tryd.ntmps104
 go_wp2_with (go_at_call 106;refine (num_minus_any _ _ _).mono ?_;rintro e w1 ⟨b,rfl,hb0,hd⟩;obtain ⟨n1,rfl⟩:=hd.out;have HB0:=Aside0.mk hb0;clear hb0 hd)
 all_goals
  go_ret
  exact ⟨by rw [step_of HB0.out];simp [*],⟨⟨_,rfl⟩⟩⟩
theorem pair_step.calls (a0:Nat) (a1:Nat) (a2:Nat) (r:Nat) (w:World) (h:pair_step.f a0 a1 a2=some r) :
  Calls Tryd.prog 104 #[.func (.func a0) #[] #[],.float .f64 a1,.float .f64 a2] w fun e w'=>e = .returned (.float .f64 r)∧Drawn0 w w':=by
 unfold pair_step.f at h
 by_cases h1:a0=105
 ·rw [if_pos h1] at h;obtain rfl:=Option.some.inj h;subst h1;exact pair_step.calls_plus a1 a2 w
 rw [if_neg h1] at h
 by_cases h2:a0=106
 ·rw [if_pos h2] at h;obtain rfl:=Option.some.inj h;subst h2;exact pair_step.calls_minus a1 a2 w
 rw [if_neg h2] at h
 cases h
def pair_sum.f (a0:Nat) (a1:Nat):Option (Nat × Nat):=(pair_step.f 105 a0 a1).bind fun t423=>((pair_step.f 106 t423 a0).bind fun t424=>((pair_step.f 106 t423 t424).bind fun t425=>((pair_step.f 106 a0 t425).bind fun t426=>((pair_step.f 106 a1 t424).bind fun t427=>((pair_step.f 105 t426 t427).bind fun t428=>(some (t423,t428)))))))
set_option maxHeartbeats 3000000 in
set_option maxRecDepth 100000 in
theorem pair_sum.calls (a0:Nat) (a1:Nat) (r1:Nat) (r2:Nat) (w:World) (h:pair_sum.f a0 a1=some (r1,r2)) :
  Calls Tryd.prog 98 #[.float .f64 a0,.float .f64 a1] w fun e w'=>e = .returned (.agg #[.float .f64 r1,.float .f64 r2])∧Below w.heap.size w w':=by
 have hu129:=Tryd.underlying129
 have HB:=Aside0.mk (Below.refl w.heap.size w)
 have H:=h
 unfold pair_sum.f at H
 clear h
 obtain ⟨t423,A3,H⟩:=ob_ H
 try dsimp only at H
 obtain ⟨t424,A4,H⟩:=ob_ H
 try dsimp only at H
 obtain ⟨t425,A5,H⟩:=ob_ H
 try dsimp only at H
 obtain ⟨t426,A6,H⟩:=ob_ H
 try dsimp only at H
 obtain ⟨t427,A7,H⟩:=ob_ H
 try dsimp only at H
 obtain ⟨t428,A8,H⟩:=ob_ H
 try dsimp only at H
 simp only [Option.some.injEq,Prod.mk.injEq] at H
 obtain ⟨rfl,rfl⟩:=H
 go_enter Tryd.func98,Tryd.ntmps98
 go_wp2_with (first|((with_reducible refine gate_dst (N:=4) rfl ?_);refine box_ev (N:=4) (cs:=#[.float .f64 0,.float .f64 0]) (t:=129) ?_;intro gb422 hg w9 hbox hb;have BK422:=Aside0.mk (hbox);have GW422:=ge_ HB hg;have GE422:=ge_ HB hg;replace HB:=bs_ HB hb;clear hb hbox hg)|((with_reducible refine gate_callee (f:=104) rfl ?_);refine goesM (some 12) Tryd.func104 #[.func (.func 105) #[] #[],.float .f64 a0,.float .f64 a1] ?_;(with_reducible refine (pair_step.calls 105 a0 a1 t423 _ A3.out).mono ?_);rintro e w' ⟨rfl,⟨nd,rfl⟩⟩;refine ⟨_,rfl,?_⟩;(try (rw [drewN_self w9];generalize hq_:World.drewN w9 _=w9;have n0_:Aside0 (w9.heap[gb422]? = some (.cells #[.float .f64 0,.float .f64 0] 129 (0,0))):=⟨by rw [← hq_];exact (bk_ BK422)⟩;have n1_:Aside0 (Below w.heap.size w w9):=⟨by rw [← hq_];exact (bl_ HB)⟩;clear BK422 HB hq_;have BK422:=n0_;have HB:=n1_;clear n0_ n1_)))|((with_reducible refine gate_callee (f:=104) rfl ?_);refine goesM (some 15) Tryd.func104 #[.func (.func 106) #[] #[],.float .f64 t423,.float .f64 a0] ?_;(with_reducible refine (pair_step.calls 106 t423 a0 t424 _ A4.out).mono ?_);rintro e w' ⟨rfl,⟨nd,rfl⟩⟩;refine ⟨_,rfl,?_⟩;(try (rw [drewN_self w9];generalize hq_:World.drewN w9 _=w9;have n0_:Aside0 (w9.heap[gb422]? = some (.cells #[.float .f64 0,.float .f64 0] 129 (0,0))):=⟨by rw [← hq_];exact (bk_ BK422)⟩;have n1_:Aside0 (Below w.heap.size w w9):=⟨by rw [← hq_];exact (bl_ HB)⟩;clear BK422 HB hq_;have BK422:=n0_;have HB:=n1_;clear n0_ n1_)))|((with_reducible refine gate_callee (f:=104) rfl ?_);refine goesM (some 18) Tryd.func104 #[.func (.func 106) #[] #[],.float .f64 t423,.float .f64 t424] ?_;(with_reducible refine (pair_step.calls 106 t423 t424 t425 _ A5.out).mono ?_);rintro e w' ⟨rfl,⟨nd,rfl⟩⟩;refine ⟨_,rfl,?_⟩;(try (rw [drewN_self w9];generalize hq_:World.drewN w9 _=w9;have n0_:Aside0 (w9.heap[gb422]? = some (.cells #[.float .f64 0,.float .f64 0] 129 (0,0))):=⟨by rw [← hq_];exact (bk_ BK422)⟩;have n1_:Aside0 (Below w.heap.size w w9):=⟨by rw [← hq_];exact (bl_ HB)⟩;clear BK422 HB hq_;have BK422:=n0_;have HB:=n1_;clear n0_ n1_)))|((with_reducible refine gate_callee (f:=104) rfl ?_);refine goesM (some 21) Tryd.func104 #[.func (.func 106) #[] #[],.float .f64 a0,.float .f64 t425] ?_;(with_reducible refine (pair_step.calls 106 a0 t425 t426 _ A6.out).mono ?_);rintro e w' ⟨rfl,⟨nd,rfl⟩⟩;refine ⟨_,rfl,?_⟩;(try (rw [drewN_self w9];generalize hq_:World.drewN w9 _=w9;have n0_:Aside0 (w9.heap[gb422]? = some (.cells #[.float .f64 0,.float .f64 0] 129 (0,0))):=⟨by rw [← hq_];exact (bk_ BK422)⟩;have n1_:Aside0 (Below w.heap.size w w9):=⟨by rw [← hq_];exact (bl_ HB)⟩;clear BK422 HB hq_;have BK422:=n0_;have HB:=n1_;clear n0_ n1_)))|((with_reducible refine gate_callee (f:=104) rfl ?_);refine goesM (some 24) Tryd.func104 #[.func (.func 106) #[] #[],.float .f64 a1,.float .f64 t424] ?_;(with_reducible refine (pair_step.calls 106 a1 t424 t427 _ A7.out).mono ?_);rintro e w' ⟨rfl,⟨nd,rfl⟩⟩;refine ⟨_,rfl,?_⟩;(try (rw [drewN_self w9];generalize hq_:World.drewN w9 _=w9;have n0_:Aside0 (w9.heap[gb422]? = some (.cells #[.float .f64 0,.float .f64 0] 129 (0,0))):=⟨by rw [← hq_];exact (bk_ BK422)⟩;have n1_:Aside0 (Below w.heap.size w w9):=⟨by rw [← hq_];exact (bl_ HB)⟩;clear BK422 HB hq_;have BK422:=n0_;have HB:=n1_;clear n0_ n1_)))|((with_reducible refine gate_callee (f:=104) rfl ?_);refine goesM (some 28) Tryd.func104 #[.func (.func 105) #[] #[],.float .f64 t426,.float .f64 t427] ?_;(with_reducible refine (pair_step.calls 105 t426 t427 t428 _ A8.out).mono ?_);rintro e w' ⟨rfl,⟨nd,rfl⟩⟩;refine ⟨_,rfl,?_⟩;(try (rw [drewN_self w9];generalize hq_:World.drewN w9 _=w9;have n0_:Aside0 (w9.heap[gb422]? = some (.cells #[.float .f64 0,.float .f64 0] 129 (0,0))):=⟨by rw [← hq_];exact (bk_ BK422)⟩;have n1_:Aside0 (Below w.heap.size w w9):=⟨by rw [← hq_];exact (bl_ HB)⟩;clear BK422 HB hq_;have BK422:=n0_;have HB:=n1_;clear n0_ n1_));have hcz10_0:=bc_ BK422 0;have hcz10_1:=bc_ BK422 1;have hfz10_0:=bz_ BK422 0;have hfz10_1:=bz_ BK422 1))
 refine bodyPost_ret (results_cell_row rfl _ _ gb422 129 #[.float .f64 t423,.float .f64 t428] (0,0) _ rfl (by (with_reducible repeat (first|apply bN|apply bD|apply bA));refine blk_put (cs:=#[.float .f64 t423,.float .f64 0]) ?_ 1 _ rfl;(with_reducible repeat (first|apply bN|apply bD|apply bA));refine blk_put (cs:=#[.float .f64 0,.float .f64 0]) ?_ 0 _ rfl;exact bk_ BK422) Tryd.underlying129 rfl (by kernel_rfl)) rfl ?_
 exact ⟨rf_,bl_ HB⟩

def pair_two_told.f (a0_0:Nat) (a0_1:Nat):Option (Nat × Nat):=some (a0_0,a0_1)
set_option maxHeartbeats 3000000 in
set_option maxRecDepth 100000 in
theorem pair_two_told.calls (a0_0:Nat) (a0_1:Nat) (r1:Nat) (r2:Nat) (w:World) (h:pair_two_told.f a0_0 a0_1=some (r1,r2)) :
  Calls Tryd.prog 99 #[.agg #[.float .f64 a0_0,.float .f64 a0_1]] w fun e w'=>e = .returned (.agg #[.float .f64 r1,.float .f64 r2])∧Below w.heap.size w w':=by
 have hu129:=Tryd.underlying129
 have hu101:=Tryd.underlying101
 have HB:=Aside0.mk (Below.refl w.heap.size w)
 have H:(some (a0_0,a0_1))=some (r1,r2):=h
 clear h
 simp only [Option.some.injEq,Prod.mk.injEq] at H
 obtain ⟨rfl,rfl⟩:=H
 go_enter Tryd.func99,Tryd.ntmps99
 go_wp2_with (first|((with_reducible refine gate_dst (N:=1) rfl ?_);refine box_ev (N:=1) (cs:=#[.float .f64 a0_0,.float .f64 a0_1]) (t:=129) ?_;intro gb429 hg w2 hbox hb;have BK429:=Aside0.mk (hbox);have GW429:=ge_ HB hg;have GE429:=ge_ HB hg;replace HB:=bs_ HB hb;clear hb hbox hg)|((with_reducible refine gate_dst (N:=2) rfl ?_);refine box_ev (N:=2) (cs:=#[.float .f64 0,.float .f64 0]) (t:=101) ?_;intro gb430 hg w3 hbox hb;have BK430:=Aside0.mk (hbox);have GW430:=ge_ HB hg;have GE430:=ge_ HB hg;replace HB:=bs_ HB hb;have NB429_430:=nlt_ BK429 hg;have NB430_429:=ngt_ BK429 hg;replace BK429:=kb_ BK429 hb;clear hb hbox hg;have hnb4:=NB429_430.out;have hnc4:=NB430_429.out;have hcz5_0:=bc_ BK429 0;have hcz5_1:=bc_ BK429 1;have hfz5_0:=bz_ BK429 0;have hfz5_1:=bz_ BK429 1;have hcz6_0:=bc_ BK430 0;have hcz6_1:=bc_ BK430 1;have hfz6_0:=bz_ BK430 0;have hfz6_1:=bz_ BK430 1))
 refine bodyPost_ret (results_cell_row rfl _ _ gb430 101 #[.float .f64 a0_0,.float .f64 a0_1] (0,0) _ rfl (by (with_reducible repeat (first|apply bN|apply bD|apply bA));refine blk_put (cs:=#[.float .f64 a0_0,.float .f64 0]) ?_ 1 _ rfl;(with_reducible repeat (first|apply bN|apply bD|apply bA));refine blk_put (cs:=#[.float .f64 0,.float .f64 0]) ?_ 0 _ rfl;exact bk_ BK430) Tryd.underlying101 rfl (by kernel_rfl)) rfl ?_
 exact ⟨rf_,bl_ HB⟩

def pair_Sum.f (a0:Nat) (a1:Nat):Option (Nat × Nat):=(pair_sum.f a0 a1).bind fun bt432=>((pair_two_told.f bt432.1 bt432.2).bind fun bt434=>(some (bt434.1,bt434.2)))
set_option maxHeartbeats 3000000 in
set_option maxRecDepth 100000 in
theorem pair_Sum.calls (a0:Nat) (a1:Nat) (r1:Nat) (r2:Nat) (w:World) (h:pair_Sum.f a0 a1=some (r1,r2)) :
  Calls Tryd.prog 69 #[.float .f64 a0,.float .f64 a1] w fun e w'=>e = .returned (.agg #[.float .f64 r1,.float .f64 r2])∧Below w.heap.size w w':=by
 have hu101:=Tryd.underlying101
 have HB:=Aside0.mk (Below.refl w.heap.size w)
 have H:=h
 unfold pair_Sum.f at H
 clear h
 obtain ⟨⟨t432,t433⟩,A3,H⟩:=ob_ H
 try dsimp only at H
 obtain ⟨⟨t434,t435⟩,A4,H⟩:=ob_ H
 try dsimp only at H
 simp only [Option.some.injEq,Prod.mk.injEq] at H
 obtain ⟨rfl,rfl⟩:=H
 go_enter Tryd.func69,Tryd.ntmps69
 go_wp2_with (first|((with_reducible refine gate_dst (N:=4) rfl ?_);refine box_ev (N:=4) (cs:=#[.float .f64 0,.float .f64 0]) (t:=101) ?_;intro gb431 hg w5 hbox hb;have BK431:=Aside0.mk (hbox);have GW431:=ge_ HB hg;have GE431:=ge_ HB hg;replace HB:=bs_ HB hb;clear hb hbox hg)|((with_reducible refine gate_callee (f:=98) rfl ?_);refine goesM (some 7) Tryd.func98 #[.float .f64 a0,.float .f64 a1] ?_;(with_reducible refine (pair_sum.calls a0 a1 t432 t433 _ A3.out).mono ?_);rintro e w6 ⟨rfl,hb⟩;refine ⟨_,rfl,?_⟩;replace BK431:=kb_ BK431 hb;replace HB:=bs_ HB hb;(try clear hb);(try clear hb2);(try clear hk);(try clear hi))|((with_reducible refine gate_callee (f:=99) rfl ?_);refine goesM (some 8) Tryd.func99 #[.agg #[.float .f64 t432,.float .f64 t433]] ?_;(with_reducible refine (pair_two_told.calls t432 t433 t434 t435 _ A4.out).mono ?_);rintro e w7 ⟨rfl,hb⟩;refine ⟨_,rfl,?_⟩;replace BK431:=kb_ BK431 hb;replace HB:=bs_ HB hb;(try clear hb);(try clear hb2);(try clear hk);(try clear hi);have hcz8_0:=bc_ BK431 0;have hcz8_1:=bc_ BK431 1;have hfz8_0:=bz_ BK431 0;have hfz8_1:=bz_ BK431 1))
 refine bodyPost_ret (results_cell_row rfl _ _ gb431 101 #[.float .f64 t434,.float .f64 t435] (0,0) _ rfl (by (with_reducible repeat (first|apply bN|apply bD|apply bA));refine blk_put (cs:=#[.float .f64 t434,.float .f64 0]) ?_ 1 _ rfl;(with_reducible repeat (first|apply bN|apply bD|apply bA));refine blk_put (cs:=#[.float .f64 0,.float .f64 0]) ?_ 0 _ rfl;exact bk_ BK431) Tryd.underlying101 rfl (by kernel_rfl)) rfl ?_
 exact ⟨rf_,bl_ HB⟩

def spread_grown.l0:Nat→Nat→List Nat→List Nat→Int→Int→Option (List Nat)
 | 0,_,_,_,_,_=>none
 | k+1,x1,x5,x9,x10,x11=>if x11<x10 then (if 0≤x11 then (if x11<(x9.length:Int) then ((pair_Sum.f x1 (rdOf (0:Nat) x9 x11)).bind fun bt437=>(if (FloatKind.f64.format.order bt437.2 0 != some .eq)=true then (if x5.length<17592186044416 then (spread_grown.l0 k bt437.1 (x5++[bt437.2]) x9 x10 (wrap64 (x11+1))) else (none)) else (spread_grown.l0 k bt437.1 x5 x9 x10 (wrap64 (x11+1))))) else (none)) else (none)) else (if (FloatKind.f64.format.order x1 0 != some .eq)=true then (if x5.length<17592186044416 then (some (x5++[x1])) else (none)) else (some x5))
def spread_grown.f (k:Nat) (l0:List Nat) (a1:Nat):Option (List Nat):=spread_grown.l0 k a1 ([]:List Nat) l0 (l0.length:Int) 0
set_option maxHeartbeats 3000000 in
set_option maxRecDepth 100000 in
theorem spread_grown.calls (k:Nat) (A0:Option Addr) (c0:Nat) (l0:List Nat) (a1:Nat) (r:List Nat) (w:World) (hr0:Kd.C (Kd.float .f64) w A0 l0.length l0) (hc0:l0.length≤c0) (h:spread_grown.f k l0 a1=some r) :
  Calls Tryd.prog 47 #[.slice A0 l0.length c0,.float .f64 a1] w fun e w'=>∃ v0_:Value,e = .returned (v0_)∧Kd.R (Kd.float .f64) 34 w' w.heap.size (fun _=>True) v0_ r∧Below w.heap.size w w':=by
 have hu101:=Tryd.underlying101
 have HR0:=Aside0.mk hr0
 have HC0:=Aside0.mk hc0
 clear hr0 hc0
 have HB:=Aside0.mk (Below.refl w.heap.size w)
 have H:=h
 unfold spread_grown.f at H
 clear h
 have H':=Aside0.mk H
 clear H
 go_enter Tryd.func47,Tryd.ntmps47
 go_wp2
 go_loopg [1,5,11] k (fun kq v1 v5 v11 w'=>∃ (x1_1:Nat) (x5_1:List Nat) (x11_1:Int),v1 = .float .f64 x1_1∧v11 = .int .i64 x11_1∧Aside0 (spread_grown.l0 kq x1_1 x5_1 l0 (l0.length:Int) x11_1=some r)∧Aside0 (kq≤k)∧Aside0 (Kd.R (Kd.float .f64) 34 w' w.heap.size (fun _=>True) v5 x5_1)∧Aside0 (Below w.heap.size w w'))
 case atStart=>exact ⟨(a1),(([]:List Nat)),(0),(by first|rfl|(simp;done)|(simp [*];done)),(by first|rfl|(simp;done)|(simp [*];done)),H',⟨Nat.le_refl _⟩,⟨by first|exact Kd.R_nil _ _ _ _ _|exact Kd.N_nil _ _ _ _ _|exact Kd.V_nil _ _ _ _ _|exact Kd.Q_nil _ _ _ _ _|exact Kd.S_nil _ _ _ _ _⟩,⟨bl_ HB⟩⟩
 case round =>
  clear H'
  try clear p2
  obtain ⟨x1_1,x5_1,x11_1,rfl,rfl,HA,HK1,HO_5,HB⟩:=hrel
  cases gk with
  | zero=>exact absurd HA.out (by simp [spread_grown.l0])
  | succ k1 =>
   have H:=HA.out
   clear HA
   simp only [spread_grown.l0] at H
   by_cases c3:x11_1<(l0.length:Int)
   ·rw [if_pos c3] at H
    have c3b0:decide (x11_1<(l0.length:Int))=true:=decide_eq_true c3
    clear c3
    by_cases c4:0≤x11_1
    ·rw [if_pos c4] at H
     have c4b0:decide (0≤x11_1)=true:=decide_eq_true c4
     clear c4
     by_cases c5:x11_1<(l0.length:Int)
     ·rw [if_pos c5] at H
      have c5b0:decide (x11_1<(l0.length:Int))=true:=decide_eq_true c5
      clear c5
      obtain ⟨⟨t437,t438⟩,A6,H⟩:=ob_ H
      try dsimp only at H
      by_cases c7:(FloatKind.f64.format.order t438 0 != some .eq)=true
      ·rw [if_pos c7] at H
       have c7b0:(FloatKind.f64.format.order t438 0 != some .eq)=true:=c7
       clear c7
       by_cases c8:x5_1.length<17592186044416
       ·rw [if_pos c8] at H
        have LMc8:=Aside0.mk c8
        clear c8
        obtain ⟨y440,hy440⟩:∃ y_:List Nat,y_=(x5_1++[t438]):=⟨_,rfl⟩
        replace H:(spread_grown.l0 k1 t437 y440 l0 (l0.length:Int) (wrap64 (x11_1+1)))=some r:=by first|(rw [hy440];with_reducible exact H)|(have H2_:=(Option.bind_some _ _).symm.trans H;rw [hy440];with_reducible exact H2_)|(have H2_:=(Option.bind_some _ _).symm.trans H;with_reducible exact H2_)|with_reducible exact H|(rw [hy440];exact H)|exact H
        have Ny440:=Aside0.mk hy440
        clear hy440
        have H':=Aside0.mk H
        clear H
        have p436:0≤(x11_1:Int):=od_
        have q436:x11_1<(l0.length:Int):=od_
        obtain ⟨ad436,e436,hx436_0⟩:=Kd.at_float HR0.out x11_1 p436 q436
        cases e436
        replace hx436_0:=(HB.out.cell (World.block_lt_of_cell? w _ hx436_0)).trans hx436_0
        replace p436:=eq_true p436
        replace q436:=eq_true q436
        go_wp2_with (first|((with_reducible refine gate_callee (f:=69) rfl ?_);refine goesM (some 17) Tryd.func69 #[.float .f64 x1_1,.float .f64 (rdOf (0:Nat) l0 x11_1)] ?_;(with_reducible refine (pair_Sum.calls x1_1 (rdOf (0:Nat) l0 x11_1) t437 t438 _ A6.out).mono ?_);rintro e w9 ⟨rfl,hb⟩;refine ⟨_,rfl,?_⟩;replace HO_5:=Aside0.mk (Kd.R_below (rr_ HO_5) hb);replace HB:=bs_ HB hb;(try clear hb);(try clear hb2);(try clear hk);(try clear hi))|((with_reducible refine gate_dst (N:=8) rfl ?_);refine box_ev (N:=8) (cs:=#[.float .f64 0,.float .f64 0]) (t:=101) ?_;intro gb439 hg w10 hbox hb;replace HO_5:=Aside0.mk (Kd.R_below (rr_ HO_5) hb);have BK439:=Aside0.mk (hbox);have GW439:=ge_ HB hg;have GE439:=ge_ HB hg;replace HB:=bs_ HB hb;clear hb hbox hg;have hcz11_0:=bc_ BK439 0;have hcz11_1:=bc_ BK439 1;have hfz11_0:=bz_ BK439 0;have hfz11_1:=bz_ BK439 1)|((with_reducible refine gate_builtin (b:=.append) (xs:=#[.tmp 23,.tmp 26]) rfl ?_);at_builtin;refine Kd.R_append (Kd.float .f64) (w0:=w) w.heap.size rfl (.tmp 23) (.tmp 26) 22 34 (.float .f64 0) 8 rfl Tryd.underlying22 info34 rfl (by decide) (by omega) u5 x5_1 t438 [.float .f64 t438] (fun _=>True) (fun _=>False) rfl (by first|(go_simp;done)|(go_simp;rfl)) ?aP (fun _ hk=>hk.elim) ?aF ?aO ?aB ?aS ?aL ?_;(case aP=>exact rfl);(case aB=>exact (bl_ HB));(case aF=>exact (fun _ _=>trivial));(case aO=>exact (by (with_reducible repeat (first|apply rA|apply rN|apply rD));exact Kd.R_mono (Kd.R_far (p:=⟨gb439,1,none⟩) (Kd.R_far (p:=⟨gb439,0,none⟩) (Kd.R_types HO_5.out BK439.out (by decide)) (fun _ hk=>hk.2) (.float .f64 t437)) (fun _ hk=>hk.2) (.float .f64 t438)) (fun _ hk=>trivial)));(case aS=>exact (below_size (bl_ HB)));(case aL=>have:=LMc8.out;omega);intro v441 w12 ho hb hg hat;rw [← Ny440.out] at ho;replace BK439:=Aside0.mk (blk_grown (g:=gb439) (o:=.cells #[.float .f64 t437,.float .f64 t438] 101 (0,0)) (by (with_reducible repeat (first|apply bN|apply bD|apply bA));refine blk_put (cs:=#[.float .f64 t437,.float .f64 0]) ?_ 1 _ rfl;(with_reducible repeat (first|apply bN|apply bD|apply bA));refine blk_put (cs:=#[.float .f64 0,.float .f64 0]) ?_ 0 _ rfl;exact bk_ BK439) hg (Kd.R_ne HO_5.out BK439.out (by decide)));replace HB:=Aside0.mk (hb);have HO442:=Aside0.mk (ho);clear ho hb hg hat))
        go_roundg k1
        case measure=>have:=HK1.out;omega
        case rel=>exact ⟨(t437),(y440),(wrap64 (x11_1+1)),(by first|rfl|(simp;done)|(simp [*];done)),(by first|rfl|(simp;done)|(simp [*];done)),H',⟨by have:=HK1.out;omega⟩,⟨rr_ HO442⟩,⟨bl_ HB⟩⟩
       ·rw [if_neg c8] at H
        exact absurd H (by simp)
      ·rw [if_neg c7] at H
       have c7b0:(FloatKind.f64.format.order t438 0 != some .eq)=false:=by simpa using c7
       clear c7
       have H':=Aside0.mk H
       clear H
       have p436:0≤(x11_1:Int):=od_
       have q436:x11_1<(l0.length:Int):=od_
       obtain ⟨ad436,e436,hx436_0⟩:=Kd.at_float HR0.out x11_1 p436 q436
       cases e436
       replace hx436_0:=(HB.out.cell (World.block_lt_of_cell? w _ hx436_0)).trans hx436_0
       replace p436:=eq_true p436
       replace q436:=eq_true q436
       go_wp2_with (first|((with_reducible refine gate_callee (f:=69) rfl ?_);refine goesM (some 17) Tryd.func69 #[.float .f64 x1_1,.float .f64 (rdOf (0:Nat) l0 x11_1)] ?_;(with_reducible refine (pair_Sum.calls x1_1 (rdOf (0:Nat) l0 x11_1) t437 t438 _ A6.out).mono ?_);rintro e w13 ⟨rfl,hb⟩;refine ⟨_,rfl,?_⟩;replace HO_5:=Aside0.mk (Kd.R_below (rr_ HO_5) hb);replace HB:=bs_ HB hb;(try clear hb);(try clear hb2);(try clear hk);(try clear hi))|((with_reducible refine gate_dst (N:=8) rfl ?_);refine box_ev (N:=8) (cs:=#[.float .f64 0,.float .f64 0]) (t:=101) ?_;intro gb439 hg w14 hbox hb;replace HO_5:=Aside0.mk (Kd.R_below (rr_ HO_5) hb);have BK439:=Aside0.mk (hbox);have GW439:=ge_ HB hg;have GE439:=ge_ HB hg;replace HB:=bs_ HB hb;clear hb hbox hg;have hcz15_0:=bc_ BK439 0;have hcz15_1:=bc_ BK439 1;have hfz15_0:=bz_ BK439 0;have hfz15_1:=bz_ BK439 1))
       go_roundg k1
       case measure=>have:=HK1.out;omega
       case rel=>exact ⟨(t437),(x5_1),(wrap64 (x11_1+1)),(by first|rfl|(simp;done)|(simp [*];done)),(by first|rfl|(simp;done)|(simp [*];done)),H',⟨by have:=HK1.out;omega⟩,⟨by (with_reducible repeat (first|apply rA|apply rN|apply rD));exact Kd.R_mono (Kd.R_far (p:=⟨gb439,1,none⟩) (Kd.R_far (p:=⟨gb439,0,none⟩) (Kd.R_types HO_5.out BK439.out (by decide)) (fun _ hk=>hk.2) (.float .f64 t437)) (fun _ hk=>hk.2) (.float .f64 t438)) (fun _ hk=>trivial)⟩,⟨bl_ HB⟩⟩
     ·rw [if_neg c5] at H
      exact absurd H (by simp)
    ·rw [if_neg c4] at H
     exact absurd H (by simp)
   ·rw [if_neg c3] at H
    have c3b0:decide (x11_1<(l0.length:Int))=false:=decide_eq_false c3
    clear c3
    by_cases c16:(FloatKind.f64.format.order x1_1 0 != some .eq)=true
    ·rw [if_pos c16] at H
     have c16b0:(FloatKind.f64.format.order x1_1 0 != some .eq)=true:=c16
     clear c16
     by_cases c17:x5_1.length<17592186044416
     ·rw [if_pos c17] at H
      have LMc17:=Aside0.mk c17
      clear c17
      obtain ⟨y443,hy443⟩:∃ y_:List Nat,y_=(x5_1++[x1_1]):=⟨_,rfl⟩
      replace H:(some y443)=some r:=by first|(rw [hy443];with_reducible exact H)|(have H2_:=(Option.bind_some _ _).symm.trans H;rw [hy443];with_reducible exact H2_)|(have H2_:=(Option.bind_some _ _).symm.trans H;with_reducible exact H2_)|with_reducible exact H|(rw [hy443];exact H)|exact H
      have Ny443:=Aside0.mk hy443
      clear hy443
      obtain rfl:=Option.some.inj H
      go_wp2_with (first|((with_reducible refine gate_builtin (b:=.append) (xs:=#[.tmp 31,.tmp 33]) rfl ?_);at_builtin;refine Kd.R_append (Kd.float .f64) (w0:=w) w.heap.size rfl (.tmp 31) (.tmp 33) 22 34 (.float .f64 0) 8 rfl Tryd.underlying22 info34 rfl (by decide) (by omega) u5 x5_1 x1_1 [.float .f64 x1_1] (fun _=>True) (fun _=>False) rfl rfl ?aP (fun _ hk=>hk.elim) ?aF ?aO ?aB ?aS ?aL ?_;(case aP=>exact rfl);(case aB=>exact (bl_ HB));(case aF=>exact (fun _ _=>trivial));(case aO=>exact (rr_ HO_5));(case aS=>exact (below_size (bl_ HB)));(case aL=>have:=LMc17.out;omega);intro v444 w18 ho hb hg hat;rw [← Ny443.out] at ho;replace HB:=Aside0.mk (hb);have HO445:=Aside0.mk (ho);clear ho hb hg hat))
      go_ret
      exact ⟨_,rf_,rr_ HO445,bl_ HB⟩
     ·rw [if_neg c17] at H
      exact absurd H (by simp)
    ·rw [if_neg c16] at H
     have c16b0:(FloatKind.f64.format.order x1_1 0 != some .eq)=false:=by simpa using c16
     clear c16
     obtain rfl:=Option.some.inj H
     go_wp2
     go_ret
     exact ⟨_,rf_,rr_ HO_5,bl_ HB⟩

-- NOT PRINTED: function 20 (spread_Spread_Add)

def r05_Same.f (a0:Nat) (a1:Nat):Option (Bool):=some ((a0:Int) == (a1:Int))
set_option maxHeartbeats 3000000 in
set_option maxRecDepth 100000 in
theorem r05_Same.calls (a0:Nat) (a1:Nat) (r:Bool) (w:World) (h:r05_Same.f a0 a1=some r) :
  Calls Tryd.prog 16 #[.float .f64 a0,.float .f64 a1] w fun e w'=>e = .returned (.bool r)∧Drawn0 w w':=by
 have H:(some ((a0:Int) == (a1:Int)))=some r:=h
 clear h
 obtain rfl:=Option.some.inj H
 go_enter Tryd.func16,Tryd.ntmps16
 go_wp2
 go_ret
 exact ⟨by first|rfl|(simp;done)|(simp [*];done),by repeat (first|exact Drawn0.refl _|apply Drawn0.step)⟩
theorem eqA86 (d:Nat) (w:World) (x0 y0:Bool) (x1 y1:Int) (x2 y2:Int) (x3 y3:Int) :
  (Op.equalIn (d+2) 86 (.agg #[.bool x0,.int .i64 x1,.int .i64 x2,.int .u64 x3]) (.agg #[.bool y0,.int .i64 y1,.int .i64 y2,.int .u64 y3])).run Tryd.prog w = .ok (x0 == y0&&(x1 == y1&&(x2 == y2&&(x3 == y3)))) w:=by
 refine eqA_of Tryd.underlying86 (by kernel_rfl) ?_
 refine eqf_cons (by rfl) (by go_simp;rfl) (by go_simp;rfl) (by go_simp) ?_
 refine eqf_cons (by rfl) (by go_simp;rfl) (by go_simp;rfl) (by go_simp) ?_
 refine eqf_cons (by rfl) (by go_simp;rfl) (by go_simp;rfl) (by go_simp) ?_
 exact eqf_last (by rfl) (by go_simp;rfl) (by go_simp;rfl) (by go_simp)
end Go.Proofs.YthimlebkjnajpaaDoor.Pr
namespace Go.Proofs.YthimlebkjnajpaaDoor.Pr
open Go.RowKit Go.Proofs.YthimlebkjnajpaaDoorW.PrintWords Go.Proofs.YthimlebkjnajpaaDoorW.PrintLast Go.Proofs.YthimlebkjnajpaaDoorW.PrintMore
attribute [local go_sem] max2_int min2_int max_two min_two max_three min_three max_four min_four
set_option linter.unusedVariables false
set_option linter.unusedSimpArgs false

attribute [local go_sem high] eqA86
mutual
def dyad_Of.j0:Nat→Bool→Bool→Int→Int→Int→Bool→Int→Int→Int→Bool→Int→Int→Int→Option (Bool × List Int × Int × Int)
 | 0,_,_,_,_,_,_,_,_,_,_,_,_,_=>none
 | k+1,x14,x165000,x165001,x165002,x165003,x166000,x166001,x166002,x166003,x167000,x167001,x167002,x167003=>if x14=true then (some (false,([]:List Int),0,30)) else (if (x165000 == x166000&&(x165001 == x166001&&(x165002 == x166002&&(x165003 == x166003))))=true then (dyad_Of.j1 k true x165000 x165001 x165002 x165003) else (dyad_Of.j1 k (x165000 == x167000&&(x165001 == x167001&&(x165002 == x167002&&(x165003 == x167003)))) x165000 x165001 x165002 x165003))
def dyad_Of.j1:Nat→Bool→Bool→Int→Int→Int→Option (Bool × List Int × Int × Int)
 | 0,_,_,_,_,_=>none
 | k+1,x24,x165000,x165001,x165002,x165003=>if x24=true then (some (false,([]:List Int),0,0)) else ((wide_Of.f k x165003).bind fun t167=>((dyad_form.f k x165000 t167 x165002).bind fun bt170=>(some (bt170.1,bt170.2.1,bt170.2.2.1,bt170.2.2.2))))
end
def dyad_Of.f (k:Nat) (a0:Nat):Option (Bool × List Int × Int × Int):=(bits_Split.f k a0).bind fun bt160=>(if bt160.2.1=3 then (dyad_Of.j0 k true bt160.1 bt160.2.1 bt160.2.2.1 bt160.2.2.2 false 0 bt160.2.2.1 0 true 0 bt160.2.2.1 0) else (dyad_Of.j0 k (bt160.2.1 == 4) bt160.1 bt160.2.1 bt160.2.2.1 bt160.2.2.2 false 0 bt160.2.2.1 0 true 0 bt160.2.2.1 0))
def dyad_Of.T9:Bool × List (List Nat × List Nat):=(true,[([],[]),([0],[0]),([],[]),([2],[2]),([3],[3]),([],[]),([5],[5]),([1,4,6,4],[1,4,6]),([7],[7]),([7],[7]),([8,7,0,1,2,3,4,5,6,7,8,9],[8]),([9,10,0,1,2,3,4,5,6,7,8,9,10],[9])])
def dyad_Of.B9:List Nat:=[0,1,0,4,12,0,32,127,255,255,1023,2047]
theorem dyad_Of.tab9:rtab .any (opsOf Tryd.f37 9)=dyad_Of.T9:=by kernel_rfl
theorem dyad_Of.bits9:waitsOk dyad_Of.T9.2 dyad_Of.B9=true:=by kernel_rfl
set_option maxHeartbeats 3000000 in
set_option maxRecDepth 100000 in
theorem dyad_Of.calls (k:Nat) (a0:Nat) (r1:Bool) (r2:List Int) (r3:Int) (r4:Int) (w:World) (hG:GlobLaid w) (h:dyad_Of.f k a0=some (r1,r2,r3,r4)) :
  Calls Tryd.prog 37 #[.float .f64 a0] w fun e w'=>∃ v1_:Value,e = .returned (.tuple #[.agg #[.bool r1,v1_,.int .i64 r3],.int .i64 r4])∧Kd.Q (Kd.int .u32) 68 w' w.heap.size (fun _=>True) v1_ r2∧Below w.heap.size w w':=by
 have hu30:=Tryd.underlying30
 have hu86:=Tryd.underlying86
 have HG:=Aside0.mk hG
 clear hG
 have HB:=Aside0.mk (Below.refl w.heap.size w)
 have H:=h
 unfold dyad_Of.f at H
 clear h
 obtain ⟨⟨t160,t161,t162,t163⟩,A2,H⟩:=ob_ H
 try dsimp only at H
 have HC3:=Aside0.mk H
 clear H
 go_enter Tryd.func37,Tryd.ntmps37
 go_upto_region 5 with (first|((with_reducible refine gate_dst (N:=2) rfl ?_);refine box_ev (N:=2) (cs:=#[.bool false,.slice none 0 0,.int .i64 0]) (t:=30) ?_;intro gb159 hg w4 hbox hb;have BK159:=Aside0.mk (hbox);have GW159:=ge_ HB hg;have GE159:=ge_ HB hg;replace HB:=bs_ HB hb;clear hb hbox hg)|((with_reducible refine gate_callee (f:=55) rfl ?_);refine goesM (some 8) Tryd.func55 #[.float .f64 a0] ?_;(with_reducible refine (bits_Split.calls k a0 t160 t161 t162 t163 _ A2.out).mono ?_);rintro e w5 ⟨rfl,hb⟩;refine ⟨_,rfl,?_⟩;replace BK159:=kb_ BK159 hb;replace HB:=bs_ HB hb;(try clear hb);(try clear hb2);(try clear hk);(try clear hi))|((with_reducible refine gate_dst (N:=4) rfl ?_);refine box_ev (N:=4) (cs:=#[.bool false,.int .i64 0,.int .i64 0,.int .u64 0]) (t:=86) ?_;intro gb164 hg w6 hbox hb;have BK164:=Aside0.mk (hbox);have GW164:=ge_ HB hg;have GE164:=ge_ HB hg;replace HB:=bs_ HB hb;have NB159_164:=nlt_ BK159 hg;have NB164_159:=ngt_ BK159 hg;replace BK159:=kb_ BK159 hb;clear hb hbox hg;have hnb7:=NB164_159.out;have hnc7:=NB159_164.out;have hcz8_0:=bc_ BK164 0;have hcz8_1:=bc_ BK164 1;have hcz8_2:=bc_ BK164 2;have hcz8_3:=bc_ BK164 3;have hfz8_0:=bz_ BK164 0;have hfz8_1:=bz_ BK164 1;have hfz8_2:=bz_ BK164 2;have hfz8_3:=bz_ BK164 3)|((with_reducible refine gate_dst (N:=5) rfl ?_);refine box_ev (N:=5) (cs:=#[.bool false,.int .i64 0,.int .i64 0,.int .u64 0]) (t:=86) ?_;intro gb165 hg w9 hbox hb;have BK165:=Aside0.mk (hbox);have GW165:=ge_ HB hg;have GE165:=ge_ HB hg;replace HB:=bs_ HB hb;have NB159_165:=Aside0.mk ((by rw [hg];exact Nat.ne_of_lt (blk_lt (g:=gb159) (o:=.cells #[.bool false,.slice none 0 0,.int .i64 0] 30 (0,0)) (by (with_reducible repeat (first|apply bN|apply bD|apply bA));refine blk_far ?_ NB159_164.out _;(with_reducible repeat (first|apply bN|apply bD|apply bA));refine blk_far ?_ NB159_164.out _;(with_reducible repeat (first|apply bN|apply bD|apply bA));refine blk_far ?_ NB159_164.out _;(with_reducible repeat (first|apply bN|apply bD|apply bA));refine blk_far ?_ NB159_164.out _;exact bk_ BK159)):gb159≠gb165));have NB165_159:=Aside0.mk ((by rw [hg];exact Nat.ne_of_gt (blk_lt (g:=gb159) (o:=.cells #[.bool false,.slice none 0 0,.int .i64 0] 30 (0,0)) (by (with_reducible repeat (first|apply bN|apply bD|apply bA));refine blk_far ?_ NB159_164.out _;(with_reducible repeat (first|apply bN|apply bD|apply bA));refine blk_far ?_ NB159_164.out _;(with_reducible repeat (first|apply bN|apply bD|apply bA));refine blk_far ?_ NB159_164.out _;(with_reducible repeat (first|apply bN|apply bD|apply bA));refine blk_far ?_ NB159_164.out _;exact bk_ BK159)):gb165≠gb159));replace BK159:=Aside0.mk (blk_below (g:=gb159) (o:=.cells #[.bool false,.slice none 0 0,.int .i64 0] 30 (0,0)) (by (with_reducible repeat (first|apply bN|apply bD|apply bA));refine blk_far ?_ NB159_164.out _;(with_reducible repeat (first|apply bN|apply bD|apply bA));refine blk_far ?_ NB159_164.out _;(with_reducible repeat (first|apply bN|apply bD|apply bA));refine blk_far ?_ NB159_164.out _;(with_reducible repeat (first|apply bN|apply bD|apply bA));refine blk_far ?_ NB159_164.out _;exact bk_ BK159) hb);have NB164_165:=Aside0.mk ((by rw [hg];exact Nat.ne_of_lt (blk_lt (g:=gb164) (o:=.cells #[.bool t160,.int .i64 t161,.int .i64 t162,.int .u64 t163] 86 (0,0)) (by (with_reducible repeat (first|apply bN|apply bD|apply bA));refine blk_put (cs:=#[.bool t160,.int .i64 t161,.int .i64 t162,.int .u64 0]) ?_ 3 _ rfl;(with_reducible repeat (first|apply bN|apply bD|apply bA));refine blk_put (cs:=#[.bool t160,.int .i64 t161,.int .i64 0,.int .u64 0]) ?_ 2 _ rfl;(with_reducible repeat (first|apply bN|apply bD|apply bA));refine blk_put (cs:=#[.bool t160,.int .i64 0,.int .i64 0,.int .u64 0]) ?_ 1 _ rfl;(with_reducible repeat (first|apply bN|apply bD|apply bA));refine blk_put (cs:=#[.bool false,.int .i64 0,.int .i64 0,.int .u64 0]) ?_ 0 _ rfl;exact bk_ BK164)):gb164≠gb165));have NB165_164:=Aside0.mk ((by rw [hg];exact Nat.ne_of_gt (blk_lt (g:=gb164) (o:=.cells #[.bool t160,.int .i64 t161,.int .i64 t162,.int .u64 t163] 86 (0,0)) (by (with_reducible repeat (first|apply bN|apply bD|apply bA));refine blk_put (cs:=#[.bool t160,.int .i64 t161,.int .i64 t162,.int .u64 0]) ?_ 3 _ rfl;(with_reducible repeat (first|apply bN|apply bD|apply bA));refine blk_put (cs:=#[.bool t160,.int .i64 t161,.int .i64 0,.int .u64 0]) ?_ 2 _ rfl;(with_reducible repeat (first|apply bN|apply bD|apply bA));refine blk_put (cs:=#[.bool t160,.int .i64 0,.int .i64 0,.int .u64 0]) ?_ 1 _ rfl;(with_reducible repeat (first|apply bN|apply bD|apply bA));refine blk_put (cs:=#[.bool false,.int .i64 0,.int .i64 0,.int .u64 0]) ?_ 0 _ rfl;exact bk_ BK164)):gb165≠gb164));replace BK164:=Aside0.mk (blk_below (g:=gb164) (o:=.cells #[.bool t160,.int .i64 t161,.int .i64 t162,.int .u64 t163] 86 (0,0)) (by (with_reducible repeat (first|apply bN|apply bD|apply bA));refine blk_put (cs:=#[.bool t160,.int .i64 t161,.int .i64 t162,.int .u64 0]) ?_ 3 _ rfl;(with_reducible repeat (first|apply bN|apply bD|apply bA));refine blk_put (cs:=#[.bool t160,.int .i64 t161,.int .i64 0,.int .u64 0]) ?_ 2 _ rfl;(with_reducible repeat (first|apply bN|apply bD|apply bA));refine blk_put (cs:=#[.bool t160,.int .i64 0,.int .i64 0,.int .u64 0]) ?_ 1 _ rfl;(with_reducible repeat (first|apply bN|apply bD|apply bA));refine blk_put (cs:=#[.bool false,.int .i64 0,.int .i64 0,.int .u64 0]) ?_ 0 _ rfl;exact bk_ BK164) hb);clear hb hbox hg;have hnb10:=NB165_159.out;have hnc10:=NB159_165.out;have hnb11:=NB165_164.out;have hnc11:=NB164_165.out;have hcz12_0:=bc_ BK165 0;have hcz12_1:=bc_ BK165 1;have hcz12_2:=bc_ BK165 2;have hcz12_3:=bc_ BK165 3;have hfz12_0:=bz_ BK165 0;have hfz12_1:=bz_ BK165 1;have hfz12_2:=bz_ BK165 2;have hfz12_3:=bz_ BK165 3)|((with_reducible refine gate_dst (N:=6) rfl ?_);refine box_ev (N:=6) (cs:=#[.bool false,.int .i64 0,.int .i64 0,.int .u64 0]) (t:=86) ?_;intro gb166 hg w13 hbox hb;have BK166:=Aside0.mk (hbox);have GW166:=ge_ HB hg;have GE166:=ge_ HB hg;replace HB:=bs_ HB hb;have NB159_166:=Aside0.mk ((by rw [hg];exact Nat.ne_of_lt (blk_lt (g:=gb159) (o:=.cells #[.bool false,.slice none 0 0,.int .i64 0] 30 (0,0)) (by (with_reducible repeat (first|apply bN|apply bD|apply bA));refine blk_far ?_ NB159_165.out _;(with_reducible repeat (first|apply bN|apply bD|apply bA));refine blk_far ?_ NB159_165.out _;(with_reducible repeat (first|apply bN|apply bD|apply bA));refine blk_far ?_ NB159_165.out _;(with_reducible repeat (first|apply bN|apply bD|apply bA));refine blk_far ?_ NB159_165.out _;exact bk_ BK159)):gb159≠gb166));have NB166_159:=Aside0.mk ((by rw [hg];exact Nat.ne_of_gt (blk_lt (g:=gb159) (o:=.cells #[.bool false,.slice none 0 0,.int .i64 0] 30 (0,0)) (by (with_reducible repeat (first|apply bN|apply bD|apply bA));refine blk_far ?_ NB159_165.out _;(with_reducible repeat (first|apply bN|apply bD|apply bA));refine blk_far ?_ NB159_165.out _;(with_reducible repeat (first|apply bN|apply bD|apply bA));refine blk_far ?_ NB159_165.out _;(with_reducible repeat (first|apply bN|apply bD|apply bA));refine blk_far ?_ NB159_165.out _;exact bk_ BK159)):gb166≠gb159));replace BK159:=Aside0.mk (blk_below (g:=gb159) (o:=.cells #[.bool false,.slice none 0 0,.int .i64 0] 30 (0,0)) (by (with_reducible repeat (first|apply bN|apply bD|apply bA));refine blk_far ?_ NB159_165.out _;(with_reducible repeat (first|apply bN|apply bD|apply bA));refine blk_far ?_ NB159_165.out _;(with_reducible repeat (first|apply bN|apply bD|apply bA));refine blk_far ?_ NB159_165.out _;(with_reducible repeat (first|apply bN|apply bD|apply bA));refine blk_far ?_ NB159_165.out _;exact bk_ BK159) hb);have NB164_166:=Aside0.mk ((by rw [hg];exact Nat.ne_of_lt (blk_lt (g:=gb164) (o:=.cells #[.bool t160,.int .i64 t161,.int .i64 t162,.int .u64 t163] 86 (0,0)) (by (with_reducible repeat (first|apply bN|apply bD|apply bA));refine blk_far ?_ NB164_165.out _;(with_reducible repeat (first|apply bN|apply bD|apply bA));refine blk_far ?_ NB164_165.out _;(with_reducible repeat (first|apply bN|apply bD|apply bA));refine blk_far ?_ NB164_165.out _;(with_reducible repeat (first|apply bN|apply bD|apply bA));refine blk_far ?_ NB164_165.out _;exact bk_ BK164)):gb164≠gb166));have NB166_164:=Aside0.mk ((by rw [hg];exact Nat.ne_of_gt (blk_lt (g:=gb164) (o:=.cells #[.bool t160,.int .i64 t161,.int .i64 t162,.int .u64 t163] 86 (0,0)) (by (with_reducible repeat (first|apply bN|apply bD|apply bA));refine blk_far ?_ NB164_165.out _;(with_reducible repeat (first|apply bN|apply bD|apply bA));refine blk_far ?_ NB164_165.out _;(with_reducible repeat (first|apply bN|apply bD|apply bA));refine blk_far ?_ NB164_165.out _;(with_reducible repeat (first|apply bN|apply bD|apply bA));refine blk_far ?_ NB164_165.out _;exact bk_ BK164)):gb166≠gb164));replace BK164:=Aside0.mk (blk_below (g:=gb164) (o:=.cells #[.bool t160,.int .i64 t161,.int .i64 t162,.int .u64 t163] 86 (0,0)) (by (with_reducible repeat (first|apply bN|apply bD|apply bA));refine blk_far ?_ NB164_165.out _;(with_reducible repeat (first|apply bN|apply bD|apply bA));refine blk_far ?_ NB164_165.out _;(with_reducible repeat (first|apply bN|apply bD|apply bA));refine blk_far ?_ NB164_165.out _;(with_reducible repeat (first|apply bN|apply bD|apply bA));refine blk_far ?_ NB164_165.out _;exact bk_ BK164) hb);have NB165_166:=Aside0.mk ((by rw [hg];exact Nat.ne_of_lt (blk_lt (g:=gb165) (o:=.cells #[.bool false,.int .i64 0,.int .i64 t162,.int .u64 0] 86 (0,0)) (by (with_reducible repeat (first|apply bN|apply bD|apply bA));refine blk_put (cs:=#[.bool false,.int .i64 0,.int .i64 t162,.int .u64 0]) ?_ 3 _ rfl;(with_reducible repeat (first|apply bN|apply bD|apply bA));refine blk_put (cs:=#[.bool false,.int .i64 0,.int .i64 0,.int .u64 0]) ?_ 2 _ rfl;(with_reducible repeat (first|apply bN|apply bD|apply bA));refine blk_put (cs:=#[.bool false,.int .i64 0,.int .i64 0,.int .u64 0]) ?_ 1 _ rfl;(with_reducible repeat (first|apply bN|apply bD|apply bA));refine blk_put (cs:=#[.bool false,.int .i64 0,.int .i64 0,.int .u64 0]) ?_ 0 _ rfl;exact bk_ BK165)):gb165≠gb166));have NB166_165:=Aside0.mk ((by rw [hg];exact Nat.ne_of_gt (blk_lt (g:=gb165) (o:=.cells #[.bool false,.int .i64 0,.int .i64 t162,.int .u64 0] 86 (0,0)) (by (with_reducible repeat (first|apply bN|apply bD|apply bA));refine blk_put (cs:=#[.bool false,.int .i64 0,.int .i64 t162,.int .u64 0]) ?_ 3 _ rfl;(with_reducible repeat (first|apply bN|apply bD|apply bA));refine blk_put (cs:=#[.bool false,.int .i64 0,.int .i64 0,.int .u64 0]) ?_ 2 _ rfl;(with_reducible repeat (first|apply bN|apply bD|apply bA));refine blk_put (cs:=#[.bool false,.int .i64 0,.int .i64 0,.int .u64 0]) ?_ 1 _ rfl;(with_reducible repeat (first|apply bN|apply bD|apply bA));refine blk_put (cs:=#[.bool false,.int .i64 0,.int .i64 0,.int .u64 0]) ?_ 0 _ rfl;exact bk_ BK165)):gb166≠gb165));replace BK165:=Aside0.mk (blk_below (g:=gb165) (o:=.cells #[.bool false,.int .i64 0,.int .i64 t162,.int .u64 0] 86 (0,0)) (by (with_reducible repeat (first|apply bN|apply bD|apply bA));refine blk_put (cs:=#[.bool false,.int .i64 0,.int .i64 t162,.int .u64 0]) ?_ 3 _ rfl;(with_reducible repeat (first|apply bN|apply bD|apply bA));refine blk_put (cs:=#[.bool false,.int .i64 0,.int .i64 0,.int .u64 0]) ?_ 2 _ rfl;(with_reducible repeat (first|apply bN|apply bD|apply bA));refine blk_put (cs:=#[.bool false,.int .i64 0,.int .i64 0,.int .u64 0]) ?_ 1 _ rfl;(with_reducible repeat (first|apply bN|apply bD|apply bA));refine blk_put (cs:=#[.bool false,.int .i64 0,.int .i64 0,.int .u64 0]) ?_ 0 _ rfl;exact bk_ BK165) hb);clear hb hbox hg;have hnb14:=NB166_159.out;have hnc14:=NB159_166.out;have hnb15:=NB166_164.out;have hnc15:=NB164_166.out;have hnb16:=NB166_165.out;have hnc16:=NB165_166.out;have hcz17_0:=bc_ BK166 0;have hcz17_1:=bc_ BK166 1;have hcz17_2:=bc_ BK166 2;have hcz17_3:=bc_ BK166 3;have hfz17_0:=bz_ BK166 0;have hfz17_1:=bz_ BK166 1;have hfz17_2:=bz_ BK166 2;have hfz17_3:=bz_ BK166 3))
 (try simp only [Act.put,List.setIfInBounds_toArray,List.set_cons_zero,List.set_cons_succ])
 go_cut [14] (fun v14 wc=>∃ (kq:Nat) (x14_2:Bool),v14 = .bool x14_2∧Aside0 (dyad_Of.j0 kq x14_2 t160 t161 t162 t163 false 0 t162 0 true 0 t162 0=some (r1,r2,r3,r4))∧Aside0 (kq≤k)∧Aside0 (wc.heap[gb159]? = some (.cells #[.bool false,(.slice none 0 0),.int .i64 0] 30 (0,0)))∧Aside0 (wc.heap[gb164]? = some (.cells #[.bool t160,.int .i64 t161,.int .i64 t162,.int .u64 t163] 86 (0,0)))∧Aside0 (wc.heap[gb165]? = some (.cells #[.bool false,.int .i64 0,.int .i64 t162,.int .u64 0] 86 (0,0)))∧Aside0 (wc.heap[gb166]? = some (.cells #[.bool true,.int .i64 0,.int .i64 t162,.int .u64 0] 86 (0,0)))∧Aside0 (Below w.heap.size w wc))
 case first =>
  have H:=HC3.out
  clear HC3
  by_cases c18:t161=3
  ·rw [if_pos c18] at H
   have c18b0:(t161 == 3)=true:=beq_iff_eq.mpr c18
   have c18b1:(t161 != 3)=false:=bne_eq_false_iff_eq.mpr c18
   clear c18
   (first|rw [c18b0]|(simp only [i64_w,i32_w];rw [c18b0])|rw [c18b1]|skip)
   have H':=Aside0.mk H
   clear H
   have hnb19:=NB164_159.out
   have hnc19:=NB159_164.out
   have hnb20:=NB164_165.out
   have hnc20:=NB165_164.out
   have hnb21:=NB164_166.out
   have hnc21:=NB166_164.out
   have hcz22_0:=bc_ BK164 0
   have hcz22_1:=bc_ BK164 1
   have hcz22_2:=bc_ BK164 2
   have hcz22_3:=bc_ BK164 3
   have hfz22_0:=bz_ BK164 0
   have hfz22_1:=bz_ BK164 1
   have hfz22_2:=bz_ BK164 2
   have hfz22_3:=bz_ BK164 3
   go_wp2
   go_meet
   case rel=>exact ⟨_,(true),(by first|rfl|(simp;done)|(simp [*];done)),H',⟨by first|omega|exact Nat.le_refl _⟩,⟨by (with_reducible repeat (first|apply bN|apply bD|apply bA));refine blk_far ?_ NB159_166.out _;(with_reducible repeat (first|apply bN|apply bD|apply bA));refine blk_far ?_ NB159_166.out _;(with_reducible repeat (first|apply bN|apply bD|apply bA));refine blk_far ?_ NB159_166.out _;(with_reducible repeat (first|apply bN|apply bD|apply bA));refine blk_far ?_ NB159_166.out _;(with_reducible repeat (first|apply bN|apply bD|apply bA));refine blk_far ?_ NB159_166.out _;exact bk_ BK159⟩,⟨by (with_reducible repeat (first|apply bN|apply bD|apply bA));refine blk_far ?_ NB164_166.out _;(with_reducible repeat (first|apply bN|apply bD|apply bA));refine blk_far ?_ NB164_166.out _;(with_reducible repeat (first|apply bN|apply bD|apply bA));refine blk_far ?_ NB164_166.out _;(with_reducible repeat (first|apply bN|apply bD|apply bA));refine blk_far ?_ NB164_166.out _;(with_reducible repeat (first|apply bN|apply bD|apply bA));refine blk_far ?_ NB164_166.out _;exact bk_ BK164⟩,⟨by (with_reducible repeat (first|apply bN|apply bD|apply bA));refine blk_far ?_ NB165_166.out _;(with_reducible repeat (first|apply bN|apply bD|apply bA));refine blk_far ?_ NB165_166.out _;(with_reducible repeat (first|apply bN|apply bD|apply bA));refine blk_far ?_ NB165_166.out _;(with_reducible repeat (first|apply bN|apply bD|apply bA));refine blk_far ?_ NB165_166.out _;(with_reducible repeat (first|apply bN|apply bD|apply bA));refine blk_far ?_ NB165_166.out _;exact bk_ BK165⟩,⟨by (with_reducible repeat (first|apply bN|apply bD|apply bA));refine blk_put (cs:=#[.bool false,.int .i64 0,.int .i64 t162,.int .u64 0]) ?_ 0 _ rfl;(with_reducible repeat (first|apply bN|apply bD|apply bA));refine blk_put (cs:=#[.bool false,.int .i64 0,.int .i64 t162,.int .u64 0]) ?_ 3 _ rfl;(with_reducible repeat (first|apply bN|apply bD|apply bA));refine blk_put (cs:=#[.bool false,.int .i64 0,.int .i64 0,.int .u64 0]) ?_ 2 _ rfl;(with_reducible repeat (first|apply bN|apply bD|apply bA));refine blk_put (cs:=#[.bool false,.int .i64 0,.int .i64 0,.int .u64 0]) ?_ 1 _ rfl;(with_reducible repeat (first|apply bN|apply bD|apply bA));refine blk_put (cs:=#[.bool false,.int .i64 0,.int .i64 0,.int .u64 0]) ?_ 0 _ rfl;exact bk_ BK166⟩,⟨bl_ HB⟩⟩
  ·rw [if_neg c18] at H
   have c18b0:(t161 == 3)=false:=beq_eq_false_iff_ne.mpr c18
   have c18b1:(t161 != 3)=true:=bne_iff_ne.mpr c18
   (first|rw [c18b0]|(simp only [i64_w,i32_w];rw [c18b0])|rw [c18b1]|skip)
   have H':=Aside0.mk H
   clear H
   have hnb23:=NB164_159.out
   have hnc23:=NB159_164.out
   have hnb24:=NB164_165.out
   have hnc24:=NB165_164.out
   have hnb25:=NB164_166.out
   have hnc25:=NB166_164.out
   have hcz26_0:=bc_ BK164 0
   have hcz26_1:=bc_ BK164 1
   have hcz26_2:=bc_ BK164 2
   have hcz26_3:=bc_ BK164 3
   have hfz26_0:=bz_ BK164 0
   have hfz26_1:=bz_ BK164 1
   have hfz26_2:=bz_ BK164 2
   have hfz26_3:=bz_ BK164 3
   go_wp2
   go_meet
   case rel=>exact ⟨_,((t161 == 4)),(by first|rfl|(simp;done)|(simp [*];done)),H',⟨by first|omega|exact Nat.le_refl _⟩,⟨by (with_reducible repeat (first|apply bN|apply bD|apply bA));refine blk_far ?_ NB159_166.out _;(with_reducible repeat (first|apply bN|apply bD|apply bA));refine blk_far ?_ NB159_166.out _;(with_reducible repeat (first|apply bN|apply bD|apply bA));refine blk_far ?_ NB159_166.out _;(with_reducible repeat (first|apply bN|apply bD|apply bA));refine blk_far ?_ NB159_166.out _;(with_reducible repeat (first|apply bN|apply bD|apply bA));refine blk_far ?_ NB159_166.out _;exact bk_ BK159⟩,⟨by (with_reducible repeat (first|apply bN|apply bD|apply bA));refine blk_far ?_ NB164_166.out _;(with_reducible repeat (first|apply bN|apply bD|apply bA));refine blk_far ?_ NB164_166.out _;(with_reducible repeat (first|apply bN|apply bD|apply bA));refine blk_far ?_ NB164_166.out _;(with_reducible repeat (first|apply bN|apply bD|apply bA));refine blk_far ?_ NB164_166.out _;(with_reducible repeat (first|apply bN|apply bD|apply bA));refine blk_far ?_ NB164_166.out _;exact bk_ BK164⟩,⟨by (with_reducible repeat (first|apply bN|apply bD|apply bA));refine blk_far ?_ NB165_166.out _;(with_reducible repeat (first|apply bN|apply bD|apply bA));refine blk_far ?_ NB165_166.out _;(with_reducible repeat (first|apply bN|apply bD|apply bA));refine blk_far ?_ NB165_166.out _;(with_reducible repeat (first|apply bN|apply bD|apply bA));refine blk_far ?_ NB165_166.out _;(with_reducible repeat (first|apply bN|apply bD|apply bA));refine blk_far ?_ NB165_166.out _;exact bk_ BK165⟩,⟨by (with_reducible repeat (first|apply bN|apply bD|apply bA));refine blk_put (cs:=#[.bool false,.int .i64 0,.int .i64 t162,.int .u64 0]) ?_ 0 _ rfl;(with_reducible repeat (first|apply bN|apply bD|apply bA));refine blk_put (cs:=#[.bool false,.int .i64 0,.int .i64 t162,.int .u64 0]) ?_ 3 _ rfl;(with_reducible repeat (first|apply bN|apply bD|apply bA));refine blk_put (cs:=#[.bool false,.int .i64 0,.int .i64 0,.int .u64 0]) ?_ 2 _ rfl;(with_reducible repeat (first|apply bN|apply bD|apply bA));refine blk_put (cs:=#[.bool false,.int .i64 0,.int .i64 0,.int .u64 0]) ?_ 1 _ rfl;(with_reducible repeat (first|apply bN|apply bD|apply bA));refine blk_put (cs:=#[.bool false,.int .i64 0,.int .i64 0,.int .u64 0]) ?_ 0 _ rfl;exact bk_ BK166⟩,⟨bl_ HB⟩⟩
 case rest =>
  clear HC3
  try clear c1
  try clear c2
  try clear p2
  try clear c3
  try clear c5
  try clear c7
  try clear c10
  try clear c11
  try clear c14
  try clear c15
  try clear c16
  try clear c18
  try clear c18b0
  try clear c18b1
  try clear c19
  try clear c20
  try clear c21
  try clear c23
  try clear c24
  try clear c25
  try clear hcz12_0
  try clear hcz12_1
  try clear hcz12_2
  try clear hcz12_3
  try clear hcz17_0
  try clear hcz17_1
  try clear hcz17_2
  try clear hcz17_3
  try clear hcz22_0
  try clear hcz22_1
  try clear hcz22_2
  try clear hcz22_3
  try clear hcz26_0
  try clear hcz26_1
  try clear hcz26_2
  try clear hcz26_3
  try clear hcz8_0
  try clear hcz8_1
  try clear hcz8_2
  try clear hcz8_3
  try clear hfz12_0
  try clear hfz12_1
  try clear hfz12_2
  try clear hfz12_3
  try clear hfz17_0
  try clear hfz17_1
  try clear hfz17_2
  try clear hfz17_3
  try clear hfz22_0
  try clear hfz22_1
  try clear hfz22_2
  try clear hfz22_3
  try clear hfz26_0
  try clear hfz26_1
  try clear hfz26_2
  try clear hfz26_3
  try clear hfz8_0
  try clear hfz8_1
  try clear hfz8_2
  try clear hfz8_3
  obtain ⟨kq,x14_2,rfl,HA,HJ2,BK159,BK164,BK165,BK166,HB⟩:=hcut
  cases kq with
  | zero=>exact absurd HA.out (by simp [dyad_Of.j0])
  | succ kj2 =>
   have H:=HA.out
   clear HA
   simp only [dyad_Of.j0] at H
   by_cases c27:x14_2=true
   ·subst c27
    have H1:(some (false,([]:List Int),0,30))=some (r1,r2,r3,r4):=by rw [if_pos rfl] at H;exact H
    clear H
    have H:=H1
    clear H1
    simp only [Option.some.injEq,Prod.mk.injEq] at H
    obtain ⟨rfl,rfl,rfl,rfl⟩:=H
    have hnb28:=NB159_164.out
    have hnc28:=NB164_159.out
    have hnb29:=NB159_165.out
    have hnc29:=NB165_159.out
    have hnb30:=NB159_166.out
    have hnc30:=NB166_159.out
    have hcz31_0:=bc_ BK159 0
    have hcz31_1:=bc_ BK159 1
    have hcz31_2:=bc_ BK159 2
    have hfz31_0:=bz_ BK159 0
    have hfz31_1:=bz_ BK159 1
    have hfz31_2:=bz_ BK159 2
    go_wp2
    refine bodyPost_ret (results_ct rfl _ _ gb159 30 #[.bool false,.slice none 0 0,.int .i64 0] (0,0) _ rfl (by (with_reducible repeat (first|apply bN|apply bD|apply bA));refine blk_put (cs:=#[.bool false,.slice none 0 0,.int .i64 0]) ?_ 2 _ rfl;(with_reducible repeat (first|apply bN|apply bD|apply bA));refine blk_put (cs:=#[.bool false,.slice none 0 0,.int .i64 0]) ?_ 1 _ rfl;(with_reducible repeat (first|apply bN|apply bD|apply bA));refine blk_put (cs:=#[.bool false,.slice none 0 0,.int .i64 0]) ?_ 0 _ rfl;exact bk_ BK159) Tryd.underlying30 rfl (by kernel_rfl)) rfl ?_
    exact ⟨_,rf_,Kd.Q_of_R (by first|exact Kd.R_nil _ _ _ _ _|exact Kd.N_nil _ _ _ _ _|exact Kd.V_nil _ _ _ _ _|exact Kd.Q_nil _ _ _ _ _|exact Kd.S_nil _ _ _ _ _),bl_ HB⟩
   ·replace c27:=Bool.eq_false_iff.mpr c27
    subst c27
    have H1:(if (t160 == false&&(t161 == 0&&(t162 == t162&&(t163 == 0))))=true then (dyad_Of.j1 kj2 true t160 t161 t162 t163) else (dyad_Of.j1 kj2 (t160 == true&&(t161 == 0&&(t162 == t162&&(t163 == 0)))) t160 t161 t162 t163))=some (r1,r2,r3,r4):=by rw [if_neg (show ¬ (false=true) by decide)] at H;exact H
    clear H
    have H:=H1
    clear H1
    have HC32:=Aside0.mk H
    clear H
    go_upto_region 7 with (fail)
    go_cut [24] (fun v24 wc=>∃ (kq:Nat) (x24_31:Bool),v24 = .bool x24_31∧Aside0 (dyad_Of.j1 kq x24_31 t160 t161 t162 t163=some (r1,r2,r3,r4))∧Aside0 (kq≤kj2)∧Aside0 (wc.heap[gb159]? = some (.cells #[.bool false,(.slice none 0 0),.int .i64 0] 30 (0,0)))∧Aside0 (wc.heap[gb164]? = some (.cells #[.bool t160,.int .i64 t161,.int .i64 t162,.int .u64 t163] 86 (0,0)))∧Aside0 (wc.heap[gb165]? = some (.cells #[.bool false,.int .i64 0,.int .i64 t162,.int .u64 0] 86 (0,0)))∧Aside0 (wc.heap[gb166]? = some (.cells #[.bool true,.int .i64 0,.int .i64 t162,.int .u64 0] 86 (0,0)))∧Aside0 (Below w.heap.size w wc))
    case first =>
     have H:=HC32.out
     clear HC32
     by_cases c33:(t160 == false&&(t161 == 0&&(t162 == t162&&(t163 == 0))))=true
     ·rw [if_pos c33] at H
      have c33b0:(t160 == false&&(t161 == 0&&(t162 == t162&&(t163 == 0))))=true:=c33
      (try (have c33z:=c33b0;simp only [beq_false,beq_true,BEq.rfl,beq_self_eq_true,Bool.true_and,Bool.and_true] at c33z))
      (try (have c33b1:decide (t160=false&&(t161 == 0&&(t162 == t162&&(t163 == 0))))=true:=by simpa using c33))
      (try (have c33b2:(t160 == false&&(t161 == 0&&(t162 == t162&&(t163 == 0))))=true:=by simpa using c33))
      clear c33
      (first|rw [c33b0]|(simp only [i64_w,i32_w];rw [c33b0])|rw [c33b1]|skip)
      have H':=Aside0.mk H
      clear H
      have hnb34:=NB164_159.out
      have hnc34:=NB159_164.out
      have hnb35:=NB164_165.out
      have hnc35:=NB165_164.out
      have hnb36:=NB164_166.out
      have hnc36:=NB166_164.out
      have hcz37_0:=bc_ BK164 0
      have hcz37_1:=bc_ BK164 1
      have hcz37_2:=bc_ BK164 2
      have hcz37_3:=bc_ BK164 3
      have hfz37_0:=bz_ BK164 0
      have hfz37_1:=bz_ BK164 1
      have hfz37_2:=bz_ BK164 2
      have hfz37_3:=bz_ BK164 3
      have hnb38:=NB165_159.out
      have hnc38:=NB159_165.out
      have hnb39:=NB165_166.out
      have hnc39:=NB166_165.out
      have hcz40_0:=bc_ BK165 0
      have hcz40_1:=bc_ BK165 1
      have hcz40_2:=bc_ BK165 2
      have hcz40_3:=bc_ BK165 3
      have hfz40_0:=bz_ BK165 0
      have hfz40_1:=bz_ BK165 1
      have hfz40_2:=bz_ BK165 2
      have hfz40_3:=bz_ BK165 3
      go_wp2
      go_meet
      case rel=>exact ⟨_,(true),(by first|rfl|(simp;done)|(simp [*];done)),H',⟨by have:=HJ2.out;first|omega|exact Nat.le_refl _⟩,⟨bk_ BK159⟩,⟨bk_ BK164⟩,⟨bk_ BK165⟩,⟨bk_ BK166⟩,⟨bl_ HB⟩⟩
     ·rw [if_neg c33] at H
      have c33b0:(t160 == false&&(t161 == 0&&(t162 == t162&&(t163 == 0))))=false:=by simpa using c33
      (try (have c33z:=c33b0;simp only [beq_false,beq_true,BEq.rfl,beq_self_eq_true,Bool.true_and,Bool.and_true] at c33z))
      (try (have c33b1:decide (t160=false&&(t161 == 0&&(t162 == t162&&(t163 == 0))))=false:=by simpa using c33))
      (try (have c33b2:(t160 == false&&(t161 == 0&&(t162 == t162&&(t163 == 0))))=false:=by simpa using c33))
      (try (have c33b3:¬ (t160=false&&(t161 == 0&&(t162 == t162&&(t163 == 0)))):=by simpa using c33))
      clear c33
      (first|rw [c33b0]|(simp only [i64_w,i32_w];rw [c33b0])|rw [c33b1]|skip)
      have H':=Aside0.mk H
      clear H
      have hnb41:=NB164_159.out
      have hnc41:=NB159_164.out
      have hnb42:=NB164_165.out
      have hnc42:=NB165_164.out
      have hnb43:=NB164_166.out
      have hnc43:=NB166_164.out
      have hcz44_0:=bc_ BK164 0
      have hcz44_1:=bc_ BK164 1
      have hcz44_2:=bc_ BK164 2
      have hcz44_3:=bc_ BK164 3
      have hfz44_0:=bz_ BK164 0
      have hfz44_1:=bz_ BK164 1
      have hfz44_2:=bz_ BK164 2
      have hfz44_3:=bz_ BK164 3
      have hnb45:=NB165_159.out
      have hnc45:=NB159_165.out
      have hnb46:=NB165_166.out
      have hnc46:=NB166_165.out
      have hcz47_0:=bc_ BK165 0
      have hcz47_1:=bc_ BK165 1
      have hcz47_2:=bc_ BK165 2
      have hcz47_3:=bc_ BK165 3
      have hfz47_0:=bz_ BK165 0
      have hfz47_1:=bz_ BK165 1
      have hfz47_2:=bz_ BK165 2
      have hfz47_3:=bz_ BK165 3
      have hnb48:=NB166_159.out
      have hnc48:=NB159_166.out
      have hcz49_0:=bc_ BK166 0
      have hcz49_1:=bc_ BK166 1
      have hcz49_2:=bc_ BK166 2
      have hcz49_3:=bc_ BK166 3
      have hfz49_0:=bz_ BK166 0
      have hfz49_1:=bz_ BK166 1
      have hfz49_2:=bz_ BK166 2
      have hfz49_3:=bz_ BK166 3
      go_wp2
      go_meet
      case rel=>exact ⟨_,((t160 == true&&(t161 == 0&&(t162 == t162&&(t163 == 0))))),(by first|rfl|(simp;done)|(simp [*];done)),H',⟨by have:=HJ2.out;first|omega|exact Nat.le_refl _⟩,⟨bk_ BK159⟩,⟨bk_ BK164⟩,⟨bk_ BK165⟩,⟨bk_ BK166⟩,⟨bl_ HB⟩⟩
    case rest =>
     clear HC32
     try clear c1
     try clear c2
     try clear p2
     try clear c3
     try clear c4
     try clear c5
     try clear c7
     try clear c10
     try clear c11
     try clear c14
     try clear c15
     try clear c16
     try clear c18
     try clear c18b0
     try clear c18b1
     try clear c19
     try clear c20
     try clear c21
     try clear c23
     try clear c24
     try clear c25
     try clear c27
     try clear c28
     try clear c29
     try clear c30
     try clear c33
     try clear c33b0
     try clear c33b1
     try clear c33b2
     try clear c34
     try clear c35
     try clear c36
     try clear c37
     try clear c38
     try clear c39
     try clear c41
     try clear c42
     try clear c43
     try clear c45
     try clear c46
     try clear c48
     try clear hcz12_0
     try clear hcz12_1
     try clear hcz12_2
     try clear hcz12_3
     try clear hcz17_0
     try clear hcz17_1
     try clear hcz17_2
     try clear hcz17_3
     try clear hcz22_0
     try clear hcz22_1
     try clear hcz22_2
     try clear hcz22_3
     try clear hcz26_0
     try clear hcz26_1
     try clear hcz26_2
     try clear hcz26_3
     try clear hcz31_0
     try clear hcz31_1
     try clear hcz31_2
     try clear hcz37_0
     try clear hcz37_1
     try clear hcz37_2
     try clear hcz37_3
     try clear hcz40_0
     try clear hcz40_1
     try clear hcz40_2
     try clear hcz40_3
     try clear hcz44_0
     try clear hcz44_1
     try clear hcz44_2
     try clear hcz44_3
     try clear hcz47_0
     try clear hcz47_1
     try clear hcz47_2
     try clear hcz47_3
     try clear hcz49_0
     try clear hcz49_1
     try clear hcz49_2
     try clear hcz49_3
     try clear hcz8_0
     try clear hcz8_1
     try clear hcz8_2
     try clear hcz8_3
     try clear hfz12_0
     try clear hfz12_1
     try clear hfz12_2
     try clear hfz12_3
     try clear hfz17_0
     try clear hfz17_1
     try clear hfz17_2
     try clear hfz17_3
     try clear hfz22_0
     try clear hfz22_1
     try clear hfz22_2
     try clear hfz22_3
     try clear hfz26_0
     try clear hfz26_1
     try clear hfz26_2
     try clear hfz26_3
     try clear hfz31_0
     try clear hfz31_1
     try clear hfz31_2
     try clear hfz37_0
     try clear hfz37_1
     try clear hfz37_2
     try clear hfz37_3
     try clear hfz40_0
     try clear hfz40_1
     try clear hfz40_2
     try clear hfz40_3
     try clear hfz44_0
     try clear hfz44_1
     try clear hfz44_2
     try clear hfz44_3
     try clear hfz47_0
     try clear hfz47_1
     try clear hfz47_2
     try clear hfz47_3
     try clear hfz49_0
     try clear hfz49_1
     try clear hfz49_2
     try clear hfz49_3
     try clear hfz8_0
     try clear hfz8_1
     try clear hfz8_2
     try clear hfz8_3
     try clear p2
     obtain ⟨kq,x24_31,rfl,HA,HJ31,BK159,BK164,BK165,BK166,HB⟩:=hcut
     cases kq with
     | zero=>exact absurd HA.out (by simp [dyad_Of.j1])
     | succ kj31 =>
      have H:=HA.out
      clear HA
      simp only [dyad_Of.j1] at H
      by_cases c50:x24_31=true
      ·subst c50
       have H1:(some (false,([]:List Int),0,0))=some (r1,r2,r3,r4):=by rw [if_pos rfl] at H;exact H
       clear H
       have H:=H1
       clear H1
       simp only [Option.some.injEq,Prod.mk.injEq] at H
       obtain ⟨rfl,rfl,rfl,rfl⟩:=H
       have hnb51:=NB159_164.out
       have hnc51:=NB164_159.out
       have hnb52:=NB159_165.out
       have hnc52:=NB165_159.out
       have hnb53:=NB159_166.out
       have hnc53:=NB166_159.out
       have hcz54_0:=bc_ BK159 0
       have hcz54_1:=bc_ BK159 1
       have hcz54_2:=bc_ BK159 2
       have hfz54_0:=bz_ BK159 0
       have hfz54_1:=bz_ BK159 1
       have hfz54_2:=bz_ BK159 2
       go_wp2
       refine bodyPost_ret (results_ct rfl _ _ gb159 30 #[.bool false,.slice none 0 0,.int .i64 0] (0,0) _ rfl (by (with_reducible repeat (first|apply bN|apply bD|apply bA));refine blk_put (cs:=#[.bool false,.slice none 0 0,.int .i64 0]) ?_ 2 _ rfl;(with_reducible repeat (first|apply bN|apply bD|apply bA));refine blk_put (cs:=#[.bool false,.slice none 0 0,.int .i64 0]) ?_ 1 _ rfl;(with_reducible repeat (first|apply bN|apply bD|apply bA));refine blk_put (cs:=#[.bool false,.slice none 0 0,.int .i64 0]) ?_ 0 _ rfl;exact bk_ BK159) Tryd.underlying30 rfl (by kernel_rfl)) rfl ?_
       exact ⟨_,rf_,Kd.Q_of_R (by first|exact Kd.R_nil _ _ _ _ _|exact Kd.N_nil _ _ _ _ _|exact Kd.V_nil _ _ _ _ _|exact Kd.Q_nil _ _ _ _ _|exact Kd.S_nil _ _ _ _ _),bl_ HB⟩
      ·replace c50:=Bool.eq_false_iff.mpr c50
       subst c50
       have H1:((wide_Of.f kj31 t163).bind fun t167=>((dyad_form.f kj31 t160 t167 t162).bind fun bt170=>(some (bt170.1,bt170.2.1,bt170.2.2.1,bt170.2.2.2))))=some (r1,r2,r3,r4):=by rw [if_neg (show ¬ (false=true) by decide)] at H;exact H
       clear H
       have H:=H1
       clear H1
       obtain ⟨t167,A55,H⟩:=ob_ H
       try dsimp only at H
       obtain ⟨⟨t170,t171,t174,t175⟩,A56,H⟩:=ob_ H
       try dsimp only at H
       simp only [Option.some.injEq,Prod.mk.injEq] at H
       obtain ⟨rfl,rfl,rfl,rfl⟩:=H
       try go_wp2
       have n0_:=Aside0.mk (blk_drew BK159.out)
       have n1_:=Aside0.mk (blk_drew BK164.out)
       have n2_:=Aside0.mk (blk_drew BK165.out)
       have n3_:=Aside0.mk (blk_drew BK166.out)
       have n4_:=Aside0.mk (below_drew1 HB.out)
       clear BK159
       clear BK164
       clear BK165
       clear BK166
       clear HB
       have BK159:=n0_
       have BK164:=n1_
       have BK165:=n2_
       have BK166:=n3_
       have HB:=n4_
       clear n0_ n1_ n2_ n3_ n4_
       refine start_ (n:=12) (S:=fun w'=>w'.cell? ⟨gb164,0,none⟩=some (.bool t160)∧w'.cell? ⟨gb164,1,none⟩=some (.int .i64 t161)∧w'.cell? ⟨gb164,2,none⟩=some (.int .i64 t162)∧w'.cell? ⟨gb164,3,none⟩=some (.int .u64 t163)) (ds:=[]) #[false,false,false,false,false,false,false,false,false,false,false,false] (by kernel_rfl) rfl rfl ⟨(bc_ BK164 0),(bc_ BK164 1),(bc_ BK164 2),(bc_ BK164 3)⟩ (fun hHeld=>?_);refine with_tabW dyad_Of.tab9 dyad_Of.bits9 (fun HT_ HW_=>?_)
       generalize wc.drew=w57 at BK159 BK164 BK165 BK166 HB hHeld ⊢
       refine pure_ (i:=0) (N:=some 34) (v:=?_) (a':=?_) #[true,false,false,false,false,false,false,false,false,false,false,false] rfl rfl (any_of HT_.out (by kernel_rfl)) (fun _ _ _ h=>h) (Or.inl ⟨by rfl,?_⟩) ?_ ?_
       rotate_left
       ·intro w'
        go_simp
        with_reducible rfl
       rotate_left
       ·exact nf_
       refine pure_ (i:=2) (N:=some 36) (v:=?_) (a':=?_) #[true,false,true,false,false,false,false,false,false,false,false,false] rfl rfl (any_of HT_.out (by kernel_rfl)) (fun _ _ _ h=>h) (Or.inl ⟨by rfl,?_⟩) ?_ ?_
       rotate_left
       ·intro w'
        go_simp
        with_reducible rfl
       rotate_left
       ·exact nf_
       refine pure_ (i:=5) (N:=some 39) (v:=?_) (a':=?_) #[true,false,true,false,false,true,false,false,false,false,false,false] rfl rfl (any_of HT_.out (by kernel_rfl)) (fun _ _ _ h=>h) (Or.inl ⟨by rfl,?_⟩) ?_ ?_
       rotate_left
       ·intro w'
        go_simp
        with_reducible rfl
       rotate_left
       ·exact nf_
       refine take_ (i:=1) (N:=some 35) (v:=?_) (a':=?_) #[true,true,true,false,false,true,false,false,false,false,false,false] rfl rfl (take_ofW HT_.out HW_.out (by kernel_rfl)) (fun _ _ _ h=>h) (Or.inl ⟨by rfl,?_⟩) hHeld ?_ ?_
       rotate_left
       ·rintro w' ⟨s0,s1,s2,s3⟩
        go_simp
        with_reducible rfl
       rotate_left
       ·exact nf_
       refine take_ (i:=3) (N:=some 37) (v:=?_) (a':=?_) #[true,true,true,true,false,true,false,false,false,false,false,false] rfl rfl (take_ofW HT_.out HW_.out (by kernel_rfl)) (fun _ _ _ h=>h) (Or.inl ⟨by rfl,?_⟩) hHeld ?_ ?_
       rotate_left
       ·rintro w' ⟨s0,s1,s2,s3⟩
        go_simp
        with_reducible rfl
       rotate_left
       ·exact nf_
       refine take_ (i:=6) (N:=some 40) (v:=?_) (a':=?_) #[true,true,true,true,false,true,true,false,false,false,false,false] rfl rfl (take_ofW HT_.out HW_.out (by kernel_rfl)) (fun _ _ _ h=>h) (Or.inl ⟨by rfl,?_⟩) hHeld ?_ ?_
       rotate_left
       ·rintro w' ⟨s0,s1,s2,s3⟩
        go_simp
        with_reducible rfl
       rotate_left
       ·exact nf_
       refine one_ (i:=4) (N:=some 38) #[true,true,true,true,true,true,true,false,false,false,false,false] rfl rfl (one_of HT_.out (by kernel_rfl)) (by decide) (fun K hK=>?_)
       refine goes_ Tryd.func57 (by kernel_rfl) rfl #[.int .u64 t163] (by rfl) rfl rfl (by (try simp only [List.map_toArray,List.map_cons,List.map_nil]);first|done|rfl|(simp only [List.length_drop,List.length_take];rfl)) ?_
       with_reducible refine (wide_Of.calls kj31 t163 t167 _ A55.out).mono ?_
       rintro e w58 ⟨v168,rfl,ho0,hb⟩
       refine ⟨_,rfl,?_⟩
       have n0_:=Aside0.mk (Kd.R_lower ho0 (below_size (bl_ HB)))
       have n1_:=kb_ BK159 hb
       have n2_:=kb_ BK164 hb
       have n3_:=kb_ BK165 hb
       have n4_:=kb_ BK166 hb
       have n5_:=bs_ HB hb
       clear BK159
       clear BK164
       clear BK165
       clear BK166
       clear HB
       have HO169:=n0_
       have BK159:=n1_
       have BK164:=n2_
       have BK165:=n3_
       have BK166:=n4_
       have HB:=n5_
       clear n0_ n1_ n2_ n3_ n4_ n5_
       (try clear hb)
       (try clear hb2)
       (try clear hk)
       (try clear hi)
       (try clear ho0)
       obtain ⟨Ao59,co59,eo59⟩:=Kd.R_slice HO169.out
       (first|subst eo59|(injection eo59 with f1_ f2_ f3_;have f4_:=f1_.symm;have f5_:=f3_.symm;clear f1_ f2_ f3_;subst f4_;subst f5_))
       refine hK.out _ _ ⟨(bc_ BK164 0),(bc_ BK164 1),(bc_ BK164 2),(bc_ BK164 3)⟩ (fun hHeld=>?_)
       clear hK K
       refine norm_ (a':=?_) ?_ ?_
       rotate_left
       ·show Act.put _ (some 38) _=_
        simp only [Act.put,List.setIfInBounds_toArray,List.set_cons_zero,List.set_cons_succ,i64_w,i32_w]
        rfl
       refine one_ (i:=7) (N:=some 41) #[true,true,true,true,true,true,true,true,false,false,false,false] rfl rfl (one_of HT_.out (by kernel_rfl)) (by decide) (fun K hK=>?_)
       refine goes_ Tryd.func56 (by kernel_rfl) rfl #[.bool t160,.slice Ao59 t167.length co59,.int .i64 t162] (by rfl) rfl rfl (by (try simp only [List.map_toArray,List.map_cons,List.map_nil]);first|done|rfl|(simp only [List.length_drop,List.length_take];rfl)) ?_
       with_reducible refine (dyad_form.calls kj31 t160 _ _ t167 t162 t170 t171 t174 t175 _ ?side1 ?side2 ?side3 A56.out).mono ?_
       (case side1=>exact GlobLaid.below HG.out (bl_ HB))
       (case side2=>exact cs_ (Kd.R_reads' HO169.out).2.2)
       (case side3=>exact (Kd.R_reads' HO169.out).2.1)
       rintro e w60 ⟨v172,rfl,ho0,hb⟩
       refine ⟨_,rfl,?_⟩
       have n0_:=Aside0.mk (Kd.R_elder' (rr_ HO169) (Kd.Q_base ho0) hb)
       have n1_:=Aside0.mk (Kd.Q_lower (Kd.Q_new' ho0 (Kd.R_lt (rr_ HO169))) (below_size (bl_ HB)))
       have n2_:=kb_ BK159 hb
       have n3_:=kb_ BK164 hb
       have n4_:=kb_ BK165 hb
       have n5_:=kb_ BK166 hb
       have n6_:=bs_ HB hb
       clear HO169
       clear BK159
       clear BK164
       clear BK165
       clear BK166
       clear HB
       have HO169:=n0_
       have HO173:=n1_
       have BK159:=n2_
       have BK164:=n3_
       have BK165:=n4_
       have BK166:=n5_
       have HB:=n6_
       clear n0_ n1_ n2_ n3_ n4_ n5_ n6_
       (try clear hb)
       (try clear hb2)
       (try clear hk)
       (try clear hi)
       (try clear ho0)
       obtain ⟨Ao62,co62,eo62,_⟩:=Kd.Q_slice HO173.out
       (first|subst eo62|(injection eo62 with f1_ f2_ f3_;have f4_:=f1_.symm;have f5_:=f3_.symm;clear f1_ f2_ f3_;subst f4_;subst f5_))
       refine hK.out _ _ ⟨(bc_ BK164 0),(bc_ BK164 1),(bc_ BK164 2),(bc_ BK164 3)⟩ (fun hHeld=>?_)
       clear hK K
       refine norm_ (a':=?_) ?_ ?_
       rotate_left
       ·show Act.put _ (some 41) _=_
        simp only [Act.put,List.setIfInBounds_toArray,List.set_cons_zero,List.set_cons_succ,i64_w,i32_w]
        rfl
       refine pure_ (i:=8) (N:=some 42) (v:=?_) (a':=?_) #[true,true,true,true,true,true,true,true,true,false,false,false] rfl rfl (any_of HT_.out (by kernel_rfl)) (fun _ _ _ h=>h) (Or.inl ⟨by rfl,?_⟩) ?_ ?_
       rotate_left
       ·intro w'
        go_simp
        with_reducible rfl
       rotate_left
       ·exact nf_
       refine pure_ (i:=9) (N:=some 43) (v:=?_) (a':=?_) #[true,true,true,true,true,true,true,true,true,true,false,false] rfl rfl (any_of HT_.out (by kernel_rfl)) (fun _ _ _ h=>h) (Or.inl ⟨by rfl,?_⟩) ?_ ?_
       rotate_left
       ·intro w'
        go_simp
        with_reducible rfl
       rotate_left
       ·exact nf_
       refine one_ (i:=10) (N:=none) #[true,true,true,true,true,true,true,true,true,true,true,false] rfl rfl (one_of HT_.out (by kernel_rfl)) (by decide) (fun K hK=>?_)
       have hs61:w60.cell? ⟨gb159,0,none⟩=some (.bool false):=bc_ BK159 0
       have hfs61:=bz_ BK159 0
       have hns61_1:=NB164_159.out
       have hns61_2:=NB165_159.out
       have hns61_3:=NB166_159.out
       have hms61_1:=NB159_164.out
       have hms61_2:=NB159_165.out
       have hms61_3:=NB159_166.out
       have hs63:w60.cell? ⟨gb159,1,none⟩=some (.slice none 0 0):=bc_ BK159 1
       have hfs63:=bz_ BK159 1
       have hns63_1:=NB164_159.out
       have hns63_2:=NB165_159.out
       have hns63_3:=NB166_159.out
       have hms63_1:=NB159_164.out
       have hms63_2:=NB159_165.out
       have hms63_3:=NB159_166.out
       have hs64:w60.cell? ⟨gb159,2,none⟩=some (.int .i64 0):=bc_ BK159 2
       have hfs64:=bz_ BK159 2
       have hns64_1:=NB164_159.out
       have hns64_2:=NB165_159.out
       have hns64_3:=NB166_159.out
       have hms64_1:=NB159_164.out
       have hms64_2:=NB159_165.out
       have hms64_3:=NB159_166.out
       refine skip_ (w1:=?_) (by rfl) rfl ?_ ?_
       rotate_left
       ·go_simp
        rfl
       refine hK.out _ _ ⟨((cell_far (p:=⟨gb159,_,none⟩) NB164_159.out _).trans (((cell_far (p:=⟨gb159,_,none⟩) NB164_159.out _).trans (((cell_far (p:=⟨gb159,_,none⟩) NB164_159.out _).trans (hHeld.1)))))),((cell_far (p:=⟨gb159,_,none⟩) NB164_159.out _).trans (((cell_far (p:=⟨gb159,_,none⟩) NB164_159.out _).trans (((cell_far (p:=⟨gb159,_,none⟩) NB164_159.out _).trans (hHeld.2.1)))))),((cell_far (p:=⟨gb159,_,none⟩) NB164_159.out _).trans (((cell_far (p:=⟨gb159,_,none⟩) NB164_159.out _).trans (((cell_far (p:=⟨gb159,_,none⟩) NB164_159.out _).trans (hHeld.2.2.1)))))),((cell_far (p:=⟨gb159,_,none⟩) NB164_159.out _).trans (((cell_far (p:=⟨gb159,_,none⟩) NB164_159.out _).trans (((cell_far (p:=⟨gb159,_,none⟩) NB164_159.out _).trans (hHeld.2.2.2))))))⟩ (fun hHeld=>?_)
       clear hK K
       refine pure_ (i:=11) (N:=some 3) (v:=?_) (a':=?_) #[true,true,true,true,true,true,true,true,true,true,true,true] rfl rfl (any_of HT_.out (by kernel_rfl)) (fun _ _ _ h=>h) (Or.inl ⟨by rfl,?_⟩) ?_ ?_
       rotate_left
       ·intro w'
        go_simp
        with_reducible rfl
       rotate_left
       ·exact nf_
       refine done_ (done_of HT_.out (by kernel_rfl)) ?_
       try go_wp2
       refine bodyPost_ret (results_ct rfl _ _ gb159 30 #[.bool t170,.slice Ao62 t171.length co62,.int .i64 t174] (0,0) _ rfl (by (with_reducible repeat (first|apply bN|apply bD|apply bA));refine blk_put (cs:=#[.bool t170,.slice Ao62 t171.length co62,.int .i64 0]) ?_ 2 _ rfl;(with_reducible repeat (first|apply bN|apply bD|apply bA));refine blk_put (cs:=#[.bool t170,.slice none 0 0,.int .i64 0]) ?_ 1 _ rfl;(with_reducible repeat (first|apply bN|apply bD|apply bA));refine blk_put (cs:=#[.bool false,.slice none 0 0,.int .i64 0]) ?_ 0 _ rfl;exact bk_ BK159) Tryd.underlying30 rfl (by kernel_rfl)) rfl ?_
       exact ⟨_,rf_,by (with_reducible repeat (first|apply Kd.Q_alloc|apply Kd.Q_drewN|apply Kd.Q_drew));exact Kd.Q_mono (Kd.Q_far (p:=⟨gb159,2,none⟩) (Kd.Q_far (p:=⟨gb159,1,none⟩) (Kd.Q_far (p:=⟨gb159,0,none⟩) (Kd.Q_types HO173.out BK159.out (by decide)) (fun _ hk=>hk.2) (.bool t170)) (fun _ hk=>hk.2) (.slice Ao62 t171.length co62)) (fun _ hk=>hk.2) (.int .i64 t174)) (fun _ hk=>trivial),bl_ HB⟩
end Go.Proofs.YthimlebkjnajpaaDoor.Pr
namespace Go.Proofs.YthimlebkjnajpaaDoor.Pr
open Go.RowKit Go.Proofs.YthimlebkjnajpaaDoorW.PrintWords Go.Proofs.YthimlebkjnajpaaDoorW.PrintLast Go.Proofs.YthimlebkjnajpaaDoorW.PrintMore
attribute [local go_sem] max2_int min2_int max_two min_two max_three min_three max_four min_four
set_option linter.unusedVariables false
set_option linter.unusedSimpArgs false
def l08_same.l0:Nat→List Nat→List Nat→Int→Option (Bool)
 | 0,_,_,_=>none
 | k+1,x0,x1,x5=>if x5<(x0.length:Int) then (if 0≤x5 then (if x5<(x1.length:Int) then ((r05_Same.f (rdOf (0:Nat) x0 x5) (rdOf (0:Nat) x1 x5)).bind fun t448=>(if t448=true then (l08_same.l0 k x0 x1 (wrap64 (x5+1))) else (some false))) else (none)) else (none)) else (some true)
def l08_same.f (k:Nat) (l0:List Nat) (l1:List Nat):Option (Bool):=if (l0.length:Int)=(l1.length:Int) then (l08_same.l0 k l0 l1 0) else (some false)
set_option maxHeartbeats 3000000 in
set_option maxRecDepth 100000 in
theorem l08_same.calls (k:Nat) (A0:Option Addr) (c0:Nat) (l0:List Nat) (A1:Option Addr) (c1:Nat) (l1:List Nat) (r:Bool) (w:World) (hr0:Kd.C (Kd.float .f64) w A0 l0.length l0) (hc0:l0.length≤c0) (hr1:Kd.C (Kd.float .f64) w A1 l1.length l1) (hc1:l1.length≤c1) (h:l08_same.f k l0 l1=some r) :
  Calls Tryd.prog 21 #[.slice A0 l0.length c0,.slice A1 l1.length c1] w fun e w'=>e = .returned (.bool r)∧Drawn0 w w':=by
 have HR0:=Aside0.mk hr0
 have HC0:=Aside0.mk hc0
 clear hr0 hc0
 have HR1:=Aside0.mk hr1
 have HC1:=Aside0.mk hc1
 clear hr1 hc1
 have H:=h
 unfold l08_same.f at H
 clear h
 by_cases c3:(l0.length:Int)=(l1.length:Int)
 ·rw [if_pos c3] at H
  have c3b0:((l0.length:Int) == (l1.length:Int))=true:=beq_iff_eq.mpr c3
  have c3b1:((l0.length:Int) != (l1.length:Int))=false:=bne_eq_false_iff_eq.mpr c3
  have c3b2:(l0.length == l1.length)=true:=by first|simpa using c3|(simp at c3 ⊢;omega)
  clear c3
  have H':=Aside0.mk H
  clear H
  go_enter Tryd.func21,Tryd.ntmps21
  go_wp2
  repeat (go_quiet (fail);try go_wp2)
  go_loopg [5] k (fun kq v5 w'=>∃ (x5_1:Int),v5 = .int .i64 x5_1∧Aside0 (l08_same.l0 kq l0 l1 x5_1=some r)∧Aside0 (kq≤k)∧Drawn0 w w')
  case atStart=>exact ⟨(0),(by first|rfl|(simp;done)|(simp [*];done)),H',⟨Nat.le_refl _⟩,by repeat (first|exact Drawn0.refl _|apply Drawn0.step)⟩
  case round =>
   clear H'
   try clear c1
   try clear c2
   try clear p2
   try clear c3
   try clear c3b0
   try clear c3b1
   try clear c3b2
   obtain ⟨x5_1,rfl,HA,HK1,⟨m1,rfl⟩⟩:=hrel
   cases gk with
   | zero=>exact absurd HA.out (by simp [l08_same.l0])
   | succ k1 =>
    have H:=HA.out
    clear HA
    simp only [l08_same.l0] at H
    by_cases c4:x5_1<(l0.length:Int)
    ·rw [if_pos c4] at H
     have c4b0:decide (x5_1<(l0.length:Int))=true:=decide_eq_true c4
     clear c4
     by_cases c5:0≤x5_1
     ·rw [if_pos c5] at H
      have c5b0:decide (0≤x5_1)=true:=decide_eq_true c5
      clear c5
      by_cases c6:x5_1<(l1.length:Int)
      ·rw [if_pos c6] at H
       have c6b0:decide (x5_1<(l1.length:Int))=true:=decide_eq_true c6
       clear c6
       obtain ⟨t448,A7,H⟩:=ob_ H
       try dsimp only at H
       by_cases c8:t448=true
       ·subst c8
        have H1:(l08_same.l0 k1 l0 l1 (wrap64 (x5_1+1)))=some r:=by rw [if_pos rfl] at H;exact H
        clear H
        have H:=H1
        clear H1
        have H':=Aside0.mk H
        clear H
        have p446:0≤(x5_1:Int):=od_
        have q446:x5_1<(l0.length:Int):=od_
        obtain ⟨ad446,e446,hx446_0⟩:=Kd.at_float HR0.out x5_1 p446 q446
        cases e446
        replace p446:=eq_true p446
        replace q446:=eq_true q446
        have p447:0≤(x5_1:Int):=od_
        have q447:x5_1<(l1.length:Int):=od_
        obtain ⟨ad447,e447,hx447_0⟩:=Kd.at_float HR1.out x5_1 p447 q447
        cases e447
        replace p447:=eq_true p447
        replace q447:=eq_true q447
        go_wp2_with (first|(go_at_call 16;(try simp only [i64_w,i32_w]);(with_reducible refine (r05_Same.calls (rdOf (0:Nat) l0 x5_1) (rdOf (0:Nat) l1 x5_1) true _ A7.out).mono ?_);rintro e w' ⟨rfl,⟨nd,rfl⟩⟩;(try first|exact ⟨rfl,_,World.drewN_drewN _ _ _⟩|exact ⟨rfl,_,Eq.trans (World.drewN_drewN _ _ _) (congrArg (World.drewN _) (Nat.add_assoc _ _ _))⟩)))
        repeat (go_quiet (first|(go_at_call 16;(try simp only [i64_w,i32_w]);(with_reducible refine (r05_Same.calls (rdOf (0:Nat) l0 x5_1) (rdOf (0:Nat) l1 x5_1) true _ A7.out).mono ?_);rintro e w' ⟨rfl,⟨nd,rfl⟩⟩;(try first|exact ⟨rfl,_,World.drewN_drewN _ _ _⟩|exact ⟨rfl,_,Eq.trans (World.drewN_drewN _ _ _) (congrArg (World.drewN _) (Nat.add_assoc _ _ _))⟩)));try go_wp2_with (first|(go_at_call 16;(try simp only [i64_w,i32_w]);(with_reducible refine (r05_Same.calls (rdOf (0:Nat) l0 x5_1) (rdOf (0:Nat) l1 x5_1) true _ A7.out).mono ?_);rintro e w' ⟨rfl,⟨nd,rfl⟩⟩;(try first|exact ⟨rfl,_,World.drewN_drewN _ _ _⟩|exact ⟨rfl,_,Eq.trans (World.drewN_drewN _ _ _) (congrArg (World.drewN _) (Nat.add_assoc _ _ _))⟩))))
        go_roundg k1
        case measure=>have:=HK1.out;omega
        case rel=>exact ⟨(wrap64 (x5_1+1)),(by first|rfl|(simp;done)|(simp [*];done)),H',⟨by have:=HK1.out;omega⟩,by repeat (first|exact Drawn0.refl _|apply Drawn0.step)⟩
       ·replace c8:=Bool.eq_false_iff.mpr c8
        subst c8
        have H1:(some false)=some r:=by rw [if_neg (show ¬ (false=true) by decide)] at H;exact H
        clear H
        have H:=H1
        clear H1
        obtain rfl:=Option.some.inj H
        have p446:0≤(x5_1:Int):=od_
        have q446:x5_1<(l0.length:Int):=od_
        obtain ⟨ad446,e446,hx446_0⟩:=Kd.at_float HR0.out x5_1 p446 q446
        cases e446
        replace p446:=eq_true p446
        replace q446:=eq_true q446
        have p447:0≤(x5_1:Int):=od_
        have q447:x5_1<(l1.length:Int):=od_
        obtain ⟨ad447,e447,hx447_0⟩:=Kd.at_float HR1.out x5_1 p447 q447
        cases e447
        replace p447:=eq_true p447
        replace q447:=eq_true q447
        go_wp2_with (first|(go_at_call 16;(try simp only [i64_w,i32_w]);(with_reducible refine (r05_Same.calls (rdOf (0:Nat) l0 x5_1) (rdOf (0:Nat) l1 x5_1) false _ A7.out).mono ?_);rintro e w' ⟨rfl,⟨nd,rfl⟩⟩;(try first|exact ⟨rfl,_,World.drewN_drewN _ _ _⟩|exact ⟨rfl,_,Eq.trans (World.drewN_drewN _ _ _) (congrArg (World.drewN _) (Nat.add_assoc _ _ _))⟩)))
        repeat (go_quiet (first|(go_at_call 16;(try simp only [i64_w,i32_w]);(with_reducible refine (r05_Same.calls (rdOf (0:Nat) l0 x5_1) (rdOf (0:Nat) l1 x5_1) false _ A7.out).mono ?_);rintro e w' ⟨rfl,⟨nd,rfl⟩⟩;(try first|exact ⟨rfl,_,World.drewN_drewN _ _ _⟩|exact ⟨rfl,_,Eq.trans (World.drewN_drewN _ _ _) (congrArg (World.drewN _) (Nat.add_assoc _ _ _))⟩)));try go_wp2_with (first|(go_at_call 16;(try simp only [i64_w,i32_w]);(with_reducible refine (r05_Same.calls (rdOf (0:Nat) l0 x5_1) (rdOf (0:Nat) l1 x5_1) false _ A7.out).mono ?_);rintro e w' ⟨rfl,⟨nd,rfl⟩⟩;(try first|exact ⟨rfl,_,World.drewN_drewN _ _ _⟩|exact ⟨rfl,_,Eq.trans (World.drewN_drewN _ _ _) (congrArg (World.drewN _) (Nat.add_assoc _ _ _))⟩))))
        go_ret
        exact ⟨by first|rfl|(simp;done)|(simp [*];done),by repeat (first|exact Drawn0.refl _|apply Drawn0.step)⟩
      ·rw [if_neg c6] at H
       exact absurd H (by simp)
     ·rw [if_neg c5] at H
      exact absurd H (by simp)
    ·rw [if_neg c4] at H
     have c4b0:decide (x5_1<(l0.length:Int))=false:=decide_eq_false c4
     clear c4
     obtain rfl:=Option.some.inj H
     go_wp2
     repeat (go_quiet (fail);try go_wp2)
     go_ret
     exact ⟨by first|rfl|(simp;done)|(simp [*];done),by repeat (first|exact Drawn0.refl _|apply Drawn0.step)⟩
 ·rw [if_neg c3] at H
  have c3b0:((l0.length:Int) == (l1.length:Int))=false:=beq_eq_false_iff_ne.mpr c3
  have c3b1:((l0.length:Int) != (l1.length:Int))=true:=bne_iff_ne.mpr c3
  have c3b2:(l0.length == l1.length)=false:=by first|simpa using c3|(simp at c3 ⊢;omega)
  obtain rfl:=Option.some.inj H
  go_enter Tryd.func21,Tryd.ntmps21
  go_wp2
  repeat (go_quiet (fail);try go_wp2)
  go_ret
  exact ⟨by first|rfl|(simp;done)|(simp [*];done),by repeat (first|exact Drawn0.refl _|apply Drawn0.step)⟩

-- NOT PRINTED: function 6 (l08_awake)

def r03_Of64.f  : Option (Int × Int × Int):=some (53,(-1074),9218868437227405312)
set_option maxHeartbeats 3000000 in
set_option maxRecDepth 100000 in
theorem r03_Of64.calls  (r1:Int) (r2:Int) (r3:Int) (w:World) (h:r03_Of64.f  = some (r1,r2,r3)) :
  Calls Tryd.prog 29 #[] w fun e w'=>e = .returned (.agg #[.int .i64 r1,.int .i64 r2,.int .u64 r3])∧Below w.heap.size w w':=by
 have hu59:=Tryd.underlying59
 have HB:=Aside0.mk (Below.refl w.heap.size w)
 have H:=h
 unfold r03_Of64.f at H
 clear h
 simp only [Option.some.injEq,Prod.mk.injEq] at H
 obtain ⟨rfl,rfl,rfl⟩:=H
 go_enter Tryd.func29,Tryd.ntmps29
 go_wp2_with (first|((with_reducible refine gate_dst (N:=0) rfl ?_);refine box_ev (N:=0) (cs:=#[.int .i64 0,.int .i64 0,.int .u64 0]) (t:=59) ?_;intro gb453 hg w1 hbox hb;have BK453:=Aside0.mk (hbox);have GW453:=ge_ HB hg;have GE453:=ge_ HB hg;replace HB:=bs_ HB hb;clear hb hbox hg;have hcz2_0:=bc_ BK453 0;have hcz2_1:=bc_ BK453 1;have hcz2_2:=bc_ BK453 2;have hfz2_0:=bz_ BK453 0;have hfz2_1:=bz_ BK453 1;have hfz2_2:=bz_ BK453 2))
 refine bodyPost_ret (results_cell_row rfl _ _ gb453 59 #[.int .i64 53,.int .i64 (-1074),.int .u64 9218868437227405312] (0,0) _ rfl (by (with_reducible repeat (first|apply bN|apply bD|apply bA));refine blk_put (cs:=#[.int .i64 53,.int .i64 (-1074),.int .u64 0]) ?_ 2 _ rfl;(with_reducible repeat (first|apply bN|apply bD|apply bA));refine blk_put (cs:=#[.int .i64 53,.int .i64 0,.int .u64 0]) ?_ 1 _ rfl;(with_reducible repeat (first|apply bN|apply bD|apply bA));refine blk_put (cs:=#[.int .i64 0,.int .i64 0,.int .u64 0]) ?_ 0 _ rfl;exact bk_ BK453) Tryd.underlying59 rfl (by kernel_rfl)) rfl ?_
 exact ⟨rf_,bl_ HB⟩

def r02_size.l0:Nat→List Int→Int→Option (Int)
 | 0,_,_=>none
 | k+1,x0,x3=>if x3>0 then (if 0≤(wrap64 (x3 - 1)) then (if (wrap64 (x3 - 1))<(x0.length:Int) then (if (rd x0 (wrap64 (x3 - 1)))=0 then (r02_size.l0 k x0 (wrap64 (x3 - 1))) else (some x3)) else (none)) else (none)) else (some x3)
def r02_size.f (k:Nat) (l0:List Int):Option (Int):=r02_size.l0 k l0 (l0.length:Int)
set_option maxHeartbeats 3000000 in
set_option maxRecDepth 100000 in
theorem r02_size.calls (k:Nat) (A0:Option Addr) (c0:Nat) (l0:List Int) (r:Int) (w:World) (hr0:Kd.C (Kd.int .u32) w A0 l0.length l0) (hc0:l0.length≤c0) (h:r02_size.f k l0=some r) :
  Calls Tryd.prog 54 #[.slice A0 l0.length c0] w fun e w'=>e = .returned (.int .i64 r)∧Drawn0 w w':=by
 have HR0:=Aside0.mk hr0
 have HC0:=Aside0.mk hc0
 clear hr0 hc0
 have H:=h
 unfold r02_size.f at H
 clear h
 have H':=Aside0.mk H
 clear H
 go_enter Tryd.func54,Tryd.ntmps54
 go_wp2
 go_loopg [3] k (fun kq v3 w'=>∃ (x3_1:Int),v3 = .int .i64 x3_1∧Aside0 (r02_size.l0 kq l0 x3_1=some r)∧Aside0 (kq≤k)∧Drawn0 w w')
 case atStart=>exact ⟨((l0.length:Int)),(by first|rfl|(simp;done)|(simp [*];done)),H',⟨Nat.le_refl _⟩,by repeat (first|exact Drawn0.refl _|apply Drawn0.step)⟩
 case round =>
  clear H'
  obtain ⟨x3_1,rfl,HA,HK1,⟨m1,rfl⟩⟩:=hrel
  cases gk with
  | zero=>exact absurd HA.out (by simp [r02_size.l0])
  | succ k1 =>
   have H:=HA.out
   clear HA
   simp only [r02_size.l0] at H
   by_cases c2:x3_1>0
   ·rw [if_pos c2] at H
    have c2b0:decide (0<x3_1)=true:=decide_eq_true c2
    clear c2
    obtain ⟨ji3,hji3⟩:∃ j_:Int,(wrap64 (x3_1 - 1))=j_:=⟨_,rfl⟩
    replace H:(if 0≤(ji3) then (if (ji3)<(l0.length:Int) then (if (rd l0 (ji3))=0 then (r02_size.l0 k1 l0 ji3) else (some x3_1)) else (none)) else (none))=some r:=by first|(rw [hji3] at H;exact H)|(simp only [hji3] at H ⊢;exact H)
    have hji3w:(IntKind.i64.wrap (x3_1 - 1))=ji3:=(i64_w _).trans hji3
    by_cases c4:0≤(ji3)
    ·rw [if_pos c4] at H
     have c4b0:decide (0≤(ji3))=true:=decide_eq_true c4
     clear c4
     by_cases c5:(ji3)<(l0.length:Int)
     ·rw [if_pos c5] at H
      have c5b0:decide ((ji3)<(l0.length:Int))=true:=decide_eq_true c5
      clear c5
      by_cases c6:(rd l0 (ji3))=0
      ·rw [if_pos c6] at H
       have c6b0:((rd l0 (ji3)) == 0)=true:=beq_iff_eq.mpr c6
       have c6b1:((rd l0 (ji3)) != 0)=false:=bne_eq_false_iff_eq.mpr c6
       clear c6
       have H':=Aside0.mk H
       clear H
       have p454:0≤((ji3):Int):=od_
       have q454:(ji3)<(l0.length:Int):=od_
       obtain ⟨ad454,e454,hx454_0⟩:=Kd.at_int HR0.out (ji3) p454 q454
       cases e454
       replace p454:=eq_true p454
       replace q454:=eq_true q454
       go_wp2
       go_roundg k1
       case measure=>have:=HK1.out;omega
       case rel=>exact ⟨(ji3),(by first|rfl|(simp;done)|(simp only [← hji3] <;> (first|rfl|simp))|(simp [*];done)),H',⟨by have:=HK1.out;omega⟩,by repeat (first|exact Drawn0.refl _|apply Drawn0.step)⟩
      ·rw [if_neg c6] at H
       have c6b0:((rd l0 (ji3)) == 0)=false:=beq_eq_false_iff_ne.mpr c6
       have c6b1:((rd l0 (ji3)) != 0)=true:=bne_iff_ne.mpr c6
       obtain rfl:=Option.some.inj H
       have p454:0≤((ji3):Int):=od_
       have q454:(ji3)<(l0.length:Int):=od_
       obtain ⟨ad454,e454,hx454_0⟩:=Kd.at_int HR0.out (ji3) p454 q454
       cases e454
       replace p454:=eq_true p454
       replace q454:=eq_true q454
       go_wp2
       go_ret
       exact ⟨by first|rfl|(simp;done)|(simp only [← hji3] <;> (first|rfl|simp))|(simp [*];done),by repeat (first|exact Drawn0.refl _|apply Drawn0.step)⟩
     ·rw [if_neg c5] at H
      exact absurd H (by simp)
    ·rw [if_neg c4] at H
     exact absurd H (by simp)
   ·rw [if_neg c2] at H
    have c2b0:decide (0<x3_1)=false:=decide_eq_false c2
    clear c2
    obtain rfl:=Option.some.inj H
    go_wp2
    go_ret
    exact ⟨by first|rfl|(simp;done)|(simp [*];done),by repeat (first|exact Drawn0.refl _|apply Drawn0.step)⟩
mutual
def r03_Same.j0:Nat→Bool→Bool→List Int→Int→Bool→List Int→Int→Option (Bool)
 | 0,_,_,_,_,_,_,_=>none
 | k+1,x26,x682000,x682001,x682002,x683000,x683001,x683002=>if x26=true then (some false) else (r03_Same.l0 k 0 x682000 x682001 x682002 x683000 x683001 x683002)
def r03_Same.l0:Nat→Int→Bool→List Int→Int→Bool→List Int→Int→Option (Bool)
 | 0,_,_,_,_,_,_,_=>none
 | k+1,x5,x682000,x682001,x682002,x683000,x683001,x683002=>if x5<(x682001.length:Int) then (if 0≤x5 then (if x5<(x683001.length:Int) then (if (rd x682001 x5)=(rd x683001 x5) then (r03_Same.l0 k (wrap64 (x5+1)) x682000 x682001 x682002 x683000 x683001 x683002) else (some false)) else (none)) else (none)) else (some true)
end
def r03_Same.f (k:Nat) (a0_0:Bool) (l0_1:List Int) (a0_2:Int) (a1_0:Bool) (l1_1:List Int) (a1_2:Int):Option (Bool):=if (a0_0 != a1_0)=true then (r03_Same.j0 k true a0_0 l0_1 a0_2 a1_0 l1_1 a1_2) else (if a0_2=a1_2 then (r03_Same.j0 k ((l0_1.length:Int) != (l1_1.length:Int)) a0_0 l0_1 a0_2 a1_0 l1_1 a1_2) else (r03_Same.j0 k true a0_0 l0_1 a0_2 a1_0 l1_1 a1_2))
set_option maxHeartbeats 3000000 in
set_option maxRecDepth 100000 in
theorem r03_Same.calls (k:Nat) (a0_0:Bool) (A0_1:Option Addr) (c0_1:Nat) (l0_1:List Int) (a0_2:Int) (a1_0:Bool) (A1_1:Option Addr) (c1_1:Nat) (l1_1:List Int) (a1_2:Int) (r:Bool) (w:World) (hr0_1:Kd.C (Kd.int .u32) w A0_1 l0_1.length l0_1) (hc0_1:l0_1.length≤c0_1) (hr1_1:Kd.C (Kd.int .u32) w A1_1 l1_1.length l1_1) (hc1_1:l1_1.length≤c1_1) (h:r03_Same.f k a0_0 l0_1 a0_2 a1_0 l1_1 a1_2=some r) :
  Calls Tryd.prog 11 #[.agg #[.bool a0_0,.slice A0_1 l0_1.length c0_1,.int .i64 a0_2],.agg #[.bool a1_0,.slice A1_1 l1_1.length c1_1,.int .i64 a1_2]] w fun e w'=>e = .returned (.bool r)∧Below w.heap.size w w':=by
 have hu30:=Tryd.underlying30
 have HR0_1:=Aside0.mk hr0_1
 have HC0_1:=Aside0.mk hc0_1
 clear hr0_1 hc0_1
 have HR1_1:=Aside0.mk hr1_1
 have HC1_1:=Aside0.mk hc1_1
 clear hr1_1 hc1_1
 have HB:=Aside0.mk (Below.refl w.heap.size w)
 have H:=h
 unfold r03_Same.f at H
 clear h
 have HC3:=Aside0.mk H
 clear H
 go_enter Tryd.func11,Tryd.ntmps11
 go_upto_region 1 with (first|((with_reducible refine gate_dst (N:=2) rfl ?_);(try (refine gate_guard (by rfl) ?_;dsimp only));refine box_ev (N:=2) (cs:=#[.bool a0_0,.slice A0_1 l0_1.length c0_1,.int .i64 a0_2]) (t:=30) ?_;intro gb681 hg w4 hbox hb;have BK681:=Aside0.mk (hbox);have GW681:=ge_ HB hg;have GE681:=ge_ HB hg;replace HB:=bs_ HB hb;clear hb hbox hg)|((with_reducible refine gate_dst (N:=3) rfl ?_);(try (refine gate_guard (by rfl) ?_;dsimp only));refine box_ev (N:=3) (cs:=#[.bool a1_0,.slice A1_1 l1_1.length c1_1,.int .i64 a1_2]) (t:=30) ?_;intro gb682 hg w5 hbox hb;have BK682:=Aside0.mk (hbox);have GW682:=ge_ HB hg;have GE682:=ge_ HB hg;replace HB:=bs_ HB hb;have NB681_682:=nlt_ BK681 hg;have NB682_681:=ngt_ BK681 hg;replace BK681:=kb_ BK681 hb;clear hb hbox hg))
 repeat (go_quiet (first|((with_reducible refine gate_dst (N:=2) rfl ?_);(try (refine gate_guard (by rfl) ?_;dsimp only));refine box_ev (N:=2) (cs:=#[.bool a0_0,.slice A0_1 l0_1.length c0_1,.int .i64 a0_2]) (t:=30) ?_;intro gb681 hg w4 hbox hb;have BK681:=Aside0.mk (hbox);have GW681:=ge_ HB hg;have GE681:=ge_ HB hg;replace HB:=bs_ HB hb;clear hb hbox hg)|((with_reducible refine gate_dst (N:=3) rfl ?_);(try (refine gate_guard (by rfl) ?_;dsimp only));refine box_ev (N:=3) (cs:=#[.bool a1_0,.slice A1_1 l1_1.length c1_1,.int .i64 a1_2]) (t:=30) ?_;intro gb682 hg w5 hbox hb;have BK682:=Aside0.mk (hbox);have GW682:=ge_ HB hg;have GE682:=ge_ HB hg;replace HB:=bs_ HB hb;have NB681_682:=nlt_ BK681 hg;have NB682_681:=ngt_ BK681 hg;replace BK681:=kb_ BK681 hb;clear hb hbox hg));go_upto_region 1 with (first|((with_reducible refine gate_dst (N:=2) rfl ?_);(try (refine gate_guard (by rfl) ?_;dsimp only));refine box_ev (N:=2) (cs:=#[.bool a0_0,.slice A0_1 l0_1.length c0_1,.int .i64 a0_2]) (t:=30) ?_;intro gb681 hg w4 hbox hb;have BK681:=Aside0.mk (hbox);have GW681:=ge_ HB hg;have GE681:=ge_ HB hg;replace HB:=bs_ HB hb;clear hb hbox hg)|((with_reducible refine gate_dst (N:=3) rfl ?_);(try (refine gate_guard (by rfl) ?_;dsimp only));refine box_ev (N:=3) (cs:=#[.bool a1_0,.slice A1_1 l1_1.length c1_1,.int .i64 a1_2]) (t:=30) ?_;intro gb682 hg w5 hbox hb;have BK682:=Aside0.mk (hbox);have GW682:=ge_ HB hg;have GE682:=ge_ HB hg;replace HB:=bs_ HB hb;have NB681_682:=nlt_ BK681 hg;have NB682_681:=ngt_ BK681 hg;replace BK681:=kb_ BK681 hb;clear hb hbox hg)))
 (try simp only [Act.put,List.setIfInBounds_toArray,List.set_cons_zero,List.set_cons_succ])
 go_cut [26] (fun v26 wc=>∃ (kq:Nat) (x26_2:Bool),v26 = .bool x26_2∧Aside0 (r03_Same.j0 kq x26_2 a0_0 l0_1 a0_2 a1_0 l1_1 a1_2=some r)∧Aside0 (kq≤k)∧Aside0 (wc.heap[gb681]? = some (.cells #[.bool a0_0,(.slice A0_1 l0_1.length c0_1),.int .i64 a0_2] 30 (0,0)))∧Aside0 (wc.heap[gb682]? = some (.cells #[.bool a1_0,(.slice A1_1 l1_1.length c1_1),.int .i64 a1_2] 30 (0,0)))∧Aside0 (Below w.heap.size w wc))
 case first =>
  have H:=HC3.out
  clear HC3
  by_cases c6:(a0_0 != a1_0)=true
  ·rw [if_pos c6] at H
   have c6b0:(a0_0 != a1_0)=true:=c6
   (try (have c6b1:decide (a0_0=a1_0)=false:=by simpa using c6))
   (try (have c6b2:(a0_0 == a1_0)=false:=by simpa using c6))
   (try (have c6b3:¬ (a0_0=a1_0):=by simpa using c6))
   clear c6
   (first|rw [c6b0]|(simp only [i64_w,i32_w];rw [c6b0])|rw [c6b1]|skip)
   have H':=Aside0.mk H
   clear H
   have hnb7:=NB681_682.out
   have hnc7:=NB682_681.out
   have hcz8_0:=bc_ BK681 0
   have hcz8_1:=bc_ BK681 1
   have hcz8_2:=bc_ BK681 2
   have hfz8_0:=bz_ BK681 0
   have hfz8_1:=bz_ BK681 1
   have hfz8_2:=bz_ BK681 2
   have hcz9_0:=bc_ BK682 0
   have hcz9_1:=bc_ BK682 1
   have hcz9_2:=bc_ BK682 2
   have hfz9_0:=bz_ BK682 0
   have hfz9_1:=bz_ BK682 1
   have hfz9_2:=bz_ BK682 2
   go_wp2
   repeat (go_quiet (fail);try go_wp2)
   go_meet
   case rel=>exact ⟨_,(true),(by first|rfl|(simp;done)|(simp [*];done)),H',⟨by first|omega|exact Nat.le_refl _⟩,⟨bk_ BK681⟩,⟨bk_ BK682⟩,⟨bl_ HB⟩⟩
  ·rw [if_neg c6] at H
   have c6b0:(a0_0 != a1_0)=false:=by simpa using c6
   (try (have c6b1:decide (a0_0=a1_0)=true:=by simpa using c6))
   (try (have c6b2:(a0_0 == a1_0)=true:=by simpa using c6))
   clear c6
   (first|rw [c6b0]|(simp only [i64_w,i32_w];rw [c6b0])|rw [c6b1]|skip)
   by_cases c10:a0_2=a1_2
   ·rw [if_pos c10] at H
    have c10b0:(a0_2 == a1_2)=true:=beq_iff_eq.mpr c10
    have c10b1:(a0_2 != a1_2)=false:=bne_eq_false_iff_eq.mpr c10
    clear c10
    have H':=Aside0.mk H
    clear H
    have hnb11:=NB681_682.out
    have hnc11:=NB682_681.out
    have hcz12_0:=bc_ BK681 0
    have hcz12_1:=bc_ BK681 1
    have hcz12_2:=bc_ BK681 2
    have hfz12_0:=bz_ BK681 0
    have hfz12_1:=bz_ BK681 1
    have hfz12_2:=bz_ BK681 2
    have hcz13_0:=bc_ BK682 0
    have hcz13_1:=bc_ BK682 1
    have hcz13_2:=bc_ BK682 2
    have hfz13_0:=bz_ BK682 0
    have hfz13_1:=bz_ BK682 1
    have hfz13_2:=bz_ BK682 2
    go_wp2
    repeat (go_quiet (fail);try go_wp2)
    go_meet
    case rel=>exact ⟨_,(((l0_1.length:Int) != (l1_1.length:Int))),(by first|rfl|(simp;done)|(simp [*];done)),H',⟨by first|omega|exact Nat.le_refl _⟩,⟨bk_ BK681⟩,⟨bk_ BK682⟩,⟨bl_ HB⟩⟩
   ·rw [if_neg c10] at H
    have c10b0:(a0_2 == a1_2)=false:=beq_eq_false_iff_ne.mpr c10
    have c10b1:(a0_2 != a1_2)=true:=bne_iff_ne.mpr c10
    have H':=Aside0.mk H
    clear H
    have hnb14:=NB681_682.out
    have hnc14:=NB682_681.out
    have hcz15_0:=bc_ BK681 0
    have hcz15_1:=bc_ BK681 1
    have hcz15_2:=bc_ BK681 2
    have hfz15_0:=bz_ BK681 0
    have hfz15_1:=bz_ BK681 1
    have hfz15_2:=bz_ BK681 2
    have hcz16_0:=bc_ BK682 0
    have hcz16_1:=bc_ BK682 1
    have hcz16_2:=bc_ BK682 2
    have hfz16_0:=bz_ BK682 0
    have hfz16_1:=bz_ BK682 1
    have hfz16_2:=bz_ BK682 2
    go_wp2
    repeat (go_quiet (fail);try go_wp2)
    go_meet
    case rel=>exact ⟨_,(true),(by first|rfl|(simp;done)|(simp [*];done)),H',⟨by first|omega|exact Nat.le_refl _⟩,⟨bk_ BK681⟩,⟨bk_ BK682⟩,⟨bl_ HB⟩⟩
 case rest =>
  clear HC3
  try clear c1
  try clear p2
  try clear c6
  try clear c6b0
  try clear c6b1
  try clear c6b2
  try clear c7
  try clear c10
  try clear c10b0
  try clear c10b1
  try clear c11
  try clear c14
  try clear hcz12_0
  try clear hcz12_1
  try clear hcz12_2
  try clear hcz13_0
  try clear hcz13_1
  try clear hcz13_2
  try clear hcz15_0
  try clear hcz15_1
  try clear hcz15_2
  try clear hcz16_0
  try clear hcz16_1
  try clear hcz16_2
  try clear hcz8_0
  try clear hcz8_1
  try clear hcz8_2
  try clear hcz9_0
  try clear hcz9_1
  try clear hcz9_2
  try clear hfz12_0
  try clear hfz12_1
  try clear hfz12_2
  try clear hfz13_0
  try clear hfz13_1
  try clear hfz13_2
  try clear hfz15_0
  try clear hfz15_1
  try clear hfz15_2
  try clear hfz16_0
  try clear hfz16_1
  try clear hfz16_2
  try clear hfz8_0
  try clear hfz8_1
  try clear hfz8_2
  try clear hfz9_0
  try clear hfz9_1
  try clear hfz9_2
  obtain ⟨kq,x26_2,rfl,HA,HJ2,BK681,BK682,HB⟩:=hcut
  cases kq with
  | zero=>exact absurd HA.out (by simp [r03_Same.j0])
  | succ kj2 =>
   have H:=HA.out
   clear HA
   simp only [r03_Same.j0] at H
   by_cases c17:x26_2=true
   ·subst c17
    have H1:(some false)=some r:=by rw [if_pos rfl] at H;exact H
    clear H
    have H:=H1
    clear H1
    obtain rfl:=Option.some.inj H
    go_wp2
    repeat (go_quiet (fail);try go_wp2)
    go_ret
    exact ⟨rf_,bl_ HB⟩
   ·replace c17:=Bool.eq_false_iff.mpr c17
    subst c17
    have H1:(r03_Same.l0 kj2 0 a0_0 l0_1 a0_2 a1_0 l1_1 a1_2)=some r:=by rw [if_neg (show ¬ (false=true) by decide)] at H;exact H
    clear H
    have H:=H1
    clear H1
    have H':=Aside0.mk H
    clear H
    go_wp2
    repeat (go_quiet (fail);try go_wp2)
    go_loopg [5] kj2 (fun kq v5 w'=>∃ (x5_2:Int),v5 = .int .i64 x5_2∧Aside0 (r03_Same.l0 kq x5_2 a0_0 l0_1 a0_2 a1_0 l1_1 a1_2=some r)∧Aside0 (kq≤kj2)∧Aside0 (w'.heap[gb681]? = some (.cells #[.bool a0_0,(.slice A0_1 l0_1.length c0_1),.int .i64 a0_2] 30 (0,0)))∧Aside0 (w'.heap[gb682]? = some (.cells #[.bool a1_0,(.slice A1_1 l1_1.length c1_1),.int .i64 a1_2] 30 (0,0)))∧Aside0 (Below w.heap.size w w'))
    case atStart=>exact ⟨(0),(by first|rfl|(simp;done)|(simp [*];done)),H',⟨Nat.le_refl _⟩,⟨bk_ BK681⟩,⟨bk_ BK682⟩,⟨bl_ HB⟩⟩
    case round =>
     clear H'
     try clear c1
     try clear p2
     try clear c6
     try clear c6b0
     try clear c6b1
     try clear c6b2
     try clear c7
     try clear c10
     try clear c10b0
     try clear c10b1
     try clear c11
     try clear c14
     try clear c17
     try clear hcz12_0
     try clear hcz12_1
     try clear hcz12_2
     try clear hcz13_0
     try clear hcz13_1
     try clear hcz13_2
     try clear hcz15_0
     try clear hcz15_1
     try clear hcz15_2
     try clear hcz16_0
     try clear hcz16_1
     try clear hcz16_2
     try clear hcz8_0
     try clear hcz8_1
     try clear hcz8_2
     try clear hcz9_0
     try clear hcz9_1
     try clear hcz9_2
     try clear hfz12_0
     try clear hfz12_1
     try clear hfz12_2
     try clear hfz13_0
     try clear hfz13_1
     try clear hfz13_2
     try clear hfz15_0
     try clear hfz15_1
     try clear hfz15_2
     try clear hfz16_0
     try clear hfz16_1
     try clear hfz16_2
     try clear hfz8_0
     try clear hfz8_1
     try clear hfz8_2
     try clear hfz9_0
     try clear hfz9_1
     try clear hfz9_2
     try clear p2
     obtain ⟨x5_2,rfl,HA,HK2,BK681,BK682,HB⟩:=hrel
     cases gk with
     | zero=>exact absurd HA.out (by simp [r03_Same.l0])
     | succ k2 =>
      have H:=HA.out
      clear HA
      simp only [r03_Same.l0] at H
      by_cases c18:x5_2<(l0_1.length:Int)
      ·rw [if_pos c18] at H
       have c18b0:decide (x5_2<(l0_1.length:Int))=true:=decide_eq_true c18
       clear c18
       by_cases c19:0≤x5_2
       ·rw [if_pos c19] at H
        have c19b0:decide (0≤x5_2)=true:=decide_eq_true c19
        clear c19
        by_cases c20:x5_2<(l1_1.length:Int)
        ·rw [if_pos c20] at H
         have c20b0:decide (x5_2<(l1_1.length:Int))=true:=decide_eq_true c20
         clear c20
         by_cases c21:(rd l0_1 x5_2)=(rd l1_1 x5_2)
         ·rw [if_pos c21] at H
          have c21b0:((rd l0_1 x5_2) == (rd l1_1 x5_2))=true:=beq_iff_eq.mpr c21
          have c21b1:((rd l0_1 x5_2) != (rd l1_1 x5_2))=false:=bne_eq_false_iff_eq.mpr c21
          clear c21
          have H':=Aside0.mk H
          clear H
          have hnb22:=NB681_682.out
          have hnc22:=NB682_681.out
          have hcz23_0:=bc_ BK681 0
          have hcz23_1:=bc_ BK681 1
          have hcz23_2:=bc_ BK681 2
          have hfz23_0:=bz_ BK681 0
          have hfz23_1:=bz_ BK681 1
          have hfz23_2:=bz_ BK681 2
          have p683:0≤(x5_2:Int):=od_
          have q683:x5_2<(l0_1.length:Int):=od_
          obtain ⟨ad683,e683,hx683_0⟩:=Kd.at_int HR0_1.out x5_2 p683 q683
          cases e683
          replace hx683_0:=(HB.out.cell (World.block_lt_of_cell? w _ hx683_0)).trans hx683_0
          replace p683:=eq_true p683
          replace q683:=eq_true q683
          have hcz24_0:=bc_ BK682 0
          have hcz24_1:=bc_ BK682 1
          have hcz24_2:=bc_ BK682 2
          have hfz24_0:=bz_ BK682 0
          have hfz24_1:=bz_ BK682 1
          have hfz24_2:=bz_ BK682 2
          have p684:0≤(x5_2:Int):=od_
          have q684:x5_2<(l1_1.length:Int):=od_
          obtain ⟨ad684,e684,hx684_0⟩:=Kd.at_int HR1_1.out x5_2 p684 q684
          cases e684
          replace hx684_0:=(HB.out.cell (World.block_lt_of_cell? w _ hx684_0)).trans hx684_0
          replace p684:=eq_true p684
          replace q684:=eq_true q684
          go_wp2
          repeat (go_quiet (fail);try go_wp2)
          go_roundg k2
          case measure=>have:=HJ2.out;have:=HK2.out;omega
          case rel=>exact ⟨(wrap64 (x5_2+1)),(by first|rfl|(simp;done)|(simp [*];done)),H',⟨by have:=HJ2.out;have:=HK2.out;omega⟩,⟨bk_ BK681⟩,⟨bk_ BK682⟩,⟨bl_ HB⟩⟩
         ·rw [if_neg c21] at H
          have c21b0:((rd l0_1 x5_2) == (rd l1_1 x5_2))=false:=beq_eq_false_iff_ne.mpr c21
          have c21b1:((rd l0_1 x5_2) != (rd l1_1 x5_2))=true:=bne_iff_ne.mpr c21
          obtain rfl:=Option.some.inj H
          have hnb25:=NB681_682.out
          have hnc25:=NB682_681.out
          have hcz26_0:=bc_ BK681 0
          have hcz26_1:=bc_ BK681 1
          have hcz26_2:=bc_ BK681 2
          have hfz26_0:=bz_ BK681 0
          have hfz26_1:=bz_ BK681 1
          have hfz26_2:=bz_ BK681 2
          have p683:0≤(x5_2:Int):=od_
          have q683:x5_2<(l0_1.length:Int):=od_
          obtain ⟨ad683,e683,hx683_0⟩:=Kd.at_int HR0_1.out x5_2 p683 q683
          cases e683
          replace hx683_0:=(HB.out.cell (World.block_lt_of_cell? w _ hx683_0)).trans hx683_0
          replace p683:=eq_true p683
          replace q683:=eq_true q683
          have hcz27_0:=bc_ BK682 0
          have hcz27_1:=bc_ BK682 1
          have hcz27_2:=bc_ BK682 2
          have hfz27_0:=bz_ BK682 0
          have hfz27_1:=bz_ BK682 1
          have hfz27_2:=bz_ BK682 2
          have p684:0≤(x5_2:Int):=od_
          have q684:x5_2<(l1_1.length:Int):=od_
          obtain ⟨ad684,e684,hx684_0⟩:=Kd.at_int HR1_1.out x5_2 p684 q684
          cases e684
          replace hx684_0:=(HB.out.cell (World.block_lt_of_cell? w _ hx684_0)).trans hx684_0
          replace p684:=eq_true p684
          replace q684:=eq_true q684
          go_wp2
          repeat (go_quiet (fail);try go_wp2)
          go_ret
          exact ⟨rf_,bl_ HB⟩
        ·rw [if_neg c20] at H
         exact absurd H (by simp)
       ·rw [if_neg c19] at H
        exact absurd H (by simp)
      ·rw [if_neg c18] at H
       have c18b0:decide (x5_2<(l0_1.length:Int))=false:=decide_eq_false c18
       clear c18
       obtain rfl:=Option.some.inj H
       have hnb28:=NB681_682.out
       have hnc28:=NB682_681.out
       have hcz29_0:=bc_ BK681 0
       have hcz29_1:=bc_ BK681 1
       have hcz29_2:=bc_ BK681 2
       have hfz29_0:=bz_ BK681 0
       have hfz29_1:=bz_ BK681 1
       have hfz29_2:=bz_ BK681 2
       go_wp2
       repeat (go_quiet (fail);try go_wp2)
       go_ret
       exact ⟨rf_,bl_ HB⟩
def r02_Norm.f (k:Nat) (l0:List Int):Option (List Int):=(r02_size.f k l0).bind fun t455=>(if 0≤t455 then (if t455≤(l0.length:Int) then (if ([]:List Int).length+(l0.take (t455:Int).toNat).length<35184372088832 then (some (([]:List Int)++(l0.take (t455:Int).toNat))) else (none)) else (none)) else (none))
set_option maxHeartbeats 3000000 in
set_option maxRecDepth 100000 in
theorem r02_Norm.calls (k:Nat) (A0:Option Addr) (c0:Nat) (l0:List Int) (r:List Int) (w:World) (hr0:Kd.C (Kd.int .u32) w A0 l0.length l0) (hc0:l0.length≤c0) (h:r02_Norm.f k l0=some r) :
  Calls Tryd.prog 51 #[.slice A0 l0.length c0] w fun e w'=>∃ v0_:Value,e = .returned (v0_)∧Kd.R (Kd.int .u32) 68 w' w.heap.size (fun _=>True) v0_ r∧Below w.heap.size w w':=by
 have HR0:=Aside0.mk hr0
 have HC0:=Aside0.mk hc0
 clear hr0 hc0
 have HB:=Aside0.mk (Below.refl w.heap.size w)
 have H:=h
 unfold r02_Norm.f at H
 clear h
 obtain ⟨t455,A2,H⟩:=ob_ H
 try dsimp only at H
 by_cases c3:0≤t455
 ·rw [if_pos c3] at H
  have c3b0:=eq_true c3
  have c3b1:decide (0≤t455)=true:=decide_eq_true c3
  clear c3
  by_cases c4:t455≤(l0.length:Int)
  ·rw [if_pos c4] at H
   have c4b0:=eq_true c4
   have c4b1:decide (t455≤(l0.length:Int))=true:=decide_eq_true c4
   clear c4
   by_cases c5:([]:List Int).length+(l0.take (t455:Int).toNat).length<35184372088832
   ·rw [if_pos c5] at H
    have LMc5:=Aside0.mk c5
    clear c5
    obtain ⟨y457,hy457⟩:∃ y_:List Int,y_=(([]:List Int)++(l0.take (t455:Int).toNat)):=⟨_,rfl⟩
    replace H:(some y457)=some r:=by first|(rw [hy457];with_reducible exact H)|(have H2_:=(Option.bind_some _ _).symm.trans H;rw [hy457];with_reducible exact H2_)|(have H2_:=(Option.bind_some _ _).symm.trans H;with_reducible exact H2_)|with_reducible exact H|(rw [hy457];exact H)|exact H
    have Ny457:=Aside0.mk hy457
    clear hy457
    obtain rfl:=Option.some.inj H
    go_enter Tryd.func51,Tryd.ntmps51
    go_wp2_with (first|((with_reducible refine gate_callee (f:=54) rfl ?_);refine goesM (some 7) Tryd.func54 #[.slice A0 l0.length c0] ?_;(with_reducible refine (r02_size.calls k _ _ l0 t455 _ ?side1 ?side2 A2.out).mono ?_);(case side1=>exact cs_ HR0.out);(case side2=>exact HC0.out);rintro e w' ⟨rfl,⟨nd,rfl⟩⟩;refine ⟨_,rfl,?_⟩;obtain ⟨i06,hi06,_,hsz6,_⟩:=info_parts info68;obtain ⟨hcut6,hA6,hC6⟩:=print_take_of (P:=Tryd.prog) (Value.int .u32) 0 28 68 .i64 Tryd.underlying28 hi06 hsz6 A0 c0 l0 t455 od_ od_ HC0.out;have HR456:=Aside0.mk (Kd.C_of_reads (h1:=fun _=>rfl) (hA6 _ (Kd.reads_of_C HR0.out)));have HC456:=Aside0.mk hC6;clear hA6 hC6 hi06 hsz6)|((with_reducible refine gate_builtin (b:=.append) (xs:=#[.tmp 4,.tmp 8]) rfl ?_);at_builtin;refine Kd.R_append_rows (Kd.int .u32) (w0:=w) w.heap.size rfl (.tmp 4) (.tmp 8) 28 68 (.int .u32 0) 4 rfl Tryd.underlying28 info68 rfl (by decide) (by omega) (.slice none 0 0) ([]:List Int) (l0.take (t455:Int).toNat) _ _ _ (fun _=>True) (fun _=>False) rfl rfl ?aO ?aR (fun _ _ h=>h) (fun _ h=>h.elim) ?aF ?aB ?aS ?aL ?_;(case aR=>first|(refine reads_cast (show (l0.take (t455:Int).toNat).length=t455.toNat from (by rw [List.length_take];have h_:(t455:Int)≤(l0.length:Int):=od_;omega)) ?_;repeat (first|exact HR456.out|(with_reducible first|apply cA|apply cN|apply cD)))|(repeat (first|exact HR456.out|(with_reducible first|apply cA|apply cN|apply cD))));(case aB=>exact (bl_ HB));(case aF=>exact (fun _ _=>trivial));(case aO=>exact ((Kd.R_nil _ _ _ _ (fun _=>True))));(case aS=>exact (below_size (bl_ HB)));(case aL=>have:=LMc5.out;have hlx_:=(show (l0.take (t455:Int).toNat).length=t455.toNat from (by rw [List.length_take];have h_:(t455:Int)≤(l0.length:Int):=od_;omega));omega);intro v458 w7 ho hb hg hat;rw [← Ny457.out] at ho;replace HB:=Aside0.mk (hb);have HO459:=Aside0.mk (ho);clear ho hb hg hat))
    go_ret
    exact ⟨_,rf_,rr_ HO459,bl_ HB⟩
   ·rw [if_neg c5] at H
    exact absurd H (by simp)
  ·rw [if_neg c4] at H
   exact absurd H (by simp)
 ·rw [if_neg c3] at H
  exact absurd H (by simp)

def r02_Of.f (k:Nat) (a0:Int):Option (List Int):=(r02_Norm.f k (([(a0)%4294967296,(a0 / 4294967296)%4294967296]:List Int))).bind fun t463=>(some t463)
set_option maxHeartbeats 3000000 in
set_option maxRecDepth 100000 in
theorem r02_Of.calls (k:Nat) (a0:Int) (r:List Int) (w:World) (h:r02_Of.f k a0=some r) :
  Calls Tryd.prog 70 #[.int .u64 a0] w fun e w'=>∃ v0_:Value,e = .returned (v0_)∧Kd.R (Kd.int .u32) 68 w' w.heap.size (fun _=>True) v0_ r∧Below w.heap.size w w':=by
 have HB:=Aside0.mk (Below.refl w.heap.size w)
 have H:=h
 unfold r02_Of.f at H
 clear h
 obtain ⟨y460,hy460⟩:∃ y_:List Int,y_=(([(a0)%4294967296,(a0 / 4294967296)%4294967296]:List Int)):=⟨_,rfl⟩
 replace H:((r02_Norm.f k y460).bind fun t463=>(some t463))=some r:=by first|(rw [hy460];with_reducible exact H)|(have H2_:=(Option.bind_some _ _).symm.trans H;rw [hy460];with_reducible exact H2_)|(have H2_:=(Option.bind_some _ _).symm.trans H;with_reducible exact H2_)|with_reducible exact H|(rw [hy460];exact H)|exact H
 have Ny460:=Aside0.mk hy460
 clear hy460
 obtain ⟨t463,A2,H⟩:=ob_ H
 try dsimp only at H
 obtain rfl:=Option.some.inj H
 go_enter Tryd.func70,Tryd.ntmps70
 go_wp2_with (first|((with_reducible refine gate_dst (N:=8) rfl ?_);refine Kd.R_lit (Kd.int .u32) _ 68 ?hg (N:=8) ?hd (xs:=([(a0)%4294967296,(a0 / 4294967296)%4294967296]:List Int)) (inner:=[.int .u32 ((a0)%4294967296),.int .u32 ((a0 / 4294967296)%4294967296)]) (ok:=fun _=>True) (okp:=fun _=>True) ?hr ?hp (fun _ hk=>hk) trivial (Below.refl _ _) (Nat.le_refl _) (by simp) ?_;(case hd=>rfl);(case hg=>rfl);(case hr=>first|(go_simp;done)|(go_simp;rfl));(case hp=>exact (Reps.one (show Kd.M (Kd.int .u32) _ _ _ ((a0)%4294967296) [.int .u32 ((a0)%4294967296)] from rfl) (Reps.one (show Kd.M (Kd.int .u32) _ _ _ ((a0 / 4294967296)%4294967296) [.int .u32 ((a0 / 4294967296)%4294967296)] from rfl) (Reps.none _ _))));intro v461 w3 ho4 hb hg_ hnew_;clear hg_ hnew_;(first|rw [← Ny460.out] at ho4|(simp only [Int.reduceToNat] at ho4;rw [← Ny460.out] at ho4));have HO462:=Aside0.mk (Kd.R_lower ho4 (below_size (bl_ HB)));replace HB:=bs_ HB hb;clear hb ho4;obtain ⟨Ao5,co5,eo5⟩:=Kd.R_slice HO462.out;subst eo5)|((with_reducible refine gate_callee (f:=51) rfl ?_);refine goesM (some 9) Tryd.func51 #[.slice Ao5 y460.length co5] ?_;(with_reducible refine (r02_Norm.calls k _ _ y460 t463 _ ?side1 ?side2 A2.out).mono ?_);(case side1=>exact cs_ (Kd.R_reads' HO462.out).2.2);(case side2=>exact (Kd.R_reads' HO462.out).2.1);rintro e w6 ⟨v464,rfl,ho0,hb⟩;refine ⟨_,rfl,?_⟩;have HO465:=Aside0.mk (Kd.R_lower (Kd.R_new' ho0 (Kd.R_lt (rr_ HO462))) (below_size (bl_ HB)));replace HO462:=Aside0.mk (Kd.R_elder' (rr_ HO462) (Kd.R_base ho0) hb);replace HB:=bs_ HB hb;(try clear hb);(try clear hb2);(try clear hk);(try clear hi);(try clear ho0)))
 go_ret
 exact ⟨_,rf_,by (with_reducible repeat (first|apply rA|apply rN|apply rD));exact Kd.R_mono HO465.out (fun _ hk=>trivial),bl_ HB⟩
def r03_Size_Number.f (k:Nat) (a0_0:Int) (a0_1:Int) (a0_2:Int) (a1:Int):Option (List Int × Int):=if 0≤(IntKind.u64.wrap (wrap64 (a0_0 - 1))) then (if (shl .u64 1 (IntKind.u64.wrap (wrap64 (a0_0 - 1))))=0 then (none) else (if (IntKind.u64.wrap (Int.tdiv a1 (shl .u64 1 (IntKind.u64.wrap (wrap64 (a0_0 - 1))))))=0 then ((r02_Of.f k (Int.tmod a1 (shl .u64 1 (IntKind.u64.wrap (wrap64 (a0_0 - 1)))))).bind fun t467=>(some (t467,a0_1))) else ((r02_Of.f k (IntKind.u64.wrap ((shl .u64 1 (IntKind.u64.wrap (wrap64 (a0_0 - 1))))+(Int.tmod a1 (shl .u64 1 (IntKind.u64.wrap (wrap64 (a0_0 - 1)))))))).bind fun t470=>(some (t470,wrap64 ((wrap64 (a0_1+(wrap64 (IntKind.u64.wrap (Int.tdiv a1 (shl .u64 1 (IntKind.u64.wrap (wrap64 (a0_0 - 1))))))))) - 1)))))) else (none)
def r03_Size_Number.T6:Bool × List (List Nat × List Nat):=(true,[([],[]),([],[]),([0,1],[0,1]),([2],[2]),([],[]),([4],[4]),([],[]),([6],[6]),([5,7],[5,7]),([8],[8]),([3,3,0,1,2,3],[3]),([9,10,0,1,2,3,4,5,6,7,8,9,10],[9])])
def r03_Size_Number.B6:List Nat:=[0,0,3,7,0,16,0,64,240,496,15,2047]
theorem r03_Size_Number.tab6:rtab .any (opsOf Tryd.f48 6)=r03_Size_Number.T6:=by kernel_rfl
theorem r03_Size_Number.bits6:waitsOk r03_Size_Number.T6.2 r03_Size_Number.B6=true:=by kernel_rfl
set_option maxHeartbeats 3000000 in
set_option maxRecDepth 100000 in
theorem r03_Size_Number.calls (k:Nat) (a0_0:Int) (a0_1:Int) (a0_2:Int) (a1:Int) (r1:List Int) (r2:Int) (w:World) (h:r03_Size_Number.f k a0_0 a0_1 a0_2 a1=some (r1,r2)) :
  Calls Tryd.prog 48 #[.agg #[.int .i64 a0_0,.int .i64 a0_1,.int .u64 a0_2],.int .u64 a1] w fun e w'=>∃ v0_:Value,e = .returned (.tuple #[v0_,.int .i64 r2])∧Kd.R (Kd.int .u32) 68 w' w.heap.size (fun _=>True) v0_ r1∧Below w.heap.size w w':=by
 have hu59:=Tryd.underlying59
 have HB:=Aside0.mk (Below.refl w.heap.size w)
 have H:=h
 unfold r03_Size_Number.f at H
 clear h
 obtain ⟨ji3,hji3⟩:∃ j_:Int,(IntKind.u64.wrap (wrap64 (a0_0 - 1)))=j_:=⟨_,rfl⟩
 replace H:(if 0≤(ji3) then (if (shl .u64 1 (ji3))=0 then (none) else (if (IntKind.u64.wrap (Int.tdiv a1 (shl .u64 1 (ji3))))=0 then ((r02_Of.f k (Int.tmod a1 (shl .u64 1 (ji3)))).bind fun t467=>(some (t467,a0_1))) else ((r02_Of.f k (IntKind.u64.wrap ((shl .u64 1 (ji3))+(Int.tmod a1 (shl .u64 1 (ji3)))))).bind fun t470=>(some (t470,wrap64 ((wrap64 (a0_1+(wrap64 (IntKind.u64.wrap (Int.tdiv a1 (shl .u64 1 (ji3))))))) - 1)))))) else (none))=some (r1,r2):=by first|(rw [hji3] at H;exact H)|(simp only [hji3] at H ⊢;exact H)
 by_cases c4:0≤(ji3)
 ·rw [if_pos c4] at H
  have c4b0:=eq_true c4
  have c4b1:decide (0≤(ji3))=true:=decide_eq_true c4
  clear c4
  obtain ⟨ji5,hji5⟩:∃ j_:Int,(shl .u64 1 (ji3))=j_:=⟨_,rfl⟩
  replace H:(if (ji5)=0 then (none) else (if (IntKind.u64.wrap (Int.tdiv a1 (ji5)))=0 then ((r02_Of.f k (Int.tmod a1 (ji5))).bind fun t467=>(some (t467,a0_1))) else ((r02_Of.f k (IntKind.u64.wrap ((ji5)+(Int.tmod a1 (ji5))))).bind fun t470=>(some (t470,wrap64 ((wrap64 (a0_1+(wrap64 (IntKind.u64.wrap (Int.tdiv a1 (ji5)))))) - 1))))))=some (r1,r2):=by first|(rw [hji5] at H;exact H)|(simp only [hji5] at H ⊢;exact H)
  have hji5_:(IntKind.u64.wrap (1*2^min (ji3).toNat 64))=ji5:=hji5
  have hji5z:(ji3)≤64→(IntKind.u64.wrap (1*2^(ji3).toNat))=ji5:=shl_small hji5
  have hji5u:(IntKind.u64.wrap (2^min (ji3).toNat 64))=ji5:=by have h_:=hji5_;rw [Int.one_mul] at h_;exact h_
  have hji5v:(ji3)≤64→(IntKind.u64.wrap (2^(ji3).toNat))=ji5:=fun hle_=>by have h_:=hji5z hle_;rw [Int.one_mul] at h_;exact h_
  by_cases c6:(ji5)=0
  ·rw [if_pos c6] at H
   exact absurd H (by simp)
  ·rw [if_neg c6] at H
   have c6b0:((ji5) == 0)=false:=beq_eq_false_iff_ne.mpr c6
   have c6b1:((ji5) != 0)=true:=bne_iff_ne.mpr c6
   by_cases c7:(IntKind.u64.wrap (Int.tdiv a1 (ji5)))=0
   ·rw [if_pos c7] at H
    have c7b0:((IntKind.u64.wrap (Int.tdiv a1 (ji5))) == 0)=true:=beq_iff_eq.mpr c7
    have c7b1:((IntKind.u64.wrap (Int.tdiv a1 (ji5))) != 0)=false:=bne_eq_false_iff_eq.mpr c7
    clear c7
    obtain ⟨t467,A8,H⟩:=ob_ H
    try dsimp only at H
    simp only [Option.some.injEq,Prod.mk.injEq] at H
    obtain ⟨rfl,rfl⟩:=H
    go_enter Tryd.func48,Tryd.ntmps48
    try go_wp2_with (first|((with_reducible refine gate_dst (N:=2) rfl ?_);refine box_ev (N:=2) (cs:=#[.int .i64 a0_0,.int .i64 a0_1,.int .u64 a0_2]) (t:=59) ?_;intro gb466 hg w9 hbox hb;have BK466:=Aside0.mk (hbox);have GW466:=ge_ HB hg;have GE466:=ge_ HB hg;replace HB:=bs_ HB hb;clear hb hbox hg;have hcz10_0:=bc_ BK466 0;have hcz10_1:=bc_ BK466 1;have hcz10_2:=bc_ BK466 2;have hfz10_0:=bz_ BK466 0;have hfz10_1:=bz_ BK466 1;have hfz10_2:=bz_ BK466 2))
    have n0_:=Aside0.mk (blk_drew BK466.out)
    have n1_:=Aside0.mk (below_drew1 HB.out)
    clear BK466
    clear HB
    have BK466:=n0_
    have HB:=n1_
    clear n0_ n1_
    refine start_ (n:=6) (S:=fun w'=>w'.cell? ⟨gb466,0,none⟩=some (.int .i64 a0_0)∧w'.cell? ⟨gb466,1,none⟩=some (.int .i64 a0_1)∧w'.cell? ⟨gb466,2,none⟩=some (.int .u64 a0_2)) (ds:=[]) #[false,false,false,false,false,false] (by kernel_rfl) rfl rfl ⟨(bc_ BK466 0),(bc_ BK466 1),(bc_ BK466 2)⟩ (fun hHeld=>?_)
    generalize w9.drew=w11 at BK466 HB hHeld ⊢
    refine pure_ (i:=0) (N:=some 22) (v:=?_) (a':=?_) #[true,false,false,false,false,false] rfl rfl (by kernel_rfl) (fun _ _ _ h=>h) (Or.inl ⟨by rfl,?_⟩) ?_ ?_
    rotate_left
    ·intro w'
     go_simp
     with_reducible rfl
    rotate_left
    ·exact nf_
    refine pure_ (i:=2) (N:=some 24) (v:=?_) (a':=?_) #[true,false,true,false,false,false] rfl rfl (by kernel_rfl) (fun _ _ _ h=>h) (Or.inl ⟨by rfl,?_⟩) ?_ ?_
    rotate_left
    ·intro w'
     go_simp
     with_reducible rfl
    rotate_left
    ·exact nf_
    refine take_ (i:=3) (N:=some 25) (v:=?_) (a':=?_) #[true,false,true,true,false,false] rfl rfl (by kernel_rfl) (fun _ _ _ h=>h) (Or.inl ⟨by rfl,?_⟩) hHeld ?_ ?_
    rotate_left
    ·rintro w' ⟨s0,s1,s2⟩
     go_simp
     with_reducible rfl
    rotate_left
    ·exact nf_
    refine one_ (i:=1) (N:=some 23) #[true,true,true,true,false,false] rfl rfl (by kernel_rfl) (by decide) (fun K hK=>?_)
    refine goes_ Tryd.func70 (by kernel_rfl) rfl #[.int .u64 (Int.tmod a1 (ji5))] (by rfl) rfl rfl (by (try simp only [List.map_toArray,List.map_cons,List.map_nil]);first|done|(simp only [hji5];rfl)|rfl|(simp only [List.length_drop,List.length_take];rfl)) ?_
    with_reducible refine (r02_Of.calls k (Int.tmod a1 (ji5)) t467 _ A8.out).mono ?_
    rintro e w12 ⟨v468,rfl,ho0,hb⟩
    refine ⟨_,rfl,?_⟩
    have n0_:=Aside0.mk (Kd.R_lower ho0 (below_size (bl_ HB)))
    have n1_:=kb_ BK466 hb
    have n2_:=bs_ HB hb
    clear BK466
    clear HB
    have HO469:=n0_
    have BK466:=n1_
    have HB:=n2_
    clear n0_ n1_ n2_
    (try clear hb)
    (try clear hb2)
    (try clear hk)
    (try clear hi)
    (try clear ho0)
    refine hK.out _ _ ⟨(bc_ BK466 0),(bc_ BK466 1),(bc_ BK466 2)⟩ (fun hHeld=>?_)
    clear hK K
    refine norm_ (a':=?_) ?_ ?_
    rotate_left
    ·show Act.put _ (some 23) _=_
     simp only [Act.put,List.setIfInBounds_toArray,List.set_cons_zero,List.set_cons_succ,i64_w,i32_w]
     rfl
    refine pure_ (i:=4) (N:=some 4) (v:=?_) (a':=?_) #[true,true,true,true,true,false] rfl rfl (by kernel_rfl) (fun _ _ _ h=>h) (Or.inl ⟨by rfl,?_⟩) ?_ ?_
    rotate_left
    ·intro w'
     go_simp
     with_reducible rfl
    rotate_left
    ·exact nf_
    refine pure_ (i:=5) (N:=some 5) (v:=?_) (a':=?_) #[true,true,true,true,true,true] rfl rfl (by kernel_rfl) (fun _ _ _ h=>h) (Or.inl ⟨by rfl,?_⟩) ?_ ?_
    rotate_left
    ·intro w'
     go_simp
     with_reducible rfl
    rotate_left
    ·exact nf_
    refine done_ (by kernel_rfl) ?_
    try go_wp2
    go_ret2
    exact ⟨_,by first|rfl|(simp [errW_none,errW_some] <;> rfl)|(simp only [← hji3,← hji5];first|rfl|(simp [errW_none,errW_some] <;> rfl))|(simp [*,errW_none,errW_some] <;> rfl),rr_ HO469,bl_ HB⟩
   ·rw [if_neg c7] at H
    have c7b0:((IntKind.u64.wrap (Int.tdiv a1 (ji5))) == 0)=false:=beq_eq_false_iff_ne.mpr c7
    have c7b1:((IntKind.u64.wrap (Int.tdiv a1 (ji5))) != 0)=true:=bne_iff_ne.mpr c7
    obtain ⟨t470,A13,H⟩:=ob_ H
    try dsimp only at H
    simp only [Option.some.injEq,Prod.mk.injEq] at H
    obtain ⟨rfl,rfl⟩:=H
    go_enter Tryd.func48,Tryd.ntmps48
    try go_wp2_with (first|((with_reducible refine gate_dst (N:=2) rfl ?_);refine box_ev (N:=2) (cs:=#[.int .i64 a0_0,.int .i64 a0_1,.int .u64 a0_2]) (t:=59) ?_;intro gb466 hg w14 hbox hb;have BK466:=Aside0.mk (hbox);have GW466:=ge_ HB hg;have GE466:=ge_ HB hg;replace HB:=bs_ HB hb;clear hb hbox hg;have hcz15_0:=bc_ BK466 0;have hcz15_1:=bc_ BK466 1;have hcz15_2:=bc_ BK466 2;have hfz15_0:=bz_ BK466 0;have hfz15_1:=bz_ BK466 1;have hfz15_2:=bz_ BK466 2))
    have n0_:=Aside0.mk (blk_drew BK466.out)
    have n1_:=Aside0.mk (below_drew1 HB.out)
    clear BK466
    clear HB
    have BK466:=n0_
    have HB:=n1_
    clear n0_ n1_
    refine start_ (n:=12) (S:=fun w'=>w'.cell? ⟨gb466,0,none⟩=some (.int .i64 a0_0)∧w'.cell? ⟨gb466,1,none⟩=some (.int .i64 a0_1)∧w'.cell? ⟨gb466,2,none⟩=some (.int .u64 a0_2)) (ds:=[]) #[false,false,false,false,false,false,false,false,false,false,false,false] (by kernel_rfl) rfl rfl ⟨(bc_ BK466 0),(bc_ BK466 1),(bc_ BK466 2)⟩ (fun hHeld=>?_);refine with_tabW r03_Size_Number.tab6 r03_Size_Number.bits6 (fun HT_ HW_=>?_)
    generalize w14.drew=w16 at BK466 HB hHeld ⊢
    refine pure_ (i:=0) (N:=some 26) (v:=?_) (a':=?_) #[true,false,false,false,false,false,false,false,false,false,false,false] rfl rfl (any_of HT_.out (by kernel_rfl)) (fun _ _ _ h=>h) (Or.inl ⟨by rfl,?_⟩) ?_ ?_
    rotate_left
    ·intro w'
     go_simp
     with_reducible rfl
    rotate_left
    ·exact nf_
    refine pure_ (i:=1) (N:=some 27) (v:=?_) (a':=?_) #[true,true,false,false,false,false,false,false,false,false,false,false] rfl rfl (any_of HT_.out (by kernel_rfl)) (fun _ _ _ h=>h) (Or.inl ⟨by rfl,?_⟩) ?_ ?_
    rotate_left
    ·intro w'
     go_simp
     with_reducible rfl
    rotate_left
    ·exact nf_
    refine pure_ (i:=2) (N:=some 28) (v:=?_) (a':=?_) #[true,true,true,false,false,false,false,false,false,false,false,false] rfl rfl (any_of HT_.out (by kernel_rfl)) (fun _ _ _ h=>h) (Or.inl ⟨by rfl,?_⟩) ?_ ?_
    rotate_left
    ·intro w'
     go_simp
     with_reducible rfl
    rotate_left
    ·exact nf_
    refine pure_ (i:=4) (N:=some 30) (v:=?_) (a':=?_) #[true,true,true,false,true,false,false,false,false,false,false,false] rfl rfl (any_of HT_.out (by kernel_rfl)) (fun _ _ _ h=>h) (Or.inl ⟨by rfl,?_⟩) ?_ ?_
    rotate_left
    ·intro w'
     go_simp
     with_reducible rfl
    rotate_left
    ·exact nf_
    refine pure_ (i:=6) (N:=some 32) (v:=?_) (a':=?_) #[true,true,true,false,true,false,true,false,false,false,false,false] rfl rfl (any_of HT_.out (by kernel_rfl)) (fun _ _ _ h=>h) (Or.inl ⟨by rfl,?_⟩) ?_ ?_
    rotate_left
    ·intro w'
     go_simp
     with_reducible rfl
    rotate_left
    ·exact nf_
    refine pure_ (i:=7) (N:=some 33) (v:=?_) (a':=?_) #[true,true,true,false,true,false,true,true,false,false,false,false] rfl rfl (any_of HT_.out (by kernel_rfl)) (fun _ _ _ h=>h) (Or.inl ⟨by rfl,?_⟩) ?_ ?_
    rotate_left
    ·intro w'
     go_simp
     with_reducible rfl
    rotate_left
    ·exact nf_
    refine take_ (i:=5) (N:=some 31) (v:=?_) (a':=?_) #[true,true,true,false,true,true,true,true,false,false,false,false] rfl rfl (take_ofW HT_.out HW_.out (by kernel_rfl)) (fun _ _ _ h=>h) (Or.inl ⟨by rfl,?_⟩) hHeld ?_ ?_
    rotate_left
    ·rintro w' ⟨s0,s1,s2⟩
     go_simp
     with_reducible rfl
    rotate_left
    ·exact nf_
    refine pure_ (i:=8) (N:=some 34) (v:=?_) (a':=?_) #[true,true,true,false,true,true,true,true,true,false,false,false] rfl rfl (any_of HT_.out (by kernel_rfl)) (fun _ _ _ h=>h) (Or.inl ⟨by rfl,?_⟩) ?_ ?_
    rotate_left
    ·intro w'
     go_simp
     with_reducible rfl
    rotate_left
    ·exact nf_
    refine pure_ (i:=9) (N:=some 35) (v:=?_) (a':=?_) #[true,true,true,false,true,true,true,true,true,true,false,false] rfl rfl (any_of HT_.out (by kernel_rfl)) (fun _ _ _ h=>h) (Or.inl ⟨by rfl,?_⟩) ?_ ?_
    rotate_left
    ·intro w'
     go_simp
     with_reducible rfl
    rotate_left
    ·exact nf_
    refine one_ (i:=3) (N:=some 29) #[true,true,true,true,true,true,true,true,true,true,false,false] rfl rfl (one_of HT_.out (by kernel_rfl)) (by decide) (fun K hK=>?_)
    refine goes_ Tryd.func70 (by kernel_rfl) rfl #[.int .u64 (IntKind.u64.wrap ((ji5)+(Int.tmod a1 (ji5))))] (by rfl) rfl rfl (by (try simp only [List.map_toArray,List.map_cons,List.map_nil]);first|done|(simp only [hji5];rfl)|rfl|(simp only [List.length_drop,List.length_take];rfl)) ?_
    with_reducible refine (r02_Of.calls k (IntKind.u64.wrap ((ji5)+(Int.tmod a1 (ji5)))) t470 _ A13.out).mono ?_
    rintro e w17 ⟨v471,rfl,ho0,hb⟩
    refine ⟨_,rfl,?_⟩
    have n0_:=Aside0.mk (Kd.R_lower ho0 (below_size (bl_ HB)))
    have n1_:=kb_ BK466 hb
    have n2_:=bs_ HB hb
    clear BK466
    clear HB
    have HO472:=n0_
    have BK466:=n1_
    have HB:=n2_
    clear n0_ n1_ n2_
    (try clear hb)
    (try clear hb2)
    (try clear hk)
    (try clear hi)
    (try clear ho0)
    refine hK.out _ _ ⟨(bc_ BK466 0),(bc_ BK466 1),(bc_ BK466 2)⟩ (fun hHeld=>?_)
    clear hK K
    refine norm_ (a':=?_) ?_ ?_
    rotate_left
    ·show Act.put _ (some 29) _=_
     simp only [Act.put,List.setIfInBounds_toArray,List.set_cons_zero,List.set_cons_succ,i64_w,i32_w]
     rfl
    refine pure_ (i:=10) (N:=some 4) (v:=?_) (a':=?_) #[true,true,true,true,true,true,true,true,true,true,true,false] rfl rfl (any_of HT_.out (by kernel_rfl)) (fun _ _ _ h=>h) (Or.inl ⟨by rfl,?_⟩) ?_ ?_
    rotate_left
    ·intro w'
     go_simp
     with_reducible rfl
    rotate_left
    ·exact nf_
    refine pure_ (i:=11) (N:=some 5) (v:=?_) (a':=?_) #[true,true,true,true,true,true,true,true,true,true,true,true] rfl rfl (any_of HT_.out (by kernel_rfl)) (fun _ _ _ h=>h) (Or.inl ⟨by rfl,?_⟩) ?_ ?_
    rotate_left
    ·intro w'
     go_simp
     with_reducible rfl
    rotate_left
    ·exact nf_
    refine done_ (done_of HT_.out (by kernel_rfl)) ?_
    try go_wp2
    go_ret2
    exact ⟨_,by first|rfl|(simp [errW_none,errW_some] <;> rfl)|(simp only [← hji3,← hji5];first|rfl|(simp [errW_none,errW_some] <;> rfl))|(simp [*,errW_none,errW_some] <;> rfl),rr_ HO472,bl_ HB⟩
 ·rw [if_neg c4] at H
  exact absurd H (by simp)
mutual
def r02_Times.l0:Nat→List Int→List Int→List Int→Int→Option (List Int)
 | 0,_,_,_,_=>none
 | k+1,x0,x1,x5,x6=>if x6<(x0.length:Int) then (r02_Times.l1 k x0 x1 x5 x6 0 0) else ((r02_Norm.f k x5).bind fun t491=>(some t491))
def r02_Times.l1:Nat→List Int→List Int→List Int→Int→Int→Int→Option (List Int)
 | 0,_,_,_,_,_,_=>none
 | k+1,x0,x1,x5,x6,x7,x8=>if x8<(x1.length:Int) then (if 0≤x6 then (if x6<(x0.length:Int) then (if 0≤x8 then (if 0≤(wrap64 (x6+x8)) then (if (wrap64 (x6+x8))<(x5.length:Int) then (r02_Times.l1 k x0 x1 (x5.set ((wrap64 (x6+x8)):Int).toNat ((IntKind.u64.wrap ((IntKind.u64.wrap ((IntKind.u64.wrap ((IntKind.u64.wrap (rd x0 x6))*(IntKind.u64.wrap (rd x1 x8))))+(IntKind.u64.wrap (rd x5 (wrap64 (x6+x8))))))+x7))%4294967296)) x6 ((IntKind.u64.wrap ((IntKind.u64.wrap ((IntKind.u64.wrap ((IntKind.u64.wrap (rd x0 x6))*(IntKind.u64.wrap (rd x1 x8))))+(IntKind.u64.wrap (rd x5 (wrap64 (x6+x8))))))+x7)) / 4294967296) (wrap64 (x8+1))) else (none)) else (none)) else (none)) else (none)) else (none)) else (if 0≤(wrap64 (x6+(x1.length:Int))) then (if (wrap64 (x6+(x1.length:Int)))<(x5.length:Int) then (r02_Times.l0 k x0 x1 (x5.set ((wrap64 (x6+(x1.length:Int))):Int).toNat ((x7)%4294967296)) (wrap64 (x6+1))) else (none)) else (none))
end
def r02_Times.f (k:Nat) (l0:List Int) (l1:List Int):Option (List Int):=if 0≤(wrap64 ((l0.length:Int)+(l1.length:Int))) then (if (wrap64 ((l0.length:Int)+(l1.length:Int)):Int).toNat≤70368744177664 then (r02_Times.l0 k l0 l1 (List.replicate (wrap64 ((l0.length:Int)+(l1.length:Int)):Int).toNat 0) 0) else (none)) else (none)
set_option maxHeartbeats 3000000 in
set_option maxRecDepth 100000 in
theorem r02_Times.calls (k:Nat) (A0:Option Addr) (c0:Nat) (l0:List Int) (A1:Option Addr) (c1:Nat) (l1:List Int) (r:List Int) (w:World) (hr0:Kd.C (Kd.int .u32) w A0 l0.length l0) (hc0:l0.length≤c0) (hr1:Kd.C (Kd.int .u32) w A1 l1.length l1) (hc1:l1.length≤c1) (h:r02_Times.f k l0 l1=some r) :
  Calls Tryd.prog 52 #[.slice A0 l0.length c0,.slice A1 l1.length c1] w fun e w'=>∃ v0_:Value,e = .returned (v0_)∧Kd.R (Kd.int .u32) 68 w' w.heap.size (fun _=>True) v0_ r∧Below w.heap.size w w':=by
 have HR0:=Aside0.mk hr0
 have HC0:=Aside0.mk hc0
 clear hr0 hc0
 have HR1:=Aside0.mk hr1
 have HC1:=Aside0.mk hc1
 clear hr1 hc1
 have HB:=Aside0.mk (Below.refl w.heap.size w)
 have H:=h
 unfold r02_Times.f at H
 clear h
 obtain ⟨ji3,hji3⟩:∃ j_:Int,(wrap64 ((l0.length:Int)+(l1.length:Int)))=j_:=⟨_,rfl⟩
 replace H:(if 0≤(ji3) then (if (ji3:Int).toNat≤70368744177664 then (r02_Times.l0 k l0 l1 (List.replicate (ji3:Int).toNat 0) 0) else (none)) else (none))=some r:=by first|(rw [hji3] at H;exact H)|(simp only [hji3] at H ⊢;exact H)
 have hji3w:(IntKind.i64.wrap ((l0.length:Int)+(l1.length:Int)))=ji3:=(i64_w _).trans hji3
 by_cases c4:0≤(ji3)
 ·rw [if_pos c4] at H
  have c4b0:=eq_true c4
  have c4b1:decide (0≤(ji3))=true:=decide_eq_true c4
  clear c4
  by_cases c5:(ji3:Int).toNat≤70368744177664
  ·rw [if_pos c5] at H
   have c5b0:=eq_true c5
   have c5b1:decide ((ji3:Int).toNat≤70368744177664)=true:=decide_eq_true c5
   clear c5
   obtain ⟨y488,hy488⟩:∃ y_:List Int,y_=(List.replicate (ji3:Int).toNat 0):=⟨_,rfl⟩
   replace H:(r02_Times.l0 k l0 l1 y488 0)=some r:=by first|(rw [hy488];with_reducible exact H)|(have H2_:=(Option.bind_some _ _).symm.trans H;rw [hy488];with_reducible exact H2_)|(have H2_:=(Option.bind_some _ _).symm.trans H;with_reducible exact H2_)|with_reducible exact H|(rw [hy488];exact H)|exact H
   have Ny488:=Aside0.mk hy488
   clear hy488
   have H':=Aside0.mk H
   clear H
   go_enter Tryd.func52,Tryd.ntmps52
   go_wp2_with (first|((with_reducible refine gate_dst (N:=15) rfl ?_);refine Kd.R_make (Kd.int .u32) _ 68 rfl (N:=15) rfl 28 _ _ rfl ji3 rfl rfl Tryd.underlying28 (.int .u32 0) 4 info68 rfl (by decide) (by omega) 0 (ok:=fun _=>True) (okp:=fun _=>True) rfl (fun _ hk=>hk) trivial od_ (Nat.le_trans (Nat.mul_le_mul_right _ (od_:ji3.toNat≤70368744177664)) (by omega)) (Below.refl _ _) (Nat.le_refl _) ?_;intro v489 w6 ho7 hb hg_ hnew_;clear hg_ hnew_;(first|rw [← Ny488.out] at ho7|(simp only [Int.reduceToNat] at ho7;rw [← Ny488.out] at ho7));have HO490:=Aside0.mk (Kd.R_lower ho7 (below_size (bl_ HB)));replace HB:=bs_ HB hb;clear hb ho7))
   repeat (go_quiet (first|((with_reducible refine gate_dst (N:=15) rfl ?_);refine Kd.R_make (Kd.int .u32) _ 68 rfl (N:=15) rfl 28 _ _ rfl ji3 rfl rfl Tryd.underlying28 (.int .u32 0) 4 info68 rfl (by decide) (by omega) 0 (ok:=fun _=>True) (okp:=fun _=>True) rfl (fun _ hk=>hk) trivial od_ (Nat.le_trans (Nat.mul_le_mul_right _ (od_:ji3.toNat≤70368744177664)) (by omega)) (Below.refl _ _) (Nat.le_refl _) ?_;intro v489 w6 ho7 hb hg_ hnew_;clear hg_ hnew_;(first|rw [← Ny488.out] at ho7|(simp only [Int.reduceToNat] at ho7;rw [← Ny488.out] at ho7));have HO490:=Aside0.mk (Kd.R_lower ho7 (below_size (bl_ HB)));replace HB:=bs_ HB hb;clear hb ho7));try go_wp2_with (first|((with_reducible refine gate_dst (N:=15) rfl ?_);refine Kd.R_make (Kd.int .u32) _ 68 rfl (N:=15) rfl 28 _ _ rfl ji3 rfl rfl Tryd.underlying28 (.int .u32 0) 4 info68 rfl (by decide) (by omega) 0 (ok:=fun _=>True) (okp:=fun _=>True) rfl (fun _ hk=>hk) trivial od_ (Nat.le_trans (Nat.mul_le_mul_right _ (od_:ji3.toNat≤70368744177664)) (by omega)) (Below.refl _ _) (Nat.le_refl _) ?_;intro v489 w6 ho7 hb hg_ hnew_;clear hg_ hnew_;(first|rw [← Ny488.out] at ho7|(simp only [Int.reduceToNat] at ho7;rw [← Ny488.out] at ho7));have HO490:=Aside0.mk (Kd.R_lower ho7 (below_size (bl_ HB)));replace HB:=bs_ HB hb;clear hb ho7)))
   go_loopg [6] k (fun kq v6 w'=>∃ (x5_1:List Int) (x6_1:Int),v6 = .int .i64 x6_1∧Aside0 (r02_Times.l0 kq l0 l1 x5_1 x6_1=some r)∧Aside0 (kq≤k)∧Aside0 (Kd.R (Kd.int .u32) 68 w' w.heap.size (fun _=>True) v489 x5_1)∧Aside0 (Below w.heap.size w w'))
   case atStart=>exact ⟨(y488),(0),(by first|rfl|(simp;done)|(simp [*];done)),H',⟨Nat.le_refl _⟩,⟨rr_ HO490⟩,⟨bl_ HB⟩⟩
   case round =>
    clear H'
    try clear c1
    try clear p2
    try clear c4
    try clear c4b0
    try clear c4b1
    try clear c5
    try clear c5b0
    try clear c5b1
    try clear p6
    obtain ⟨x5_1,x6_1,rfl,HA,HK1,HO_5,HB⟩:=hrel
    cases gk with
    | zero=>exact absurd HA.out (by simp [r02_Times.l0])
    | succ k1 =>
     have H:=HA.out
     clear HA
     simp only [r02_Times.l0] at H
     by_cases c8:x6_1<(l0.length:Int)
     ·rw [if_pos c8] at H
      have c8b0:decide (x6_1<(l0.length:Int))=true:=decide_eq_true c8
      clear c8
      have H':=Aside0.mk H
      clear H
      go_wp2
      repeat (go_quiet (fail);try go_wp2)
      go_loopg [7,8] k1 (fun kq v7 v8 w'=>∃ (x5_2:List Int) (x7_2:Int) (x8_2:Int),v7 = .int .u64 x7_2∧v8 = .int .i64 x8_2∧Aside0 (r02_Times.l1 kq l0 l1 x5_2 x6_1 x7_2 x8_2=some r)∧Aside0 (kq≤k1)∧Aside0 (Kd.R (Kd.int .u32) 68 w' w.heap.size (fun _=>True) v489 x5_2)∧Aside0 (Below w.heap.size w w'))
      case atStart=>exact ⟨(x5_1),(0),(0),(by first|rfl|(simp;done)|(simp [*];done)),(by first|rfl|(simp;done)|(simp [*];done)),H',⟨Nat.le_refl _⟩,⟨rr_ HO_5⟩,⟨bl_ HB⟩⟩
      case round =>
       clear H'
       try clear c1
       try clear p2
       try clear c4
       try clear c4b0
       try clear c4b1
       try clear c5
       try clear c5b0
       try clear c5b1
       try clear p6
       try clear c8
       try clear c8b0
       try clear p2
       try clear p6
       obtain ⟨x5_2,x7_2,x8_2,rfl,rfl,HA,HK2,HO_5,HB⟩:=hrel
       cases gk with
       | zero=>exact absurd HA.out (by simp [r02_Times.l1])
       | succ k2 =>
        have H:=HA.out
        clear HA
        simp only [r02_Times.l1] at H
        by_cases c9:x8_2<(l1.length:Int)
        ·rw [if_pos c9] at H
         have c9b0:decide (x8_2<(l1.length:Int))=true:=decide_eq_true c9
         clear c9
         by_cases c10:0≤x6_1
         ·rw [if_pos c10] at H
          have c10b0:decide (0≤x6_1)=true:=decide_eq_true c10
          clear c10
          by_cases c11:x6_1<(l0.length:Int)
          ·rw [if_pos c11] at H
           have c11b0:decide (x6_1<(l0.length:Int))=true:=decide_eq_true c11
           clear c11
           by_cases c12:0≤x8_2
           ·rw [if_pos c12] at H
            have c12b0:decide (0≤x8_2)=true:=decide_eq_true c12
            clear c12
            obtain ⟨ji13,hji13⟩:∃ j_:Int,(wrap64 (x6_1+x8_2))=j_:=⟨_,rfl⟩
            replace H:(if 0≤(ji13) then (if (ji13)<(x5_2.length:Int) then (r02_Times.l1 k2 l0 l1 (x5_2.set ((ji13):Int).toNat ((IntKind.u64.wrap ((IntKind.u64.wrap ((IntKind.u64.wrap ((IntKind.u64.wrap (rd l0 x6_1))*(IntKind.u64.wrap (rd l1 x8_2))))+(IntKind.u64.wrap (rd x5_2 (ji13)))))+x7_2))%4294967296)) x6_1 ((IntKind.u64.wrap ((IntKind.u64.wrap ((IntKind.u64.wrap ((IntKind.u64.wrap (rd l0 x6_1))*(IntKind.u64.wrap (rd l1 x8_2))))+(IntKind.u64.wrap (rd x5_2 (ji13)))))+x7_2)) / 4294967296) (wrap64 (x8_2+1))) else (none)) else (none))=some r:=by first|(rw [hji13] at H;exact H)|(simp only [hji13] at H ⊢;exact H)
            have hji13w:(IntKind.i64.wrap (x6_1+x8_2))=ji13:=(i64_w _).trans hji13
            by_cases c14:0≤(ji13)
            ·rw [if_pos c14] at H
             have c14b0:decide (0≤(ji13))=true:=decide_eq_true c14
             clear c14
             by_cases c15:(ji13)<(x5_2.length:Int)
             ·rw [if_pos c15] at H
              have c15b0:decide ((ji13)<(x5_2.length:Int))=true:=decide_eq_true c15
              clear c15
              obtain ⟨y497,hy497⟩:∃ y_:List Int,y_=(x5_2.set ((ji13):Int).toNat ((IntKind.u64.wrap ((IntKind.u64.wrap ((IntKind.u64.wrap ((IntKind.u64.wrap (rd l0 x6_1))*(IntKind.u64.wrap (rd l1 x8_2))))+(IntKind.u64.wrap (rd x5_2 (ji13)))))+x7_2))%4294967296)):=⟨_,rfl⟩
              replace H:(r02_Times.l1 k2 l0 l1 y497 x6_1 ((IntKind.u64.wrap ((IntKind.u64.wrap ((IntKind.u64.wrap ((IntKind.u64.wrap (rd l0 x6_1))*(IntKind.u64.wrap (rd l1 x8_2))))+(IntKind.u64.wrap (rd x5_2 (ji13)))))+x7_2)) / 4294967296) (wrap64 (x8_2+1)))=some r:=by first|(rw [hy497];with_reducible exact H)|(have H2_:=(Option.bind_some _ _).symm.trans H;rw [hy497];with_reducible exact H2_)|(have H2_:=(Option.bind_some _ _).symm.trans H;with_reducible exact H2_)|with_reducible exact H|(rw [hy497];exact H)|exact H
              have Ny497:=Aside0.mk hy497
              clear hy497
              have H':=Aside0.mk H
              clear H
              have p494:0≤(x6_1:Int):=od_
              have q494:x6_1<(l0.length:Int):=od_
              obtain ⟨ad494,e494,hx494_0⟩:=Kd.at_int HR0.out x6_1 p494 q494
              cases e494
              replace hx494_0:=(HB.out.cell (World.block_lt_of_cell? w _ hx494_0)).trans hx494_0
              replace p494:=eq_true p494
              replace q494:=eq_true q494
              have p495:0≤(x8_2:Int):=od_
              have q495:x8_2<(l1.length:Int):=od_
              obtain ⟨ad495,e495,hx495_0⟩:=Kd.at_int HR1.out x8_2 p495 q495
              cases e495
              replace hx495_0:=(HB.out.cell (World.block_lt_of_cell? w _ hx495_0)).trans hx495_0
              replace p495:=eq_true p495
              replace q495:=eq_true q495
              obtain ⟨Ao17,co17,eo17⟩:=Kd.R_slice HO_5.out
              subst eo17
              have p496:0≤((ji13):Int):=od_
              have q496:(ji13)<(x5_2.length:Int):=od_
              obtain ⟨ad496,e496,hx496_0⟩:=Kd.at_int (Kd.R_reads' HO_5.out).2.2 (ji13) p496 q496
              cases e496
              replace p496:=eq_true p496
              replace q496:=eq_true q496
              have p16:0≤((ji13):Int):=od_
              have q16:((ji13):Int)<((x5_2.length:Int):Int):=od_
              obtain ⟨go16,co16,eo16,gb16,gl16,cl16,HG16⟩:=Kd.R_form HO_5.out (by omega)
              (first|cases eo16|(injection eo16 with ea_ en_ ec_;(first|subst ea_|(injection ea_ with ea_;subst ea_));subst ec_;clear en_))
              have GB16:=Aside0.mk gb16
              have GG16:=Aside0.mk HG16
              clear gb16 gl16 HG16
              (first|simp only [add_plain] at hx496_0|skip)
              obtain ⟨hx16_0,hf16_0⟩:=Kd.R_celln 0 HO_5.out ((ji13):Int) p16 q16
              (try simp only [Int.toNat_natCast] at hx16_0 hf16_0)
              replace p16:=eq_true p16
              replace q16:=eq_true q16
              have HP18:=Kd.R_putg HO_5.out ((ji13):Int) ((IntKind.u64.wrap ((IntKind.u64.wrap ((IntKind.u64.wrap ((IntKind.u64.wrap (rd l0 x6_1))*(IntKind.u64.wrap (rd l1 x8_2))))+(IntKind.u64.wrap (rd x5_2 (ji13)))))+x7_2))%4294967296)
              go_wp2_with (first|((with_reducible refine gate_store (t:=68) (p:=55) rfl ?_);(try (rw [drewN_self wr];generalize hq_:World.drewN wr _=wr;have HO_5:=Aside0.mk (Kd.R_at hq_ HO_5.out);have HB:=Aside0.mk (below_at hq_ HB.out);(try (have HP18:=Kd.R_putg HO_5.out ((ji13):Int) ((IntKind.u64.wrap ((IntKind.u64.wrap ((IntKind.u64.wrap ((IntKind.u64.wrap (rd l0 x6_1))*(IntKind.u64.wrap (rd l1 x8_2))))+(IntKind.u64.wrap (rd x5_2 (ji13)))))+x7_2))%4294967296)));(try (obtain ⟨hx16_0,hf16_0⟩:=Kd.R_celln 0 HO_5.out ((ji13):Int) (of_eq_true p16) (of_eq_true q16)))));refine store_event (t:=68) (p:=55) (v:=?vo_w19) (w1:=(wr.setCell ⟨go16,((ji13):Int).toNat,none⟩ (.int .u32 ((IntKind.u64.wrap ((IntKind.u64.wrap ((IntKind.u64.wrap ((IntKind.u64.wrap (rd l0 x6_1))*(IntKind.u64.wrap (rd l1 x8_2))))+(IntKind.u64.wrap (rd x5_2 (ji13)))))+x7_2))%4294967296)))) ?hg ?ho ?hn ?hr ?_;(case ho=>rfl);(case hg=>rfl);(case hn=>rfl);(case hr=>first|(go_simp;done)|(go_simp;rfl));intro w19 hw;have hg:wr.grownBy w19 (some go16):=(by rw [hw];exact HP18.2);have hp_:Kd.R (Kd.int .u32) 68 w19 w.heap.size (fun _=>True) (.slice (some ⟨go16,0,none⟩) x5_2.length co17) y497:=(by rw [hw,Ny497.out];exact HP18.1);clear HP18;replace HO_5:=Aside0.mk (hp_);replace HB:=Aside0.mk ((by rw [hw];exact below_set (HB.out) GB16.out:Below w.heap.size w w19));clear hg hw hp_))
              repeat (go_quiet (first|((with_reducible refine gate_store (t:=68) (p:=55) rfl ?_);(try (rw [drewN_self wr];generalize hq_:World.drewN wr _=wr;have HO_5:=Aside0.mk (Kd.R_at hq_ HO_5.out);have HB:=Aside0.mk (below_at hq_ HB.out);(try (have HP18:=Kd.R_putg HO_5.out ((ji13):Int) ((IntKind.u64.wrap ((IntKind.u64.wrap ((IntKind.u64.wrap ((IntKind.u64.wrap (rd l0 x6_1))*(IntKind.u64.wrap (rd l1 x8_2))))+(IntKind.u64.wrap (rd x5_2 (ji13)))))+x7_2))%4294967296)));(try (obtain ⟨hx16_0,hf16_0⟩:=Kd.R_celln 0 HO_5.out ((ji13):Int) (of_eq_true p16) (of_eq_true q16)))));refine store_event (t:=68) (p:=55) (v:=?vo_w19) (w1:=(wr.setCell ⟨go16,((ji13):Int).toNat,none⟩ (.int .u32 ((IntKind.u64.wrap ((IntKind.u64.wrap ((IntKind.u64.wrap ((IntKind.u64.wrap (rd l0 x6_1))*(IntKind.u64.wrap (rd l1 x8_2))))+(IntKind.u64.wrap (rd x5_2 (ji13)))))+x7_2))%4294967296)))) ?hg ?ho ?hn ?hr ?_;(case ho=>rfl);(case hg=>rfl);(case hn=>rfl);(case hr=>first|(go_simp;done)|(go_simp;rfl));intro w19 hw;have hg:wr.grownBy w19 (some go16):=(by rw [hw];exact HP18.2);have hp_:Kd.R (Kd.int .u32) 68 w19 w.heap.size (fun _=>True) (.slice (some ⟨go16,0,none⟩) x5_2.length co17) y497:=(by rw [hw,Ny497.out];exact HP18.1);clear HP18;replace HO_5:=Aside0.mk (hp_);replace HB:=Aside0.mk ((by rw [hw];exact below_set (HB.out) GB16.out:Below w.heap.size w w19));clear hg hw hp_));try go_wp2_with (first|((with_reducible refine gate_store (t:=68) (p:=55) rfl ?_);(try (rw [drewN_self wr];generalize hq_:World.drewN wr _=wr;have HO_5:=Aside0.mk (Kd.R_at hq_ HO_5.out);have HB:=Aside0.mk (below_at hq_ HB.out);(try (have HP18:=Kd.R_putg HO_5.out ((ji13):Int) ((IntKind.u64.wrap ((IntKind.u64.wrap ((IntKind.u64.wrap ((IntKind.u64.wrap (rd l0 x6_1))*(IntKind.u64.wrap (rd l1 x8_2))))+(IntKind.u64.wrap (rd x5_2 (ji13)))))+x7_2))%4294967296)));(try (obtain ⟨hx16_0,hf16_0⟩:=Kd.R_celln 0 HO_5.out ((ji13):Int) (of_eq_true p16) (of_eq_true q16)))));refine store_event (t:=68) (p:=55) (v:=?vo_w19) (w1:=(wr.setCell ⟨go16,((ji13):Int).toNat,none⟩ (.int .u32 ((IntKind.u64.wrap ((IntKind.u64.wrap ((IntKind.u64.wrap ((IntKind.u64.wrap (rd l0 x6_1))*(IntKind.u64.wrap (rd l1 x8_2))))+(IntKind.u64.wrap (rd x5_2 (ji13)))))+x7_2))%4294967296)))) ?hg ?ho ?hn ?hr ?_;(case ho=>rfl);(case hg=>rfl);(case hn=>rfl);(case hr=>first|(go_simp;done)|(go_simp;rfl));intro w19 hw;have hg:wr.grownBy w19 (some go16):=(by rw [hw];exact HP18.2);have hp_:Kd.R (Kd.int .u32) 68 w19 w.heap.size (fun _=>True) (.slice (some ⟨go16,0,none⟩) x5_2.length co17) y497:=(by rw [hw,Ny497.out];exact HP18.1);clear HP18;replace HO_5:=Aside0.mk (hp_);replace HB:=Aside0.mk ((by rw [hw];exact below_set (HB.out) GB16.out:Below w.heap.size w w19));clear hg hw hp_)))
              go_roundg k2
              case measure=>have:=HK1.out;have:=HK2.out;omega
              case rel=>exact ⟨(y497),((IntKind.u64.wrap ((IntKind.u64.wrap ((IntKind.u64.wrap ((IntKind.u64.wrap (rd l0 x6_1))*(IntKind.u64.wrap (rd l1 x8_2))))+(IntKind.u64.wrap (rd x5_2 (ji13)))))+x7_2)) / 4294967296),(wrap64 (x8_2+1)),(by first|rfl|(simp;done)|(simp only [← hji13] <;> (first|rfl|simp))|(simp [*];done)),(by first|rfl|(simp;done)|(simp [*];done)),H',⟨by have:=HK1.out;have:=HK2.out;omega⟩,⟨rr_ HO_5⟩,⟨bl_ HB⟩⟩
             ·rw [if_neg c15] at H
              exact absurd H (by simp)
            ·rw [if_neg c14] at H
             exact absurd H (by simp)
           ·rw [if_neg c12] at H
            exact absurd H (by simp)
          ·rw [if_neg c11] at H
           exact absurd H (by simp)
         ·rw [if_neg c10] at H
          exact absurd H (by simp)
        ·rw [if_neg c9] at H
         have c9b0:decide (x8_2<(l1.length:Int))=false:=decide_eq_false c9
         clear c9
         obtain ⟨ji20,hji20⟩:∃ j_:Int,(wrap64 (x6_1+(l1.length:Int)))=j_:=⟨_,rfl⟩
         replace H:(if 0≤(ji20) then (if (ji20)<(x5_2.length:Int) then (r02_Times.l0 k2 l0 l1 (x5_2.set ((ji20):Int).toNat ((x7_2)%4294967296)) (wrap64 (x6_1+1))) else (none)) else (none))=some r:=by first|(rw [hji20] at H;exact H)|(simp only [hji20] at H ⊢;exact H)
         have hji20w:(IntKind.i64.wrap (x6_1+(l1.length:Int)))=ji20:=(i64_w _).trans hji20
         by_cases c21:0≤(ji20)
         ·rw [if_pos c21] at H
          have c21b0:decide (0≤(ji20))=true:=decide_eq_true c21
          clear c21
          by_cases c22:(ji20)<(x5_2.length:Int)
          ·rw [if_pos c22] at H
           have c22b0:decide ((ji20)<(x5_2.length:Int))=true:=decide_eq_true c22
           clear c22
           obtain ⟨y498,hy498⟩:∃ y_:List Int,y_=(x5_2.set ((ji20):Int).toNat ((x7_2)%4294967296)):=⟨_,rfl⟩
           replace H:(r02_Times.l0 k2 l0 l1 y498 (wrap64 (x6_1+1)))=some r:=by first|(rw [hy498];with_reducible exact H)|(have H2_:=(Option.bind_some _ _).symm.trans H;rw [hy498];with_reducible exact H2_)|(have H2_:=(Option.bind_some _ _).symm.trans H;with_reducible exact H2_)|with_reducible exact H|(rw [hy498];exact H)|exact H
           have Ny498:=Aside0.mk hy498
           clear hy498
           have H':=Aside0.mk H
           clear H
           have p23:0≤((ji20):Int):=od_
           have q23:((ji20):Int)<((x5_2.length:Int):Int):=od_
           obtain ⟨go23,co23,eo23,gb23,gl23,cl23,HG23⟩:=Kd.R_form HO_5.out (by omega)
           (first|cases eo23|(injection eo23 with ea_ en_ ec_;(first|subst ea_|(injection ea_ with ea_;subst ea_));subst ec_;clear en_))
           have GB23:=Aside0.mk gb23
           have GG23:=Aside0.mk HG23
           clear gb23 gl23 HG23
           obtain ⟨hx23_0,hf23_0⟩:=Kd.R_celln 0 HO_5.out ((ji20):Int) p23 q23
           (try simp only [Int.toNat_natCast] at hx23_0 hf23_0)
           replace p23:=eq_true p23
           replace q23:=eq_true q23
           have HP24:=Kd.R_putg HO_5.out ((ji20):Int) ((x7_2)%4294967296)
           go_wp2_with (first|((with_reducible refine gate_store (t:=68) (p:=65) rfl ?_);(try (rw [drewN_self wr];generalize hq_:World.drewN wr _=wr;have HO_5:=Aside0.mk (Kd.R_at hq_ HO_5.out);have HB:=Aside0.mk (below_at hq_ HB.out);(try (have HP24:=Kd.R_putg HO_5.out ((ji20):Int) ((x7_2)%4294967296)));(try (obtain ⟨hx16_0,hf16_0⟩:=Kd.R_celln 0 HO_5.out ((ji13):Int) (of_eq_true p16) (of_eq_true q16)));(try (obtain ⟨hx23_0,hf23_0⟩:=Kd.R_celln 0 HO_5.out ((ji20):Int) (of_eq_true p23) (of_eq_true q23)))));refine store_event (t:=68) (p:=65) (v:=?vo_w25) (w1:=(wr.setCell ⟨go23,((ji20):Int).toNat,none⟩ (.int .u32 ((x7_2)%4294967296)))) ?hg ?ho ?hn ?hr ?_;(case ho=>rfl);(case hg=>rfl);(case hn=>rfl);(case hr=>first|(go_simp;done)|(go_simp;rfl));intro w25 hw;have hg:wr.grownBy w25 (some go23):=(by rw [hw];exact HP24.2);have hp_:Kd.R (Kd.int .u32) 68 w25 w.heap.size (fun _=>True) (.slice (some ⟨go23,0,none⟩) x5_2.length co23) y498:=(by rw [hw,Ny498.out];exact HP24.1);clear HP24;replace HO_5:=Aside0.mk (hp_);replace HB:=Aside0.mk ((by rw [hw];exact below_set (HB.out) GB23.out:Below w.heap.size w w25));clear hg hw hp_))
           repeat (go_quiet (first|((with_reducible refine gate_store (t:=68) (p:=65) rfl ?_);(try (rw [drewN_self wr];generalize hq_:World.drewN wr _=wr;have HO_5:=Aside0.mk (Kd.R_at hq_ HO_5.out);have HB:=Aside0.mk (below_at hq_ HB.out);(try (have HP24:=Kd.R_putg HO_5.out ((ji20):Int) ((x7_2)%4294967296)));(try (obtain ⟨hx16_0,hf16_0⟩:=Kd.R_celln 0 HO_5.out ((ji13):Int) (of_eq_true p16) (of_eq_true q16)));(try (obtain ⟨hx23_0,hf23_0⟩:=Kd.R_celln 0 HO_5.out ((ji20):Int) (of_eq_true p23) (of_eq_true q23)))));refine store_event (t:=68) (p:=65) (v:=?vo_w25) (w1:=(wr.setCell ⟨go23,((ji20):Int).toNat,none⟩ (.int .u32 ((x7_2)%4294967296)))) ?hg ?ho ?hn ?hr ?_;(case ho=>rfl);(case hg=>rfl);(case hn=>rfl);(case hr=>first|(go_simp;done)|(go_simp;rfl));intro w25 hw;have hg:wr.grownBy w25 (some go23):=(by rw [hw];exact HP24.2);have hp_:Kd.R (Kd.int .u32) 68 w25 w.heap.size (fun _=>True) (.slice (some ⟨go23,0,none⟩) x5_2.length co23) y498:=(by rw [hw,Ny498.out];exact HP24.1);clear HP24;replace HO_5:=Aside0.mk (hp_);replace HB:=Aside0.mk ((by rw [hw];exact below_set (HB.out) GB23.out:Below w.heap.size w w25));clear hg hw hp_));try go_wp2_with (first|((with_reducible refine gate_store (t:=68) (p:=65) rfl ?_);(try (rw [drewN_self wr];generalize hq_:World.drewN wr _=wr;have HO_5:=Aside0.mk (Kd.R_at hq_ HO_5.out);have HB:=Aside0.mk (below_at hq_ HB.out);(try (have HP24:=Kd.R_putg HO_5.out ((ji20):Int) ((x7_2)%4294967296)));(try (obtain ⟨hx16_0,hf16_0⟩:=Kd.R_celln 0 HO_5.out ((ji13):Int) (of_eq_true p16) (of_eq_true q16)));(try (obtain ⟨hx23_0,hf23_0⟩:=Kd.R_celln 0 HO_5.out ((ji20):Int) (of_eq_true p23) (of_eq_true q23)))));refine store_event (t:=68) (p:=65) (v:=?vo_w25) (w1:=(wr.setCell ⟨go23,((ji20):Int).toNat,none⟩ (.int .u32 ((x7_2)%4294967296)))) ?hg ?ho ?hn ?hr ?_;(case ho=>rfl);(case hg=>rfl);(case hn=>rfl);(case hr=>first|(go_simp;done)|(go_simp;rfl));intro w25 hw;have hg:wr.grownBy w25 (some go23):=(by rw [hw];exact HP24.2);have hp_:Kd.R (Kd.int .u32) 68 w25 w.heap.size (fun _=>True) (.slice (some ⟨go23,0,none⟩) x5_2.length co23) y498:=(by rw [hw,Ny498.out];exact HP24.1);clear HP24;replace HO_5:=Aside0.mk (hp_);replace HB:=Aside0.mk ((by rw [hw];exact below_set (HB.out) GB23.out:Below w.heap.size w w25));clear hg hw hp_)))
           go_roundg k2
           case measure=>have:=HK1.out;have:=HK2.out;omega
           case rel=>exact ⟨(y498),(wrap64 (x6_1+1)),(by first|rfl|(simp;done)|(simp [*];done)),H',⟨by have:=HK1.out;have:=HK2.out;omega⟩,⟨rr_ HO_5⟩,⟨bl_ HB⟩⟩
          ·rw [if_neg c22] at H
           exact absurd H (by simp)
         ·rw [if_neg c21] at H
          exact absurd H (by simp)
     ·rw [if_neg c8] at H
      have c8b0:decide (x6_1<(l0.length:Int))=false:=decide_eq_false c8
      clear c8
      obtain ⟨t491,A26,H⟩:=ob_ H
      try dsimp only at H
      obtain rfl:=Option.some.inj H
      obtain ⟨Ao27,co27,eo27⟩:=Kd.R_slice HO_5.out
      subst eo27
      go_wp2_with (first|(go_at_call 51;(try simp only [i64_w,i32_w]);(with_reducible refine (r02_Norm.calls k1 _ _ x5_1 t491 _ ?side1 ?side2 A26.out).mono ?_);(case side1=>exact cs_ (Kd.R_reads' HO_5.out).2.2);(case side2=>exact (Kd.R_reads' HO_5.out).2.1);rintro e w28 ⟨v492,rfl,ho0,hb⟩;have HO493:=Aside0.mk (Kd.R_lower (Kd.R_new' ho0 (Kd.R_lt (rr_ HO_5))) (below_size (bl_ HB)));replace HO_5:=Aside0.mk (Kd.R_elder' (rr_ HO_5) (Kd.R_base ho0) hb);replace HB:=bs_ HB hb;(try clear hb);(try clear hb2);(try clear hk);(try clear hi);(try clear ho0)))
      repeat (go_quiet (first|(go_at_call 51;(try simp only [i64_w,i32_w]);(with_reducible refine (r02_Norm.calls k1 _ _ x5_1 t491 _ ?side1 ?side2 A26.out).mono ?_);(case side1=>exact cs_ (Kd.R_reads' HO_5.out).2.2);(case side2=>exact (Kd.R_reads' HO_5.out).2.1);rintro e w28 ⟨v492,rfl,ho0,hb⟩;have HO493:=Aside0.mk (Kd.R_lower (Kd.R_new' ho0 (Kd.R_lt (rr_ HO_5))) (below_size (bl_ HB)));replace HO_5:=Aside0.mk (Kd.R_elder' (rr_ HO_5) (Kd.R_base ho0) hb);replace HB:=bs_ HB hb;(try clear hb);(try clear hb2);(try clear hk);(try clear hi);(try clear ho0)));try go_wp2_with (first|(go_at_call 51;(try simp only [i64_w,i32_w]);(with_reducible refine (r02_Norm.calls k1 _ _ x5_1 t491 _ ?side1 ?side2 A26.out).mono ?_);(case side1=>exact cs_ (Kd.R_reads' HO_5.out).2.2);(case side2=>exact (Kd.R_reads' HO_5.out).2.1);rintro e w28 ⟨v492,rfl,ho0,hb⟩;have HO493:=Aside0.mk (Kd.R_lower (Kd.R_new' ho0 (Kd.R_lt (rr_ HO_5))) (below_size (bl_ HB)));replace HO_5:=Aside0.mk (Kd.R_elder' (rr_ HO_5) (Kd.R_base ho0) hb);replace HB:=bs_ HB hb;(try clear hb);(try clear hb2);(try clear hk);(try clear hi);(try clear ho0))))
      go_ret
      exact ⟨_,by first|rfl|(simp [errW_none,errW_some] <;> rfl)|(simp only [← hji3];first|rfl|(simp [errW_none,errW_some] <;> rfl))|(simp [*,errW_none,errW_some] <;> rfl),by (with_reducible repeat (first|apply rA|apply rN|apply rD));exact Kd.R_mono HO493.out (fun _ hk=>trivial),bl_ HB⟩
  ·rw [if_neg c5] at H
   exact absurd H (by simp)
 ·rw [if_neg c4] at H
  exact absurd H (by simp)
def r02_Cmp.l0:Nat→List Int→List Int→Int→Option (Int)
 | 0,_,_,_=>none
 | k+1,x0,x1,x5=>if x5≥0 then (if 0≤x5 then (if x5<(x0.length:Int) then (if x5<(x1.length:Int) then (if (rd x0 x5)<(rd x1 x5) then (some (-1)) else (if (rd x0 x5)>(rd x1 x5) then (some 1) else (r02_Cmp.l0 k x0 x1 (wrap64 (x5 - 1))))) else (none)) else (none)) else (none)) else (some 0)
def r02_Cmp.f (k:Nat) (l0:List Int) (l1:List Int):Option (Int):=(r02_size.f k l0).bind fun t473=>((r02_size.f k l1).bind fun t474=>(if t473=t474 then (r02_Cmp.l0 k l0 l1 (wrap64 (t473 - 1))) else (if t473<t474 then (some (-1)) else (some 1))))
set_option maxHeartbeats 3000000 in
set_option maxRecDepth 100000 in
theorem r02_Cmp.calls (k:Nat) (A0:Option Addr) (c0:Nat) (l0:List Int) (A1:Option Addr) (c1:Nat) (l1:List Int) (r:Int) (w:World) (hr0:Kd.C (Kd.int .u32) w A0 l0.length l0) (hc0:l0.length≤c0) (hr1:Kd.C (Kd.int .u32) w A1 l1.length l1) (hc1:l1.length≤c1) (h:r02_Cmp.f k l0 l1=some r) :
  Calls Tryd.prog 35 #[.slice A0 l0.length c0,.slice A1 l1.length c1] w fun e w'=>e = .returned (.int .i64 r)∧Drawn0 w w':=by
 have HR0:=Aside0.mk hr0
 have HC0:=Aside0.mk hc0
 clear hr0 hc0
 have HR1:=Aside0.mk hr1
 have HC1:=Aside0.mk hc1
 clear hr1 hc1
 have H:=h
 unfold r02_Cmp.f at H
 clear h
 obtain ⟨t473,A3,H⟩:=ob_ H
 try dsimp only at H
 obtain ⟨t474,A4,H⟩:=ob_ H
 try dsimp only at H
 by_cases c5:t473=t474
 ·rw [if_pos c5] at H
  have c5b0:(t473 == t474)=true:=beq_iff_eq.mpr c5
  have c5b1:(t473 != t474)=false:=bne_eq_false_iff_eq.mpr c5
  clear c5
  have H':=Aside0.mk H
  clear H
  go_enter Tryd.func35,Tryd.ntmps35
  go_wp2_with (first|(go_at_call 54;(try simp only [i64_w,i32_w]);(with_reducible refine (r02_size.calls k _ _ l0 t473 _ ?side1 ?side2 A3.out).mono ?_);(case side1=>exact cs_ HR0.out);(case side2=>exact HC0.out);rintro e w' ⟨rfl,⟨nd,rfl⟩⟩;(try first|exact ⟨rfl,_,World.drewN_drewN _ _ _⟩|exact ⟨rfl,_,Eq.trans (World.drewN_drewN _ _ _) (congrArg (World.drewN _) (Nat.add_assoc _ _ _))⟩))|(go_at_call 54;(try simp only [i64_w,i32_w]);(with_reducible refine (r02_size.calls k _ _ l1 t474 _ ?side1 ?side2 A4.out).mono ?_);(case side1=>exact cs_ HR1.out);(case side2=>exact HC1.out);rintro e w' ⟨rfl,⟨nd,rfl⟩⟩;(try first|exact ⟨rfl,_,World.drewN_drewN _ _ _⟩|exact ⟨rfl,_,Eq.trans (World.drewN_drewN _ _ _) (congrArg (World.drewN _) (Nat.add_assoc _ _ _))⟩)))
  repeat (go_quiet (first|(go_at_call 54;(try simp only [i64_w,i32_w]);(with_reducible refine (r02_size.calls k _ _ l0 t473 _ ?side1 ?side2 A3.out).mono ?_);(case side1=>exact cs_ HR0.out);(case side2=>exact HC0.out);rintro e w' ⟨rfl,⟨nd,rfl⟩⟩;(try first|exact ⟨rfl,_,World.drewN_drewN _ _ _⟩|exact ⟨rfl,_,Eq.trans (World.drewN_drewN _ _ _) (congrArg (World.drewN _) (Nat.add_assoc _ _ _))⟩))|(go_at_call 54;(try simp only [i64_w,i32_w]);(with_reducible refine (r02_size.calls k _ _ l1 t474 _ ?side1 ?side2 A4.out).mono ?_);(case side1=>exact cs_ HR1.out);(case side2=>exact HC1.out);rintro e w' ⟨rfl,⟨nd,rfl⟩⟩;(try first|exact ⟨rfl,_,World.drewN_drewN _ _ _⟩|exact ⟨rfl,_,Eq.trans (World.drewN_drewN _ _ _) (congrArg (World.drewN _) (Nat.add_assoc _ _ _))⟩)));try go_wp2_with (first|(go_at_call 54;(try simp only [i64_w,i32_w]);(with_reducible refine (r02_size.calls k _ _ l0 t473 _ ?side1 ?side2 A3.out).mono ?_);(case side1=>exact cs_ HR0.out);(case side2=>exact HC0.out);rintro e w' ⟨rfl,⟨nd,rfl⟩⟩;(try first|exact ⟨rfl,_,World.drewN_drewN _ _ _⟩|exact ⟨rfl,_,Eq.trans (World.drewN_drewN _ _ _) (congrArg (World.drewN _) (Nat.add_assoc _ _ _))⟩))|(go_at_call 54;(try simp only [i64_w,i32_w]);(with_reducible refine (r02_size.calls k _ _ l1 t474 _ ?side1 ?side2 A4.out).mono ?_);(case side1=>exact cs_ HR1.out);(case side2=>exact HC1.out);rintro e w' ⟨rfl,⟨nd,rfl⟩⟩;(try first|exact ⟨rfl,_,World.drewN_drewN _ _ _⟩|exact ⟨rfl,_,Eq.trans (World.drewN_drewN _ _ _) (congrArg (World.drewN _) (Nat.add_assoc _ _ _))⟩))))
  go_loopg [5] k (fun kq v5 w'=>∃ (x5_1:Int),v5 = .int .i64 x5_1∧Aside0 (r02_Cmp.l0 kq l0 l1 x5_1=some r)∧Aside0 (kq≤k)∧Drawn0 w w')
  case atStart=>exact ⟨(wrap64 (t473 - 1)),(by first|rfl|(simp;done)|(simp [*];done)),H',⟨Nat.le_refl _⟩,by repeat (first|exact Drawn0.refl _|apply Drawn0.step)⟩
  case round =>
   clear H'
   try clear c1
   try clear p2
   try clear c3
   try clear c5
   try clear c5b0
   try clear c5b1
   obtain ⟨x5_1,rfl,HA,HK1,⟨m1,rfl⟩⟩:=hrel
   cases gk with
   | zero=>exact absurd HA.out (by simp [r02_Cmp.l0])
   | succ k1 =>
    have H:=HA.out
    clear HA
    simp only [r02_Cmp.l0] at H
    by_cases c6:x5_1≥0
    ·rw [if_pos c6] at H
     have c6b0:decide (0≤x5_1)=true:=decide_eq_true c6
     clear c6
     by_cases c7:0≤x5_1
     ·rw [if_pos c7] at H
      have c7b0:decide (0≤x5_1)=true:=decide_eq_true c7
      clear c7
      by_cases c8:x5_1<(l0.length:Int)
      ·rw [if_pos c8] at H
       have c8b0:decide (x5_1<(l0.length:Int))=true:=decide_eq_true c8
       clear c8
       by_cases c9:x5_1<(l1.length:Int)
       ·rw [if_pos c9] at H
        have c9b0:decide (x5_1<(l1.length:Int))=true:=decide_eq_true c9
        clear c9
        by_cases c10:(rd l0 x5_1)<(rd l1 x5_1)
        ·rw [if_pos c10] at H
         have c10b0:decide ((rd l0 x5_1)<(rd l1 x5_1))=true:=decide_eq_true c10
         clear c10
         obtain rfl:=Option.some.inj H
         have p475:0≤(x5_1:Int):=od_
         have q475:x5_1<(l0.length:Int):=od_
         obtain ⟨ad475,e475,hx475_0⟩:=Kd.at_int HR0.out x5_1 p475 q475
         cases e475
         replace p475:=eq_true p475
         replace q475:=eq_true q475
         have p476:0≤(x5_1:Int):=od_
         have q476:x5_1<(l1.length:Int):=od_
         obtain ⟨ad476,e476,hx476_0⟩:=Kd.at_int HR1.out x5_1 p476 q476
         cases e476
         replace p476:=eq_true p476
         replace q476:=eq_true q476
         go_wp2
         repeat (go_quiet (fail);try go_wp2)
         go_ret
         exact ⟨by first|rfl|(simp;done)|(simp [*];done),by repeat (first|exact Drawn0.refl _|apply Drawn0.step)⟩
        ·rw [if_neg c10] at H
         have c10b0:decide ((rd l0 x5_1)<(rd l1 x5_1))=false:=decide_eq_false c10
         clear c10
         by_cases c11:(rd l0 x5_1)>(rd l1 x5_1)
         ·rw [if_pos c11] at H
          have c11b0:decide ((rd l1 x5_1)<(rd l0 x5_1))=true:=decide_eq_true c11
          clear c11
          obtain rfl:=Option.some.inj H
          have p475:0≤(x5_1:Int):=od_
          have q475:x5_1<(l0.length:Int):=od_
          obtain ⟨ad475,e475,hx475_0⟩:=Kd.at_int HR0.out x5_1 p475 q475
          cases e475
          replace p475:=eq_true p475
          replace q475:=eq_true q475
          have p476:0≤(x5_1:Int):=od_
          have q476:x5_1<(l1.length:Int):=od_
          obtain ⟨ad476,e476,hx476_0⟩:=Kd.at_int HR1.out x5_1 p476 q476
          cases e476
          replace p476:=eq_true p476
          replace q476:=eq_true q476
          have p477:0≤(x5_1:Int):=od_
          have q477:x5_1<(l0.length:Int):=od_
          obtain ⟨ad477,e477,hx477_0⟩:=Kd.at_int HR0.out x5_1 p477 q477
          obtain rfl:ad475=ad477:=(by injection e477)
          replace p477:=eq_true p477
          replace q477:=eq_true q477
          have p478:0≤(x5_1:Int):=od_
          have q478:x5_1<(l1.length:Int):=od_
          obtain ⟨ad478,e478,hx478_0⟩:=Kd.at_int HR1.out x5_1 p478 q478
          obtain rfl:ad476=ad478:=(by injection e478)
          replace p478:=eq_true p478
          replace q478:=eq_true q478
          go_wp2
          repeat (go_quiet (fail);try go_wp2)
          go_ret
          exact ⟨by first|rfl|(simp;done)|(simp [*];done),by repeat (first|exact Drawn0.refl _|apply Drawn0.step)⟩
         ·rw [if_neg c11] at H
          have c11b0:decide ((rd l1 x5_1)<(rd l0 x5_1))=false:=decide_eq_false c11
          clear c11
          have H':=Aside0.mk H
          clear H
          have p475:0≤(x5_1:Int):=od_
          have q475:x5_1<(l0.length:Int):=od_
          obtain ⟨ad475,e475,hx475_0⟩:=Kd.at_int HR0.out x5_1 p475 q475
          cases e475
          replace p475:=eq_true p475
          replace q475:=eq_true q475
          have p476:0≤(x5_1:Int):=od_
          have q476:x5_1<(l1.length:Int):=od_
          obtain ⟨ad476,e476,hx476_0⟩:=Kd.at_int HR1.out x5_1 p476 q476
          cases e476
          replace p476:=eq_true p476
          replace q476:=eq_true q476
          have p477:0≤(x5_1:Int):=od_
          have q477:x5_1<(l0.length:Int):=od_
          obtain ⟨ad477,e477,hx477_0⟩:=Kd.at_int HR0.out x5_1 p477 q477
          obtain rfl:ad475=ad477:=(by injection e477)
          replace p477:=eq_true p477
          replace q477:=eq_true q477
          have p478:0≤(x5_1:Int):=od_
          have q478:x5_1<(l1.length:Int):=od_
          obtain ⟨ad478,e478,hx478_0⟩:=Kd.at_int HR1.out x5_1 p478 q478
          obtain rfl:ad476=ad478:=(by injection e478)
          replace p478:=eq_true p478
          replace q478:=eq_true q478
          go_wp2
          repeat (go_quiet (fail);try go_wp2)
          go_roundg k1
          case measure=>have:=HK1.out;omega
          case rel=>exact ⟨(wrap64 (x5_1 - 1)),(by first|rfl|(simp;done)|(simp [*];done)),H',⟨by have:=HK1.out;omega⟩,by repeat (first|exact Drawn0.refl _|apply Drawn0.step)⟩
       ·rw [if_neg c9] at H
        exact absurd H (by simp)
      ·rw [if_neg c8] at H
       exact absurd H (by simp)
     ·rw [if_neg c7] at H
      exact absurd H (by simp)
    ·rw [if_neg c6] at H
     have c6b0:decide (0≤x5_1)=false:=decide_eq_false c6
     clear c6
     obtain rfl:=Option.some.inj H
     go_wp2
     repeat (go_quiet (fail);try go_wp2)
     go_ret
     exact ⟨by first|rfl|(simp;done)|(simp [*];done),by repeat (first|exact Drawn0.refl _|apply Drawn0.step)⟩
 ·rw [if_neg c5] at H
  have c5b0:(t473 == t474)=false:=beq_eq_false_iff_ne.mpr c5
  have c5b1:(t473 != t474)=true:=bne_iff_ne.mpr c5
  by_cases c12:t473<t474
  ·rw [if_pos c12] at H
   have c12b0:decide (t473<t474)=true:=decide_eq_true c12
   clear c12
   obtain rfl:=Option.some.inj H
   go_enter Tryd.func35,Tryd.ntmps35
   go_wp2_with (first|(go_at_call 54;(try simp only [i64_w,i32_w]);(with_reducible refine (r02_size.calls k _ _ l0 t473 _ ?side1 ?side2 A3.out).mono ?_);(case side1=>exact cs_ HR0.out);(case side2=>exact HC0.out);rintro e w' ⟨rfl,⟨nd,rfl⟩⟩;(try first|exact ⟨rfl,_,World.drewN_drewN _ _ _⟩|exact ⟨rfl,_,Eq.trans (World.drewN_drewN _ _ _) (congrArg (World.drewN _) (Nat.add_assoc _ _ _))⟩))|(go_at_call 54;(try simp only [i64_w,i32_w]);(with_reducible refine (r02_size.calls k _ _ l1 t474 _ ?side1 ?side2 A4.out).mono ?_);(case side1=>exact cs_ HR1.out);(case side2=>exact HC1.out);rintro e w' ⟨rfl,⟨nd,rfl⟩⟩;(try first|exact ⟨rfl,_,World.drewN_drewN _ _ _⟩|exact ⟨rfl,_,Eq.trans (World.drewN_drewN _ _ _) (congrArg (World.drewN _) (Nat.add_assoc _ _ _))⟩)))
   repeat (go_quiet (first|(go_at_call 54;(try simp only [i64_w,i32_w]);(with_reducible refine (r02_size.calls k _ _ l0 t473 _ ?side1 ?side2 A3.out).mono ?_);(case side1=>exact cs_ HR0.out);(case side2=>exact HC0.out);rintro e w' ⟨rfl,⟨nd,rfl⟩⟩;(try first|exact ⟨rfl,_,World.drewN_drewN _ _ _⟩|exact ⟨rfl,_,Eq.trans (World.drewN_drewN _ _ _) (congrArg (World.drewN _) (Nat.add_assoc _ _ _))⟩))|(go_at_call 54;(try simp only [i64_w,i32_w]);(with_reducible refine (r02_size.calls k _ _ l1 t474 _ ?side1 ?side2 A4.out).mono ?_);(case side1=>exact cs_ HR1.out);(case side2=>exact HC1.out);rintro e w' ⟨rfl,⟨nd,rfl⟩⟩;(try first|exact ⟨rfl,_,World.drewN_drewN _ _ _⟩|exact ⟨rfl,_,Eq.trans (World.drewN_drewN _ _ _) (congrArg (World.drewN _) (Nat.add_assoc _ _ _))⟩)));try go_wp2_with (first|(go_at_call 54;(try simp only [i64_w,i32_w]);(with_reducible refine (r02_size.calls k _ _ l0 t473 _ ?side1 ?side2 A3.out).mono ?_);(case side1=>exact cs_ HR0.out);(case side2=>exact HC0.out);rintro e w' ⟨rfl,⟨nd,rfl⟩⟩;(try first|exact ⟨rfl,_,World.drewN_drewN _ _ _⟩|exact ⟨rfl,_,Eq.trans (World.drewN_drewN _ _ _) (congrArg (World.drewN _) (Nat.add_assoc _ _ _))⟩))|(go_at_call 54;(try simp only [i64_w,i32_w]);(with_reducible refine (r02_size.calls k _ _ l1 t474 _ ?side1 ?side2 A4.out).mono ?_);(case side1=>exact cs_ HR1.out);(case side2=>exact HC1.out);rintro e w' ⟨rfl,⟨nd,rfl⟩⟩;(try first|exact ⟨rfl,_,World.drewN_drewN _ _ _⟩|exact ⟨rfl,_,Eq.trans (World.drewN_drewN _ _ _) (congrArg (World.drewN _) (Nat.add_assoc _ _ _))⟩))))
   go_ret
   exact ⟨by first|rfl|(simp;done)|(simp [*];done),by repeat (first|exact Drawn0.refl _|apply Drawn0.step)⟩
  ·rw [if_neg c12] at H
   have c12b0:decide (t473<t474)=false:=decide_eq_false c12
   clear c12
   obtain rfl:=Option.some.inj H
   go_enter Tryd.func35,Tryd.ntmps35
   go_wp2_with (first|(go_at_call 54;(try simp only [i64_w,i32_w]);(with_reducible refine (r02_size.calls k _ _ l0 t473 _ ?side1 ?side2 A3.out).mono ?_);(case side1=>exact cs_ HR0.out);(case side2=>exact HC0.out);rintro e w' ⟨rfl,⟨nd,rfl⟩⟩;(try first|exact ⟨rfl,_,World.drewN_drewN _ _ _⟩|exact ⟨rfl,_,Eq.trans (World.drewN_drewN _ _ _) (congrArg (World.drewN _) (Nat.add_assoc _ _ _))⟩))|(go_at_call 54;(try simp only [i64_w,i32_w]);(with_reducible refine (r02_size.calls k _ _ l1 t474 _ ?side1 ?side2 A4.out).mono ?_);(case side1=>exact cs_ HR1.out);(case side2=>exact HC1.out);rintro e w' ⟨rfl,⟨nd,rfl⟩⟩;(try first|exact ⟨rfl,_,World.drewN_drewN _ _ _⟩|exact ⟨rfl,_,Eq.trans (World.drewN_drewN _ _ _) (congrArg (World.drewN _) (Nat.add_assoc _ _ _))⟩)))
   repeat (go_quiet (first|(go_at_call 54;(try simp only [i64_w,i32_w]);(with_reducible refine (r02_size.calls k _ _ l0 t473 _ ?side1 ?side2 A3.out).mono ?_);(case side1=>exact cs_ HR0.out);(case side2=>exact HC0.out);rintro e w' ⟨rfl,⟨nd,rfl⟩⟩;(try first|exact ⟨rfl,_,World.drewN_drewN _ _ _⟩|exact ⟨rfl,_,Eq.trans (World.drewN_drewN _ _ _) (congrArg (World.drewN _) (Nat.add_assoc _ _ _))⟩))|(go_at_call 54;(try simp only [i64_w,i32_w]);(with_reducible refine (r02_size.calls k _ _ l1 t474 _ ?side1 ?side2 A4.out).mono ?_);(case side1=>exact cs_ HR1.out);(case side2=>exact HC1.out);rintro e w' ⟨rfl,⟨nd,rfl⟩⟩;(try first|exact ⟨rfl,_,World.drewN_drewN _ _ _⟩|exact ⟨rfl,_,Eq.trans (World.drewN_drewN _ _ _) (congrArg (World.drewN _) (Nat.add_assoc _ _ _))⟩)));try go_wp2_with (first|(go_at_call 54;(try simp only [i64_w,i32_w]);(with_reducible refine (r02_size.calls k _ _ l0 t473 _ ?side1 ?side2 A3.out).mono ?_);(case side1=>exact cs_ HR0.out);(case side2=>exact HC0.out);rintro e w' ⟨rfl,⟨nd,rfl⟩⟩;(try first|exact ⟨rfl,_,World.drewN_drewN _ _ _⟩|exact ⟨rfl,_,Eq.trans (World.drewN_drewN _ _ _) (congrArg (World.drewN _) (Nat.add_assoc _ _ _))⟩))|(go_at_call 54;(try simp only [i64_w,i32_w]);(with_reducible refine (r02_size.calls k _ _ l1 t474 _ ?side1 ?side2 A4.out).mono ?_);(case side1=>exact cs_ HR1.out);(case side2=>exact HC1.out);rintro e w' ⟨rfl,⟨nd,rfl⟩⟩;(try first|exact ⟨rfl,_,World.drewN_drewN _ _ _⟩|exact ⟨rfl,_,Eq.trans (World.drewN_drewN _ _ _) (congrArg (World.drewN _) (Nat.add_assoc _ _ _))⟩))))
   go_ret
   exact ⟨by first|rfl|(simp;done)|(simp [*];done),by repeat (first|exact Drawn0.refl _|apply Drawn0.step)⟩

def r02_at.f (l0:List Int) (a1:Int):Option (Int):=if a1≥(l0.length:Int) then (some 0) else (if 0≤a1 then (if a1<(l0.length:Int) then (some (IntKind.u64.wrap (rd l0 a1))) else (none)) else (none))
set_option maxHeartbeats 3000000 in
set_option maxRecDepth 100000 in
theorem r02_at.calls (A0:Option Addr) (c0:Nat) (l0:List Int) (a1:Int) (r:Int) (w:World) (hr0:Kd.C (Kd.int .u32) w A0 l0.length l0) (hc0:l0.length≤c0) (h:r02_at.f l0 a1=some r) :
  Calls Tryd.prog 53 #[.slice A0 l0.length c0,.int .i64 a1] w fun e w'=>e = .returned (.int .u64 r)∧Drawn0 w w':=by
 have HR0:=Aside0.mk hr0
 have HC0:=Aside0.mk hc0
 clear hr0 hc0
 have H:=h
 unfold r02_at.f at H
 clear h
 by_cases c3:a1≥(l0.length:Int)
 ·rw [if_pos c3] at H
  have c3b0:decide ((l0.length:Int)≤a1)=true:=decide_eq_true c3
  clear c3
  obtain rfl:=Option.some.inj H
  go_enter Tryd.func53,Tryd.ntmps53
  go_wp2
  go_ret
  exact ⟨by first|rfl|(simp;done)|(simp [*];done),by repeat (first|exact Drawn0.refl _|apply Drawn0.step)⟩
 ·rw [if_neg c3] at H
  have c3b0:decide ((l0.length:Int)≤a1)=false:=decide_eq_false c3
  clear c3
  by_cases c4:0≤a1
  ·rw [if_pos c4] at H
   have c4b0:decide (0≤a1)=true:=decide_eq_true c4
   clear c4
   by_cases c5:a1<(l0.length:Int)
   ·rw [if_pos c5] at H
    have c5b0:decide (a1<(l0.length:Int))=true:=decide_eq_true c5
    clear c5
    obtain rfl:=Option.some.inj H
    have p479:0≤(a1:Int):=od_
    have q479:a1<(l0.length:Int):=od_
    obtain ⟨ad479,e479,hx479_0⟩:=Kd.at_int HR0.out a1 p479 q479
    cases e479
    replace p479:=eq_true p479
    replace q479:=eq_true q479
    go_enter Tryd.func53,Tryd.ntmps53
    go_wp2
    go_ret
    exact ⟨by first|rfl|(simp;done)|(simp [*];done),by repeat (first|exact Drawn0.refl _|apply Drawn0.step)⟩
   ·rw [if_neg c5] at H
    exact absurd H (by simp)
  ·rw [if_neg c4] at H
   exact absurd H (by simp)
def r02_Minus.l0:Nat→List Int→List Int→List Int→Int→Int→Option (List Int)
 | 0,_,_,_,_,_=>none
 | k+1,x0,x1,x5,x6,x7=>if x7<(x0.length:Int) then ((r02_at.f x0 x7).bind fun t480=>((r02_at.f x1 x7).bind fun t481=>(if x5.length<35184372088832 then (r02_Minus.l0 k x0 x1 (x5++[(IntKind.u64.wrap ((IntKind.u64.wrap ((IntKind.u64.wrap (t480+4294967296)) - t481)) - x6))%4294967296]) (IntKind.u64.wrap (1 - ((IntKind.u64.wrap ((IntKind.u64.wrap ((IntKind.u64.wrap (t480+4294967296)) - t481)) - x6)) / 4294967296))) (wrap64 (x7+1))) else (none)))) else ((r02_Norm.f k x5).bind fun t485=>(some t485))
def r02_Minus.f (k:Nat) (l0:List Int) (l1:List Int):Option (List Int):=r02_Minus.l0 k l0 l1 ([]:List Int) 0 0
set_option maxHeartbeats 3000000 in
set_option maxRecDepth 100000 in
theorem r02_Minus.calls (k:Nat) (A0:Option Addr) (c0:Nat) (l0:List Int) (A1:Option Addr) (c1:Nat) (l1:List Int) (r:List Int) (w:World) (hr0:Kd.C (Kd.int .u32) w A0 l0.length l0) (hc0:l0.length≤c0) (hr1:Kd.C (Kd.int .u32) w A1 l1.length l1) (hc1:l1.length≤c1) (h:r02_Minus.f k l0 l1=some r) :
  Calls Tryd.prog 36 #[.slice A0 l0.length c0,.slice A1 l1.length c1] w fun e w'=>∃ v0_:Value,e = .returned (v0_)∧Kd.R (Kd.int .u32) 68 w' w.heap.size (fun _=>True) v0_ r∧Below w.heap.size w w':=by
 have HR0:=Aside0.mk hr0
 have HC0:=Aside0.mk hc0
 clear hr0 hc0
 have HR1:=Aside0.mk hr1
 have HC1:=Aside0.mk hc1
 clear hr1 hc1
 have HB:=Aside0.mk (Below.refl w.heap.size w)
 have H:=h
 unfold r02_Minus.f at H
 clear h
 have H':=Aside0.mk H
 clear H
 go_enter Tryd.func36,Tryd.ntmps36
 go_wp2
 go_loopg [5,6,7] k (fun kq v5 v6 v7 w'=>∃ (x5_1:List Int) (x6_1:Int) (x7_1:Int),v6 = .int .u64 x6_1∧v7 = .int .i64 x7_1∧Aside0 (r02_Minus.l0 kq l0 l1 x5_1 x6_1 x7_1=some r)∧Aside0 (kq≤k)∧Aside0 (Kd.R (Kd.int .u32) 68 w' w.heap.size (fun _=>True) v5 x5_1)∧Aside0 (Below w.heap.size w w'))
 case atStart=>exact ⟨(([]:List Int)),(0),(0),(by first|rfl|(simp;done)|(simp [*];done)),(by first|rfl|(simp;done)|(simp [*];done)),H',⟨Nat.le_refl _⟩,⟨by first|exact Kd.R_nil _ _ _ _ _|exact Kd.N_nil _ _ _ _ _|exact Kd.V_nil _ _ _ _ _|exact Kd.Q_nil _ _ _ _ _|exact Kd.S_nil _ _ _ _ _⟩,⟨bl_ HB⟩⟩
 case round =>
  clear H'
  try clear c1
  try clear p2
  obtain ⟨x5_1,x6_1,x7_1,rfl,rfl,HA,HK1,HO_5,HB⟩:=hrel
  cases gk with
  | zero=>exact absurd HA.out (by simp [r02_Minus.l0])
  | succ k1 =>
   have H:=HA.out
   clear HA
   simp only [r02_Minus.l0] at H
   by_cases c3:x7_1<(l0.length:Int)
   ·rw [if_pos c3] at H
    have c3b0:decide (x7_1<(l0.length:Int))=true:=decide_eq_true c3
    clear c3
    obtain ⟨t480,A4,H⟩:=ob_ H
    try dsimp only at H
    obtain ⟨t481,A5,H⟩:=ob_ H
    try dsimp only at H
    by_cases c6:x5_1.length<35184372088832
    ·rw [if_pos c6] at H
     have LMc6:=Aside0.mk c6
     clear c6
     obtain ⟨y482,hy482⟩:∃ y_:List Int,y_=(x5_1++[(IntKind.u64.wrap ((IntKind.u64.wrap ((IntKind.u64.wrap (t480+4294967296)) - t481)) - x6_1))%4294967296]):=⟨_,rfl⟩
     replace H:(r02_Minus.l0 k1 l0 l1 y482 (IntKind.u64.wrap (1 - ((IntKind.u64.wrap ((IntKind.u64.wrap ((IntKind.u64.wrap (t480+4294967296)) - t481)) - x6_1)) / 4294967296))) (wrap64 (x7_1+1)))=some r:=by first|(rw [hy482];with_reducible exact H)|(have H2_:=(Option.bind_some _ _).symm.trans H;rw [hy482];with_reducible exact H2_)|(have H2_:=(Option.bind_some _ _).symm.trans H;with_reducible exact H2_)|with_reducible exact H|(rw [hy482];exact H)|exact H
     have Ny482:=Aside0.mk hy482
     clear hy482
     have H':=Aside0.mk H
     clear H
     go_wp2_with (first|((with_reducible refine gate_callee (f:=53) rfl ?_);refine goesM (some 17) Tryd.func53 #[.slice A0 l0.length c0,.int .i64 x7_1] ?_;(with_reducible refine (r02_at.calls _ _ l0 x7_1 t480 _ ?side1 ?side2 A4.out).mono ?_);(case side1=>exact cs_ (Kd.C_below HR0.out HB.out));(case side2=>exact HC0.out);rintro e w' ⟨rfl,⟨nd,rfl⟩⟩;refine ⟨_,rfl,?_⟩)|((with_reducible refine gate_callee (f:=53) rfl ?_);refine goesM (some 21) Tryd.func53 #[.slice A1 l1.length c1,.int .i64 x7_1] ?_;(with_reducible refine (r02_at.calls _ _ l1 x7_1 t481 _ ?side1 ?side2 A5.out).mono ?_);(case side1=>exact cs_ (Kd.C_below HR1.out (bl_ HB)));(case side2=>exact HC1.out);rintro e w' ⟨rfl,⟨nd,rfl⟩⟩;refine ⟨_,rfl,?_⟩)|((with_reducible refine gate_builtin (b:=.append) (xs:=#[.tmp 25,.tmp 28]) rfl ?_);at_builtin;refine Kd.R_append (Kd.int .u32) (w0:=w) w.heap.size rfl (.tmp 25) (.tmp 28) 28 68 (.int .u32 0) 4 rfl Tryd.underlying28 info68 rfl (by decide) (by omega) u5 x5_1 ((IntKind.u64.wrap ((IntKind.u64.wrap ((IntKind.u64.wrap (t480+4294967296)) - t481)) - x6_1))%4294967296) [.int .u32 ((IntKind.u64.wrap ((IntKind.u64.wrap ((IntKind.u64.wrap (t480+4294967296)) - t481)) - x6_1))%4294967296)] (fun _=>True) (fun _=>False) rfl rfl ?aP (fun _ hk=>hk.elim) ?aF ?aO ?aB ?aS ?aL ?_;(case aP=>exact rfl);(case aB=>exact (bl_ HB));(case aF=>exact (fun _ _=>trivial));(case aO=>exact (rr_ HO_5));(case aS=>exact (below_size (bl_ HB)));(case aL=>have:=LMc6.out;omega);intro v483 w7 ho hb hg hat;rw [← Ny482.out] at ho;replace HB:=Aside0.mk (hb);have HO484:=Aside0.mk (ho);clear ho hb hg hat))
     go_roundg k1
     case measure=>have:=HK1.out;omega
     case rel=>exact ⟨(y482),(IntKind.u64.wrap (1 - ((IntKind.u64.wrap ((IntKind.u64.wrap ((IntKind.u64.wrap (t480+4294967296)) - t481)) - x6_1)) / 4294967296))),(wrap64 (x7_1+1)),(by first|rfl|(simp;done)|(simp [*];done)),(by first|rfl|(simp;done)|(simp [*];done)),H',⟨by have:=HK1.out;omega⟩,⟨rr_ HO484⟩,⟨bl_ HB⟩⟩
    ·rw [if_neg c6] at H
     exact absurd H (by simp)
   ·rw [if_neg c3] at H
    have c3b0:decide (x7_1<(l0.length:Int))=false:=decide_eq_false c3
    clear c3
    obtain ⟨t485,A8,H⟩:=ob_ H
    try dsimp only at H
    obtain rfl:=Option.some.inj H
    obtain ⟨Ao9,co9,eo9⟩:=Kd.R_slice HO_5.out
    subst eo9
    go_wp2_with (first|((with_reducible refine gate_callee (f:=51) rfl ?_);refine goesM (some 34) Tryd.func51 #[.slice Ao9 x5_1.length co9] ?_;(with_reducible refine (r02_Norm.calls k1 _ _ x5_1 t485 _ ?side1 ?side2 A8.out).mono ?_);(case side1=>exact cs_ (Kd.R_reads' HO_5.out).2.2);(case side2=>exact (Kd.R_reads' HO_5.out).2.1);rintro e w10 ⟨v486,rfl,ho0,hb⟩;refine ⟨_,rfl,?_⟩;have HO487:=Aside0.mk (Kd.R_lower (Kd.R_new' ho0 (Kd.R_lt (rr_ HO_5))) (below_size (bl_ HB)));replace HO_5:=Aside0.mk (Kd.R_elder' (rr_ HO_5) (Kd.R_base ho0) hb);replace HB:=bs_ HB hb;(try clear hb);(try clear hb2);(try clear hk);(try clear hi);(try clear ho0)))
    go_ret
    exact ⟨_,rf_,by (with_reducible repeat (first|apply rA|apply rN|apply rD));exact Kd.R_mono HO487.out (fun _ hk=>trivial),bl_ HB⟩
def r02_digit.l0:Nat→List Int→List Int→Int→Int→List Int→Option (Int × List Int)
 | 0,_,_,_,_,_=>none
 | k+1,x0,x1,x6,x7,x8=>if (IntKind.u64.wrap (x7 - x6))>1 then ((r02_Times.f k x1 (([(IntKind.u64.wrap (Int.tdiv (IntKind.u64.wrap (x6+x7)) 2))%4294967296]:List Int))).bind fun t502=>((r02_Cmp.f k t502 x0).bind fun t505=>(if t505≤0 then (r02_digit.l0 k x0 x1 (IntKind.u64.wrap (Int.tdiv (IntKind.u64.wrap (x6+x7)) 2)) x7 t502) else (r02_digit.l0 k x0 x1 x6 (IntKind.u64.wrap (Int.tdiv (IntKind.u64.wrap (x6+x7)) 2)) x8)))) else (some ((x6)%4294967296,x8))
def r02_digit.f (k:Nat) (l0:List Int) (l1:List Int):Option (Int × List Int):=r02_digit.l0 k l0 l1 0 4294967296 ([]:List Int)
set_option maxHeartbeats 3000000 in
set_option maxRecDepth 100000 in
theorem r02_digit.calls (k:Nat) (A0:Option Addr) (c0:Nat) (l0:List Int) (A1:Option Addr) (c1:Nat) (l1:List Int) (r1:Int) (r2:List Int) (w:World) (hr0:Kd.C (Kd.int .u32) w A0 l0.length l0) (hc0:l0.length≤c0) (hr1:Kd.C (Kd.int .u32) w A1 l1.length l1) (hc1:l1.length≤c1) (h:r02_digit.f k l0 l1=some (r1,r2)) :
  Calls Tryd.prog 72 #[.slice A0 l0.length c0,.slice A1 l1.length c1] w fun e w'=>∃ v1_:Value,e = .returned (.tuple #[.int .u32 r1,v1_])∧Kd.R (Kd.int .u32) 68 w' w.heap.size (fun _=>True) v1_ r2∧Below w.heap.size w w':=by
 have HR0:=Aside0.mk hr0
 have HC0:=Aside0.mk hc0
 clear hr0 hc0
 have HR1:=Aside0.mk hr1
 have HC1:=Aside0.mk hc1
 clear hr1 hc1
 have HB:=Aside0.mk (Below.refl w.heap.size w)
 have H:=h
 unfold r02_digit.f at H
 clear h
 have H':=Aside0.mk H
 clear H
 go_enter Tryd.func72,Tryd.ntmps72
 go_wp2
 go_loopg [6,7,8] k (fun kq v6 v7 v8 w'=>∃ (x6_1:Int) (x7_1:Int) (x8_1:List Int),v6 = .int .u64 x6_1∧v7 = .int .u64 x7_1∧Aside0 (r02_digit.l0 kq l0 l1 x6_1 x7_1 x8_1=some (r1,r2))∧Aside0 (kq≤k)∧Aside0 (Kd.R (Kd.int .u32) 68 w' w.heap.size (fun _=>True) v8 x8_1)∧Aside0 (Below w.heap.size w w'))
 case atStart=>exact ⟨(0),(4294967296),(([]:List Int)),(by first|rfl|(simp;done)|(simp [*];done)),(by first|rfl|(simp;done)|(simp [*];done)),H',⟨Nat.le_refl _⟩,⟨by first|exact Kd.R_nil _ _ _ _ _|exact Kd.N_nil _ _ _ _ _|exact Kd.V_nil _ _ _ _ _|exact Kd.Q_nil _ _ _ _ _|exact Kd.S_nil _ _ _ _ _⟩,⟨bl_ HB⟩⟩
 case round =>
  clear H'
  try clear c1
  try clear p2
  obtain ⟨x6_1,x7_1,x8_1,rfl,rfl,HA,HK1,HO_8,HB⟩:=hrel
  cases gk with
  | zero=>exact absurd HA.out (by simp [r02_digit.l0])
  | succ k1 =>
   have H:=HA.out
   clear HA
   simp only [r02_digit.l0] at H
   by_cases c3:(IntKind.u64.wrap (x7_1 - x6_1))>1
   ·rw [if_pos c3] at H
    have c3b0:decide (1<(IntKind.u64.wrap (x7_1 - x6_1)))=true:=decide_eq_true c3
    clear c3
    obtain ⟨y499,hy499⟩:∃ y_:List Int,y_=(([(IntKind.u64.wrap (Int.tdiv (IntKind.u64.wrap (x6_1+x7_1)) 2))%4294967296]:List Int)):=⟨_,rfl⟩
    replace H:((r02_Times.f k1 l1 y499).bind fun t502=>((r02_Cmp.f k1 t502 l0).bind fun t505=>(if t505≤0 then (r02_digit.l0 k1 l0 l1 (IntKind.u64.wrap (Int.tdiv (IntKind.u64.wrap (x6_1+x7_1)) 2)) x7_1 t502) else (r02_digit.l0 k1 l0 l1 x6_1 (IntKind.u64.wrap (Int.tdiv (IntKind.u64.wrap (x6_1+x7_1)) 2)) x8_1))))=some (r1,r2):=by first|(rw [hy499];with_reducible exact H)|(have H2_:=(Option.bind_some _ _).symm.trans H;rw [hy499];with_reducible exact H2_)|(have H2_:=(Option.bind_some _ _).symm.trans H;with_reducible exact H2_)|with_reducible exact H|(rw [hy499];exact H)|exact H
    have Ny499:=Aside0.mk hy499
    clear hy499
    obtain ⟨t502,A4,H⟩:=ob_ H
    try dsimp only at H
    obtain ⟨t505,A5,H⟩:=ob_ H
    try dsimp only at H
    by_cases c6:t505≤0
    ·rw [if_pos c6] at H
     have c6b0:decide (t505≤0)=true:=decide_eq_true c6
     clear c6
     have H':=Aside0.mk H
     clear H
     go_wp2_with (first|((with_reducible refine gate_dst (N:=22) rfl ?_);refine Kd.R_lit (Kd.int .u32) _ 68 ?hg (N:=22) ?hd (xs:=([(IntKind.u64.wrap (Int.tdiv (IntKind.u64.wrap (x6_1+x7_1)) 2))%4294967296]:List Int)) (inner:=[.int .u32 ((IntKind.u64.wrap (Int.tdiv (IntKind.u64.wrap (x6_1+x7_1)) 2))%4294967296)]) (ok:=fun _=>True) (okp:=fun _=>True) ?hr ?hp (fun _ hk=>hk) trivial (Below.refl _ _) (Nat.le_refl _) (by simp) ?_;(case hd=>rfl);(case hg=>rfl);(case hr=>first|(go_simp;done)|(go_simp;rfl));(case hp=>exact (Reps.one (show Kd.M (Kd.int .u32) _ _ _ ((IntKind.u64.wrap (Int.tdiv (IntKind.u64.wrap (x6_1+x7_1)) 2))%4294967296) [.int .u32 ((IntKind.u64.wrap (Int.tdiv (IntKind.u64.wrap (x6_1+x7_1)) 2))%4294967296)] from rfl) (Reps.none _ _)));intro v500 w7 ho8 hb hg_ hnew_;clear hg_ hnew_;(first|rw [← Ny499.out] at ho8|(simp only [Int.reduceToNat] at ho8;rw [← Ny499.out] at ho8));have HO501:=Aside0.mk (Kd.R_lower (Kd.R_new' ho8 (Kd.R_lt (rr_ HO_8))) (below_size (bl_ HB)));replace HO_8:=Aside0.mk (Kd.R_elder' (rr_ HO_8) (Kd.R_base ho8) hb);replace HB:=bs_ HB hb;clear hb ho8;obtain ⟨Ao9,co9,eo9⟩:=Kd.R_slice HO501.out;subst eo9)|((with_reducible refine gate_callee (f:=52) rfl ?_);refine goesM (some 23) Tryd.func52 #[.slice A1 l1.length c1,.slice Ao9 y499.length co9] ?_;(with_reducible refine (r02_Times.calls k1 _ _ l1 _ _ y499 t502 _ ?side1 ?side2 ?side3 ?side4 A4.out).mono ?_);(case side1=>exact cs_ (Kd.C_below HR1.out HB.out));(case side2=>exact HC1.out);(case side3=>exact cs_ (Kd.R_reads' HO501.out).2.2);(case side4=>exact (Kd.R_reads' HO501.out).2.1);rintro e w10 ⟨v503,rfl,ho0,hb⟩;refine ⟨_,rfl,?_⟩;have HO504:=Aside0.mk (Kd.R_lower (Kd.R_new' (Kd.R_new' ho0 (Kd.R_lt (rr_ HO_8))) (Kd.R_lt (rr_ HO501))) (below_size (bl_ HB)));replace HO_8:=Aside0.mk (Kd.R_elder' (rr_ HO_8) (Kd.R_base ho0) hb);replace HO501:=Aside0.mk (Kd.R_elder' (rr_ HO501) (Kd.R_base ho0) hb);replace HB:=bs_ HB hb;(try clear hb);(try clear hb2);(try clear hk);(try clear hi);(try clear ho0);obtain ⟨Ao11,co11,eo11⟩:=Kd.R_slice HO504.out;subst eo11)|((with_reducible refine gate_callee (f:=35) rfl ?_);refine goesM (some 26) Tryd.func35 #[.slice Ao11 t502.length co11,.slice A0 l0.length c0] ?_;(with_reducible refine (r02_Cmp.calls k1 _ _ t502 _ _ l0 t505 _ ?side1 ?side2 ?side3 ?side4 A5.out).mono ?_);(case side1=>exact cs_ (Kd.R_reads' HO504.out).2.2);(case side2=>exact (Kd.R_reads' HO504.out).2.1);(case side3=>exact cs_ (Kd.C_below HR0.out HB.out));(case side4=>exact HC0.out);rintro e w' ⟨rfl,⟨nd,rfl⟩⟩;refine ⟨_,rfl,?_⟩))
     go_roundg k1
     case measure=>have:=HK1.out;omega
     case rel=>exact ⟨(IntKind.u64.wrap (Int.tdiv (IntKind.u64.wrap (x6_1+x7_1)) 2)),(x7_1),(t502),(by first|rfl|(simp;done)|(simp [*];done)),(by first|rfl|(simp;done)|(simp [*];done)),H',⟨by have:=HK1.out;omega⟩,⟨by (with_reducible repeat (first|apply rA|apply rN|apply rD));exact Kd.R_mono HO504.out (fun _ hk=>trivial)⟩,⟨bl_ HB⟩⟩
    ·rw [if_neg c6] at H
     have c6b0:decide (t505≤0)=false:=decide_eq_false c6
     clear c6
     have H':=Aside0.mk H
     clear H
     go_wp2_with (first|((with_reducible refine gate_dst (N:=22) rfl ?_);refine Kd.R_lit (Kd.int .u32) _ 68 ?hg (N:=22) ?hd (xs:=([(IntKind.u64.wrap (Int.tdiv (IntKind.u64.wrap (x6_1+x7_1)) 2))%4294967296]:List Int)) (inner:=[.int .u32 ((IntKind.u64.wrap (Int.tdiv (IntKind.u64.wrap (x6_1+x7_1)) 2))%4294967296)]) (ok:=fun _=>True) (okp:=fun _=>True) ?hr ?hp (fun _ hk=>hk) trivial (Below.refl _ _) (Nat.le_refl _) (by simp) ?_;(case hd=>rfl);(case hg=>rfl);(case hr=>first|(go_simp;done)|(go_simp;rfl));(case hp=>exact (Reps.one (show Kd.M (Kd.int .u32) _ _ _ ((IntKind.u64.wrap (Int.tdiv (IntKind.u64.wrap (x6_1+x7_1)) 2))%4294967296) [.int .u32 ((IntKind.u64.wrap (Int.tdiv (IntKind.u64.wrap (x6_1+x7_1)) 2))%4294967296)] from rfl) (Reps.none _ _)));intro v500 w12 ho13 hb hg_ hnew_;clear hg_ hnew_;(first|rw [← Ny499.out] at ho13|(simp only [Int.reduceToNat] at ho13;rw [← Ny499.out] at ho13));have HO501:=Aside0.mk (Kd.R_lower (Kd.R_new' ho13 (Kd.R_lt (rr_ HO_8))) (below_size (bl_ HB)));replace HO_8:=Aside0.mk (Kd.R_elder' (rr_ HO_8) (Kd.R_base ho13) hb);replace HB:=bs_ HB hb;clear hb ho13;obtain ⟨Ao14,co14,eo14⟩:=Kd.R_slice HO501.out;subst eo14)|((with_reducible refine gate_callee (f:=52) rfl ?_);refine goesM (some 23) Tryd.func52 #[.slice A1 l1.length c1,.slice Ao14 y499.length co14] ?_;(with_reducible refine (r02_Times.calls k1 _ _ l1 _ _ y499 t502 _ ?side1 ?side2 ?side3 ?side4 A4.out).mono ?_);(case side1=>exact cs_ (Kd.C_below HR1.out HB.out));(case side2=>exact HC1.out);(case side3=>exact cs_ (Kd.R_reads' HO501.out).2.2);(case side4=>exact (Kd.R_reads' HO501.out).2.1);rintro e w15 ⟨v503,rfl,ho0,hb⟩;refine ⟨_,rfl,?_⟩;have HO504:=Aside0.mk (Kd.R_lower (Kd.R_new' (Kd.R_new' ho0 (Kd.R_lt (rr_ HO_8))) (Kd.R_lt (rr_ HO501))) (below_size (bl_ HB)));replace HO_8:=Aside0.mk (Kd.R_elder' (rr_ HO_8) (Kd.R_base ho0) hb);replace HO501:=Aside0.mk (Kd.R_elder' (rr_ HO501) (Kd.R_base ho0) hb);replace HB:=bs_ HB hb;(try clear hb);(try clear hb2);(try clear hk);(try clear hi);(try clear ho0);obtain ⟨Ao16,co16,eo16⟩:=Kd.R_slice HO504.out;subst eo16)|((with_reducible refine gate_callee (f:=35) rfl ?_);refine goesM (some 26) Tryd.func35 #[.slice Ao16 t502.length co16,.slice A0 l0.length c0] ?_;(with_reducible refine (r02_Cmp.calls k1 _ _ t502 _ _ l0 t505 _ ?side1 ?side2 ?side3 ?side4 A5.out).mono ?_);(case side1=>exact cs_ (Kd.R_reads' HO504.out).2.2);(case side2=>exact (Kd.R_reads' HO504.out).2.1);(case side3=>exact cs_ (Kd.C_below HR0.out HB.out));(case side4=>exact HC0.out);rintro e w' ⟨rfl,⟨nd,rfl⟩⟩;refine ⟨_,rfl,?_⟩))
     go_roundg k1
     case measure=>have:=HK1.out;omega
     case rel=>exact ⟨(x6_1),(IntKind.u64.wrap (Int.tdiv (IntKind.u64.wrap (x6_1+x7_1)) 2)),(x8_1),(by first|rfl|(simp;done)|(simp [*];done)),(by first|rfl|(simp;done)|(simp [*];done)),H',⟨by have:=HK1.out;omega⟩,⟨by (with_reducible repeat (first|apply rA|apply rN|apply rD));exact Kd.R_mono HO_8.out (fun _ hk=>trivial)⟩,⟨bl_ HB⟩⟩
   ·rw [if_neg c3] at H
    have c3b0:decide (1<(IntKind.u64.wrap (x7_1 - x6_1)))=false:=decide_eq_false c3
    clear c3
    simp only [Option.some.injEq,Prod.mk.injEq] at H
    obtain ⟨rfl,rfl⟩:=H
    go_wp2
    go_ret2
    exact ⟨_,rf_,rr_ HO_8,bl_ HB⟩

def r02_Parts.l0:Nat→List Int→List Int→List Int→List Int→Int→Option (List Int × List Int)
 | 0,_,_,_,_,_=>none
 | k+1,x0,x1,x6,x7,x8=>if x8≥0 then (if 0≤x8 then (if x8<(x0.length:Int) then ((some (([rd x0 x8]:List Int):List Int)).bind fun y513=>(if y513.length+x7.length<35184372088832 then ((r02_Norm.f k (y513++x7)).bind fun t519=>((r02_Cmp.f k t519 x1).bind fun t522=>(if t522≥0 then ((r02_digit.f k t519 x1).bind fun bt523=>(if x8<(x6.length:Int) then ((r02_Minus.f k t519 bt523.2).bind fun t528=>(r02_Parts.l0 k x0 x1 (x6.set (x8:Int).toNat bt523.1) t528 (wrap64 (x8 - 1)))) else (none))) else (r02_Parts.l0 k x0 x1 x6 t519 (wrap64 (x8 - 1)))))) else (none))) else (none)) else (none)) else ((r02_Norm.f k x6).bind fun t509=>(some (t509,x7)))
def r02_Parts.f (k:Nat) (l0:List Int) (l1:List Int):Option (List Int × List Int):=if 0≤(l0.length:Int) then (if ((l0.length:Int):Int).toNat≤70368744177664 then (r02_Parts.l0 k l0 l1 (List.replicate ((l0.length:Int):Int).toNat 0) ([]:List Int) (wrap64 ((l0.length:Int) - 1))) else (none)) else (none)
set_option maxHeartbeats 3000000 in
set_option maxRecDepth 100000 in
theorem r02_Parts.calls (k:Nat) (A0:Option Addr) (c0:Nat) (l0:List Int) (A1:Option Addr) (c1:Nat) (l1:List Int) (r1:List Int) (r2:List Int) (w:World) (hr0:Kd.C (Kd.int .u32) w A0 l0.length l0) (hc0:l0.length≤c0) (hr1:Kd.C (Kd.int .u32) w A1 l1.length l1) (hc1:l1.length≤c1) (h:r02_Parts.f k l0 l1=some (r1,r2)) :
  Calls Tryd.prog 50 #[.slice A0 l0.length c0,.slice A1 l1.length c1] w fun e w'=>∃ v0_ v1_:Value,e = .returned (.tuple #[v0_,v1_])∧Kd.R (Kd.int .u32) 68 w' w.heap.size (fun k_=>some k_≠(v1_:Value).ownBlock) v0_ r1∧Kd.R (Kd.int .u32) 68 w' w.heap.size (fun k_=>some k_≠(v0_:Value).ownBlock) v1_ r2∧Below w.heap.size w w':=by
 have HR0:=Aside0.mk hr0
 have HC0:=Aside0.mk hc0
 clear hr0 hc0
 have HR1:=Aside0.mk hr1
 have HC1:=Aside0.mk hc1
 clear hr1 hc1
 have HB:=Aside0.mk (Below.refl w.heap.size w)
 have H:=h
 unfold r02_Parts.f at H
 clear h
 by_cases c3:0≤(l0.length:Int)
 ·rw [if_pos c3] at H
  have c3b0:=eq_true c3
  have c3b1:decide (0≤(l0.length:Int))=true:=decide_eq_true c3
  clear c3
  by_cases c4:((l0.length:Int):Int).toNat≤70368744177664
  ·rw [if_pos c4] at H
   have c4b0:=eq_true c4
   have c4b1:decide (((l0.length:Int):Int).toNat≤70368744177664)=true:=decide_eq_true c4
   clear c4
   obtain ⟨y506,hy506⟩:∃ y_:List Int,y_=(List.replicate ((l0.length:Int):Int).toNat 0):=⟨_,rfl⟩
   replace H:(r02_Parts.l0 k l0 l1 y506 ([]:List Int) (wrap64 ((l0.length:Int) - 1)))=some (r1,r2):=by first|(rw [hy506];with_reducible exact H)|(have H2_:=(Option.bind_some _ _).symm.trans H;rw [hy506];with_reducible exact H2_)|(have H2_:=(Option.bind_some _ _).symm.trans H;with_reducible exact H2_)|with_reducible exact H|(rw [hy506];exact H)|exact H
   have Ny506:=Aside0.mk hy506
   clear hy506
   have H':=Aside0.mk H
   clear H
   go_enter Tryd.func50,Tryd.ntmps50
   go_wp2_with (first|((with_reducible refine gate_dst (N:=14) rfl ?_);refine Kd.R_make (Kd.int .u32) _ 68 rfl (N:=14) rfl 28 _ _ rfl (l0.length:Int) rfl rfl Tryd.underlying28 (.int .u32 0) 4 info68 rfl (by decide) (by omega) 0 (ok:=fun _=>True) (okp:=fun _=>True) rfl (fun _ hk=>hk) trivial od_ (Nat.le_trans (Nat.mul_le_mul_right _ (od_:(l0.length:Int).toNat≤70368744177664)) (by omega)) (Below.refl _ _) (Nat.le_refl _) ?_;intro v507 w5 ho6 hb hg_ hnew_;clear hg_ hnew_;(first|rw [← Ny506.out] at ho6|(simp only [Int.reduceToNat] at ho6;rw [← Ny506.out] at ho6));have HO508:=Aside0.mk (Kd.R_lower ho6 (below_size (bl_ HB)));replace HB:=bs_ HB hb;clear hb ho6))
   go_loopg [7,8] k (fun kq v7 v8 w'=>∃ (x6_1:List Int) (x7_1:List Int) (x8_1:Int),v8 = .int .i64 x8_1∧Aside0 (r02_Parts.l0 kq l0 l1 x6_1 x7_1 x8_1=some (r1,r2))∧Aside0 (kq≤k)∧Aside0 (Kd.R (Kd.int .u32) 68 w' w.heap.size (fun k_=>some k_≠(v7:Value).ownBlock) v507 x6_1)∧Aside0 (Kd.R (Kd.int .u32) 68 w' w.heap.size (fun k_=>some k_≠(v507:Value).ownBlock) v7 x7_1)∧Aside0 (Below w.heap.size w w'))
   case atStart=>exact ⟨(y506),(([]:List Int)),(wrap64 ((l0.length:Int) - 1)),(by first|rfl|(simp;done)|(simp [*];done)),H',⟨Nat.le_refl _⟩,⟨by (with_reducible repeat (first|apply rA|apply rN|apply rD));exact Kd.R_mono HO508.out (fun _ hk=>(by simp [Value.ownBlock]))⟩,⟨by first|exact Kd.R_nil _ _ _ _ _|exact Kd.N_nil _ _ _ _ _|exact Kd.V_nil _ _ _ _ _|exact Kd.Q_nil _ _ _ _ _|exact Kd.S_nil _ _ _ _ _⟩,⟨bl_ HB⟩⟩
   case round =>
    clear H'
    try clear c1
    try clear p2
    try clear c3
    try clear c3b0
    try clear c3b1
    try clear c4
    try clear c4b0
    try clear c4b1
    try clear c5
    try clear p6
    obtain ⟨x6_1,x7_1,x8_1,rfl,HA,HK1,HO_6,HO_7,HB⟩:=hrel
    cases gk with
    | zero=>exact absurd HA.out (by simp [r02_Parts.l0])
    | succ k1 =>
     have H:=HA.out
     clear HA
     simp only [r02_Parts.l0] at H
     by_cases c7:x8_1≥0
     ·rw [if_pos c7] at H
      have c7b0:decide (0≤x8_1)=true:=decide_eq_true c7
      clear c7
      by_cases c8:0≤x8_1
      ·rw [if_pos c8] at H
       have c8b0:decide (0≤x8_1)=true:=decide_eq_true c8
       clear c8
       by_cases c9:x8_1<(l0.length:Int)
       ·rw [if_pos c9] at H
        have c9b0:decide (x8_1<(l0.length:Int))=true:=decide_eq_true c9
        clear c9
        obtain ⟨y513,hy513⟩:∃ y_:List Int,y_=(([rd l0 x8_1]:List Int)):=⟨_,rfl⟩
        replace H:(if y513.length+x7_1.length<35184372088832 then ((r02_Norm.f k1 (y513++x7_1)).bind fun t519=>((r02_Cmp.f k1 t519 l1).bind fun t522=>(if t522≥0 then ((r02_digit.f k1 t519 l1).bind fun bt523=>(if x8_1<(x6_1.length:Int) then ((r02_Minus.f k1 t519 bt523.2).bind fun t528=>(r02_Parts.l0 k1 l0 l1 (x6_1.set (x8_1:Int).toNat bt523.1) t528 (wrap64 (x8_1 - 1)))) else (none))) else (r02_Parts.l0 k1 l0 l1 x6_1 t519 (wrap64 (x8_1 - 1)))))) else (none))=some (r1,r2):=by first|(rw [hy513];with_reducible exact H)|(have H2_:=(Option.bind_some _ _).symm.trans H;rw [hy513];with_reducible exact H2_)|(have H2_:=(Option.bind_some _ _).symm.trans H;with_reducible exact H2_)|with_reducible exact H|(rw [hy513];exact H)|exact H
        have Ny513:=Aside0.mk hy513
        clear hy513
        by_cases c10:y513.length+x7_1.length<35184372088832
        ·rw [if_pos c10] at H
         have LMc10:=Aside0.mk c10
         clear c10
         obtain ⟨y516,hy516⟩:∃ y_:List Int,y_=(y513++x7_1):=⟨_,rfl⟩
         replace H:((r02_Norm.f k1 y516).bind fun t519=>((r02_Cmp.f k1 t519 l1).bind fun t522=>(if t522≥0 then ((r02_digit.f k1 t519 l1).bind fun bt523=>(if x8_1<(x6_1.length:Int) then ((r02_Minus.f k1 t519 bt523.2).bind fun t528=>(r02_Parts.l0 k1 l0 l1 (x6_1.set (x8_1:Int).toNat bt523.1) t528 (wrap64 (x8_1 - 1)))) else (none))) else (r02_Parts.l0 k1 l0 l1 x6_1 t519 (wrap64 (x8_1 - 1))))))=some (r1,r2):=by first|(rw [hy516];with_reducible exact H)|(have H2_:=(Option.bind_some _ _).symm.trans H;rw [hy516];with_reducible exact H2_)|(have H2_:=(Option.bind_some _ _).symm.trans H;with_reducible exact H2_)|with_reducible exact H|(rw [hy516];exact H)|exact H
         have Ny516:=Aside0.mk hy516
         clear hy516
         obtain ⟨t519,A11,H⟩:=ob_ H
         try dsimp only at H
         obtain ⟨t522,A12,H⟩:=ob_ H
         try dsimp only at H
         by_cases c13:t522≥0
         ·rw [if_pos c13] at H
          have c13b0:decide (0≤t522)=true:=decide_eq_true c13
          clear c13
          obtain ⟨⟨t523,t524⟩,A14,H⟩:=ob_ H
          try dsimp only at H
          by_cases c15:x8_1<(x6_1.length:Int)
          ·rw [if_pos c15] at H
           have c15b0:decide (x8_1<(x6_1.length:Int))=true:=decide_eq_true c15
           clear c15
           obtain ⟨y527,hy527⟩:∃ y_:List Int,y_=(x6_1.set (x8_1:Int).toNat t523):=⟨_,rfl⟩
           replace H:((r02_Minus.f k1 t519 t524).bind fun t528=>(r02_Parts.l0 k1 l0 l1 y527 t528 (wrap64 (x8_1 - 1))))=some (r1,r2):=by first|(rw [hy527];with_reducible exact H)|(have H2_:=(Option.bind_some _ _).symm.trans H;rw [hy527];with_reducible exact H2_)|(have H2_:=(Option.bind_some _ _).symm.trans H;with_reducible exact H2_)|with_reducible exact H|(rw [hy527];exact H)|exact H
           have Ny527:=Aside0.mk hy527
           clear hy527
           obtain ⟨t528,A17,H⟩:=ob_ H
           try dsimp only at H
           have H':=Aside0.mk H
           clear H
           have p512:0≤(x8_1:Int):=od_
           have q512:x8_1<(l0.length:Int):=od_
           obtain ⟨ad512,e512,hx512_0⟩:=Kd.at_int HR0.out x8_1 p512 q512
           cases e512
           replace hx512_0:=(HB.out.cell (World.block_lt_of_cell? w _ hx512_0)).trans hx512_0
           replace p512:=eq_true p512
           replace q512:=eq_true q512
           go_wp2_with (first|((with_reducible refine gate_dst (N:=26) rfl ?_);refine Kd.R_lit (Kd.int .u32) _ 68 ?hg (N:=26) ?hd (xs:=([rd l0 x8_1]:List Int)) (inner:=[.int .u32 (rd l0 x8_1)]) (ok:=fun _=>True) (okp:=fun _=>True) ?hr ?hp (fun _ hk=>hk) trivial (Below.refl _ _) (Nat.le_refl _) (by simp) ?_;(case hd=>rfl);(case hg=>rfl);(case hr=>first|(go_simp;done)|(go_simp;rfl));(case hp=>exact (Reps.one (show Kd.M (Kd.int .u32) _ _ _ (rd l0 x8_1) [.int .u32 (rd l0 x8_1)] from rfl) (Reps.none _ _)));intro v514 w18 ho19 hb hg_ hnew_;clear hg_ hnew_;(first|rw [← Ny513.out] at ho19|(simp only [Int.reduceToNat] at ho19;rw [← Ny513.out] at ho19));have HO515:=Aside0.mk (Kd.R_lower (Kd.R_new' (Kd.R_new' ho19 (Kd.R_lt (rr_ HO_6))) (Kd.R_lt (rr_ HO_7))) (below_size (bl_ HB)));replace HO_6:=Aside0.mk (Kd.R_elder' (rr_ HO_6) (Kd.R_base ho19) hb);replace HO_7:=Aside0.mk (Kd.R_elder' (rr_ HO_7) (Kd.R_base ho19) hb);replace HB:=bs_ HB hb;clear hb ho19;obtain ⟨Ao21,co21,eo21⟩:=Kd.R_slice HO_7.out;subst eo21)|((with_reducible refine gate_builtin (b:=.append) (xs:=#[.tmp 27,.tmp 28]) rfl ?_);at_builtin;refine Kd.R_append_rows (Kd.int .u32) (w0:=w) w.heap.size rfl (.tmp 27) (.tmp 28) 28 68 (.int .u32 0) 4 rfl Tryd.underlying28 info68 rfl (by decide) (by omega) v514 y513 x7_1 _ _ _ (fun k_=>some k_≠(v507:Value).ownBlock∧some k_≠(.slice Ao21 x7_1.length co21:Value).ownBlock) (fun _=>False) rfl rfl ?aO ?aR (fun _ _ h=>h) (fun _ h=>h.elim) ?aF ?aB ?aS ?aL ?_;(case aR=>repeat (first|exact (Kd.R_reads' HO_7.out).2.2|(with_reducible first|apply cA|apply cN|apply cD)));(case aB=>exact (bl_ HB));(case aF=>exact (fun k_ hk=>⟨Kd.fresh' (Kd.R_lt (rr_ HO_6)) k_ hk,Kd.fresh' (Kd.R_lt (rr_ HO_7)) k_ hk⟩));(case aO=>exact (by (with_reducible repeat (first|apply rA|apply rN|apply rD));exact Kd.R_mono HO515.out (fun _ hk=>by first|exact ⟨hk.1.2,hk.2⟩|(revert hk;simp only [and_imp];intros;(repeat' apply And.intro) <;> assumption))));(case aS=>exact (below_size (bl_ HB)));(case aL=>have:=LMc10.out;omega);intro v517 w20 ho hb hg hat;rw [← Ny516.out] at ho;replace HO_6:=Aside0.mk (Kd.R_after (ok:=(fun k_=>some k_≠(.slice Ao21 x7_1.length co21:Value).ownBlock)) (rr_ HO_6) hg hat);replace HO_7:=Aside0.mk (Kd.R_after (ok:=(fun k_=>some k_≠(v507:Value).ownBlock)) (rr_ HO_7) hg hat);replace HB:=Aside0.mk (hb);have HO518:=Aside0.mk (ho);clear ho hb hg hat;obtain ⟨Ao22,co22,eo22⟩:=Kd.R_slice HO518.out;subst eo22)|((with_reducible refine gate_callee (f:=51) rfl ?_);refine goesM (some 31) Tryd.func51 #[.slice Ao22 y516.length co22] ?_;(with_reducible refine (r02_Norm.calls k1 _ _ y516 t519 _ ?side1 ?side2 A11.out).mono ?_);(case side1=>exact cs_ (Kd.R_reads' HO518.out).2.2);(case side2=>exact (Kd.R_reads' HO518.out).2.1);rintro e w23 ⟨v520,rfl,ho0,hb⟩;refine ⟨_,rfl,?_⟩;have HO521:=Aside0.mk (Kd.R_lower (Kd.R_new' (Kd.R_new' (Kd.R_new' ho0 (Kd.R_lt (rr_ HO_6))) (Kd.R_lt (rr_ HO_7))) (Kd.R_lt (rr_ HO518))) (below_size (bl_ HB)));replace HO_6:=Aside0.mk (Kd.R_elder' (rr_ HO_6) (Kd.R_base ho0) hb);replace HO_7:=Aside0.mk (Kd.R_elder' (rr_ HO_7) (Kd.R_base ho0) hb);replace HO518:=Aside0.mk (Kd.R_elder' (rr_ HO518) (Kd.R_base ho0) hb);replace HB:=bs_ HB hb;(try clear hb);(try clear hb2);(try clear hk);(try clear hi);(try clear ho0);obtain ⟨Ao24,co24,eo24⟩:=Kd.R_slice HO521.out;subst eo24)|((with_reducible refine gate_callee (f:=35) rfl ?_);refine goesM (some 34) Tryd.func35 #[.slice Ao24 t519.length co24,.slice A1 l1.length c1] ?_;(with_reducible refine (r02_Cmp.calls k1 _ _ t519 _ _ l1 t522 _ ?side1 ?side2 ?side3 ?side4 A12.out).mono ?_);(case side1=>exact cs_ (Kd.R_reads' HO521.out).2.2);(case side2=>exact (Kd.R_reads' HO521.out).2.1);(case side3=>exact cs_ (Kd.C_below HR1.out HB.out));(case side4=>exact HC1.out);rintro e w' ⟨rfl,⟨nd,rfl⟩⟩;refine ⟨_,rfl,?_⟩;(try (rw [drewN_self w23];generalize hq_:World.drewN w23 _=w23;have n0_:Aside0 (Kd.R (Kd.int .u32) 68 w23 w.heap.size (fun k_=>some k_≠(.slice Ao24 t519.length co24:Value).ownBlock∧some k_≠(v507:Value).ownBlock∧some k_≠(.slice Ao21 x7_1.length co21:Value).ownBlock) (.slice Ao22 y516.length co22) y516):=⟨by rw [← hq_];exact (by (with_reducible repeat (first|apply rA|apply rN|apply rD));exact Kd.R_mono HO518.out (fun _ hk=>by first|exact ⟨hk.2,⟨hk.1.1,hk.1.2⟩⟩|(revert hk;simp only [and_imp];intros;(repeat' apply And.intro) <;> assumption)))⟩;have n1_:Aside0 (Kd.R (Kd.int .u32) 68 w23 w.heap.size (fun k_=>some k_≠(.slice Ao22 y516.length co22:Value).ownBlock∧some k_≠(v507:Value).ownBlock∧some k_≠(.slice Ao21 x7_1.length co21:Value).ownBlock) (.slice Ao24 t519.length co24) t519):=⟨by rw [← hq_];exact (by (with_reducible repeat (first|apply rA|apply rN|apply rD));exact Kd.R_mono HO521.out (fun _ hk=>by first|exact ⟨hk.2,⟨hk.1.1.2,hk.1.2⟩⟩|(revert hk;simp only [and_imp];intros;(repeat' apply And.intro) <;> assumption)))⟩;have n2_:Aside0 (Kd.R (Kd.int .u32) 68 w23 w.heap.size (fun k_=>some k_≠(.slice Ao22 y516.length co22:Value).ownBlock∧some k_≠(.slice Ao24 t519.length co24:Value).ownBlock∧some k_≠(.slice Ao21 x7_1.length co21:Value).ownBlock) v507 x6_1):=⟨by rw [← hq_];exact (by (with_reducible repeat (first|apply rA|apply rN|apply rD));exact Kd.R_mono HO_6.out (fun _ hk=>by first|exact ⟨hk.1.2,⟨hk.2,hk.1.1⟩⟩|(revert hk;simp only [and_imp];intros;(repeat' apply And.intro) <;> assumption)))⟩;have n3_:Aside0 (Kd.R (Kd.int .u32) 68 w23 w.heap.size (fun k_=>some k_≠(.slice Ao22 y516.length co22:Value).ownBlock∧some k_≠(.slice Ao24 t519.length co24:Value).ownBlock∧some k_≠(v507:Value).ownBlock) (.slice Ao21 x7_1.length co21) x7_1):=⟨by rw [← hq_];exact (by (with_reducible repeat (first|apply rA|apply rN|apply rD));exact Kd.R_mono HO_7.out (fun _ hk=>by first|exact ⟨hk.1.2,⟨hk.2,hk.1.1⟩⟩|(revert hk;simp only [and_imp];intros;(repeat' apply And.intro) <;> assumption)))⟩;have n4_:Aside0 (Below w.heap.size w w23):=⟨by rw [← hq_];exact (bl_ HB)⟩;clear HO518 HO521 HO_6 HO_7 HB hq_;have HO518:=n0_;have HO521:=n1_;have HO_6:=n2_;have HO_7:=n3_;have HB:=n4_;clear n0_ n1_ n2_ n3_ n4_)))|((with_reducible refine gate_callee (f:=72) rfl ?_);refine goesM (some 39) Tryd.func72 #[.slice Ao24 t519.length co24,.slice A1 l1.length c1] ?_;(with_reducible refine (r02_digit.calls k1 _ _ t519 _ _ l1 t523 t524 _ ?side1 ?side2 ?side3 ?side4 A14.out).mono ?_);(case side1=>exact cs_ (Kd.R_reads' HO521.out).2.2);(case side2=>exact (Kd.R_reads' HO521.out).2.1);(case side3=>exact cs_ (Kd.C_below HR1.out HB.out));(case side4=>exact HC1.out);rintro e w25 ⟨v525,rfl,ho0,hb⟩;refine ⟨_,rfl,?_⟩;have HO526:=Aside0.mk (Kd.R_lower (Kd.R_new' (Kd.R_new' (Kd.R_new' (Kd.R_new' ho0 (Kd.R_lt (rr_ HO_6))) (Kd.R_lt (rr_ HO_7))) (Kd.R_lt (rr_ HO518))) (Kd.R_lt (rr_ HO521))) (below_size (bl_ HB)));replace HO_6:=Aside0.mk (Kd.R_elder' (rr_ HO_6) (Kd.R_base ho0) hb);replace HO_7:=Aside0.mk (Kd.R_elder' (rr_ HO_7) (Kd.R_base ho0) hb);replace HO518:=Aside0.mk (Kd.R_elder' (rr_ HO518) (Kd.R_base ho0) hb);replace HO521:=Aside0.mk (Kd.R_elder' (rr_ HO521) (Kd.R_base ho0) hb);replace HB:=bs_ HB hb;(try clear hb);(try clear hb2);(try clear hk);(try clear hi);(try clear ho0);have p16:0≤(x8_1:Int):=od_;have q16:(x8_1:Int)<((x6_1.length:Int):Int):=od_;obtain ⟨go16,co16,eo16,gb16,gl16,cl16,HG16⟩:=Kd.R_form HO_6.out (by omega);(first|cases eo16|(injection eo16 with ea_ en_ ec_;(first|subst ea_|(injection ea_ with ea_;subst ea_));subst ec_;clear en_));have GB16:=Aside0.mk gb16;have GG16:=Aside0.mk HG16;clear gb16 gl16 HG16;obtain ⟨hx16_0,hf16_0⟩:=Kd.R_celln 0 HO_6.out (x8_1:Int) p16 q16;(try simp only [Int.toNat_natCast] at hx16_0 hf16_0);replace p16:=eq_true p16;replace q16:=eq_true q16;have n_:=Aside0.mk (Kd.R_mono (ok':=(fun k_=>some k_≠(.slice Ao21 x7_1.length co21:Value).ownBlock∧some k_≠(.slice Ao22 y516.length co22:Value).ownBlock∧some k_≠(.slice Ao24 t519.length co24:Value).ownBlock∧some k_≠(v525:Value).ownBlock)) HO_6.out (fun k_ hk=>by first|exact ⟨hk.1.1.1,⟨hk.1.1.2,⟨hk.1.2,hk.2⟩⟩⟩|(revert hk;simp only [and_imp];intros;(repeat' apply And.intro) <;> assumption)));clear HO_6;have HO_6:=n_;clear n_;obtain ⟨hy26_,hz26_⟩:=Kd.R_celln 0 HO_6.out (x8_1:Int) od_ od_;have HP26:=Kd.R_putg HO_6.out (x8_1:Int) t523)|((with_reducible refine gate_store (t:=68) (p:=45) rfl ?_);refine store_event (t:=68) (p:=45) (v:=?vo_w27) (w1:=(w25.setCell ⟨go16,(x8_1:Int).toNat,none⟩ (.int .u32 t523))) ?hg ?ho ?hn ?hr ?_;(case ho=>rfl);(case hg=>rfl);(case hn=>rfl);(case hr=>first|(go_simp;done)|(go_simp;rfl));intro w27 hw;have hg:w25.grownBy w27 (some go16):=(by rw [hw];exact HP26.2);have hp_:Kd.R (Kd.int .u32) 68 w27 w.heap.size (fun k_=>some k_≠(.slice Ao21 x7_1.length co21:Value).ownBlock∧some k_≠(.slice Ao22 y516.length co22:Value).ownBlock∧some k_≠(.slice Ao24 t519.length co24:Value).ownBlock∧some k_≠(v525:Value).ownBlock) (.slice (some ⟨go16,0,none⟩) x6_1.length co16) y527:=(by rw [hw,Ny527.out];exact HP26.1);clear HP26;replace HO_6:=Aside0.mk (hp_);replace HO_7:=Aside0.mk (Kd.R_after (v:=(.slice (some ⟨go16,0,none⟩) x6_1.length co16)) (v1:=(.slice (some ⟨go16,0,none⟩) x6_1.length co16)) (ok:=(fun k_=>some k_≠(.slice Ao22 y516.length co22:Value).ownBlock∧some k_≠(.slice Ao24 t519.length co24:Value).ownBlock∧some k_≠(v525:Value).ownBlock)) (by (with_reducible repeat (first|apply rA|apply rN|apply rD));exact Kd.R_mono HO_7.out (fun _ hk=>by first|exact ⟨⟨hk.1.1.2,⟨hk.1.2,hk.2⟩⟩,hk.1.1.1⟩|(revert hk;simp only [and_imp];intros;(repeat' apply And.intro) <;> assumption))) hg (.inl rfl));replace HO518:=Aside0.mk (Kd.R_after (v:=(.slice (some ⟨go16,0,none⟩) x6_1.length co16)) (v1:=(.slice (some ⟨go16,0,none⟩) x6_1.length co16)) (ok:=(fun k_=>some k_≠(.slice Ao21 x7_1.length co21:Value).ownBlock∧some k_≠(.slice Ao24 t519.length co24:Value).ownBlock∧some k_≠(v525:Value).ownBlock)) (by (with_reducible repeat (first|apply rA|apply rN|apply rD));exact Kd.R_mono HO518.out (fun _ hk=>by first|exact ⟨⟨hk.1.1.2,⟨hk.1.2,hk.2⟩⟩,hk.1.1.1⟩|(revert hk;simp only [and_imp];intros;(repeat' apply And.intro) <;> assumption))) hg (.inl rfl));replace HO521:=Aside0.mk (Kd.R_after (v:=(.slice (some ⟨go16,0,none⟩) x6_1.length co16)) (v1:=(.slice (some ⟨go16,0,none⟩) x6_1.length co16)) (ok:=(fun k_=>some k_≠(.slice Ao21 x7_1.length co21:Value).ownBlock∧some k_≠(.slice Ao22 y516.length co22:Value).ownBlock∧some k_≠(v525:Value).ownBlock)) (by (with_reducible repeat (first|apply rA|apply rN|apply rD));exact Kd.R_mono HO521.out (fun _ hk=>by first|exact ⟨⟨hk.1.1.2,⟨hk.1.2,hk.2⟩⟩,hk.1.1.1.2⟩|(revert hk;simp only [and_imp];intros;(repeat' apply And.intro) <;> assumption))) hg (.inl rfl));replace HO526:=Aside0.mk (Kd.R_after (v:=(.slice (some ⟨go16,0,none⟩) x6_1.length co16)) (v1:=(.slice (some ⟨go16,0,none⟩) x6_1.length co16)) (ok:=(fun k_=>some k_≠(.slice Ao21 x7_1.length co21:Value).ownBlock∧some k_≠(.slice Ao22 y516.length co22:Value).ownBlock∧some k_≠(.slice Ao24 t519.length co24:Value).ownBlock)) (by (with_reducible repeat (first|apply rA|apply rN|apply rD));exact Kd.R_mono HO526.out (fun _ hk=>by first|exact ⟨⟨hk.1.1.2,⟨hk.1.2,hk.2⟩⟩,hk.1.1.1.2⟩|(revert hk;simp only [and_imp];intros;(repeat' apply And.intro) <;> assumption))) hg (.inl rfl));replace HB:=Aside0.mk ((by rw [hw];exact below_set (HB.out) GB16.out:Below w.heap.size w w27));clear hg hw hp_;obtain ⟨Ao28,co28,eo28⟩:=Kd.R_slice HO526.out;subst eo28)|((with_reducible refine gate_callee (f:=36) rfl ?_);refine goesM (some 48) Tryd.func36 #[.slice Ao24 t519.length co24,.slice Ao28 t524.length co28] ?_;(with_reducible refine (r02_Minus.calls k1 _ _ t519 _ _ t524 t528 _ ?side1 ?side2 ?side3 ?side4 A17.out).mono ?_);(case side1=>exact cs_ (Kd.R_reads' HO521.out).2.2);(case side2=>exact (Kd.R_reads' HO521.out).2.1);(case side3=>exact cs_ (Kd.R_reads' HO526.out).2.2);(case side4=>exact (Kd.R_reads' HO526.out).2.1);rintro e w29 ⟨v529,rfl,ho0,hb⟩;refine ⟨_,rfl,?_⟩;have HO530:=Aside0.mk (Kd.R_lower (Kd.R_new' (Kd.R_new' (Kd.R_new' (Kd.R_new' (Kd.R_new' ho0 (Kd.R_lt (rr_ HO_6))) (Kd.R_lt (rr_ HO_7))) (Kd.R_lt (rr_ HO518))) (Kd.R_lt (rr_ HO521))) (Kd.R_lt (rr_ HO526))) (below_size (bl_ HB)));replace HO_6:=Aside0.mk (Kd.R_elder' (rr_ HO_6) (Kd.R_base ho0) hb);replace HO_7:=Aside0.mk (Kd.R_elder' (rr_ HO_7) (Kd.R_base ho0) hb);replace HO518:=Aside0.mk (Kd.R_elder' (rr_ HO518) (Kd.R_base ho0) hb);replace HO521:=Aside0.mk (Kd.R_elder' (rr_ HO521) (Kd.R_base ho0) hb);replace HO526:=Aside0.mk (Kd.R_elder' (rr_ HO526) (Kd.R_base ho0) hb);replace HB:=bs_ HB hb;(try clear hb);(try clear hb2);(try clear hk);(try clear hi);(try clear ho0)))
           go_roundg k1
           case measure=>have:=HK1.out;omega
           case rel=>exact ⟨(y527),(t528),(wrap64 (x8_1 - 1)),(by first|rfl|(simp;done)|(simp [*];done)),H',⟨by have:=HK1.out;omega⟩,⟨by (with_reducible repeat (first|apply rA|apply rN|apply rD));exact Kd.R_mono HO_6.out (fun _ hk=>hk.2)⟩,⟨by (with_reducible repeat (first|apply rA|apply rN|apply rD));exact Kd.R_mono HO530.out (fun _ hk=>hk.1.1.1.1.2)⟩,⟨bl_ HB⟩⟩
          ·rw [if_neg c15] at H
           exact absurd H (by simp)
         ·rw [if_neg c13] at H
          have c13b0:decide (0≤t522)=false:=decide_eq_false c13
          clear c13
          have H':=Aside0.mk H
          clear H
          have p512:0≤(x8_1:Int):=od_
          have q512:x8_1<(l0.length:Int):=od_
          obtain ⟨ad512,e512,hx512_0⟩:=Kd.at_int HR0.out x8_1 p512 q512
          cases e512
          replace hx512_0:=(HB.out.cell (World.block_lt_of_cell? w _ hx512_0)).trans hx512_0
          replace p512:=eq_true p512
          replace q512:=eq_true q512
          go_wp2_with (first|((with_reducible refine gate_dst (N:=26) rfl ?_);refine Kd.R_lit (Kd.int .u32) _ 68 ?hg (N:=26) ?hd (xs:=([rd l0 x8_1]:List Int)) (inner:=[.int .u32 (rd l0 x8_1)]) (ok:=fun _=>True) (okp:=fun _=>True) ?hr ?hp (fun _ hk=>hk) trivial (Below.refl _ _) (Nat.le_refl _) (by simp) ?_;(case hd=>rfl);(case hg=>rfl);(case hr=>first|(go_simp;done)|(go_simp;rfl));(case hp=>exact (Reps.one (show Kd.M (Kd.int .u32) _ _ _ (rd l0 x8_1) [.int .u32 (rd l0 x8_1)] from rfl) (Reps.none _ _)));intro v514 w30 ho31 hb hg_ hnew_;clear hg_ hnew_;(first|rw [← Ny513.out] at ho31|(simp only [Int.reduceToNat] at ho31;rw [← Ny513.out] at ho31));have HO515:=Aside0.mk (Kd.R_lower (Kd.R_new' (Kd.R_new' ho31 (Kd.R_lt (rr_ HO_6))) (Kd.R_lt (rr_ HO_7))) (below_size (bl_ HB)));replace HO_6:=Aside0.mk (Kd.R_elder' (rr_ HO_6) (Kd.R_base ho31) hb);replace HO_7:=Aside0.mk (Kd.R_elder' (rr_ HO_7) (Kd.R_base ho31) hb);replace HB:=bs_ HB hb;clear hb ho31;obtain ⟨Ao33,co33,eo33⟩:=Kd.R_slice HO_7.out;subst eo33)|((with_reducible refine gate_builtin (b:=.append) (xs:=#[.tmp 27,.tmp 28]) rfl ?_);at_builtin;refine Kd.R_append_rows (Kd.int .u32) (w0:=w) w.heap.size rfl (.tmp 27) (.tmp 28) 28 68 (.int .u32 0) 4 rfl Tryd.underlying28 info68 rfl (by decide) (by omega) v514 y513 x7_1 _ _ _ (fun k_=>some k_≠(v507:Value).ownBlock∧some k_≠(.slice Ao33 x7_1.length co33:Value).ownBlock) (fun _=>False) rfl rfl ?aO ?aR (fun _ _ h=>h) (fun _ h=>h.elim) ?aF ?aB ?aS ?aL ?_;(case aR=>repeat (first|exact (Kd.R_reads' HO_7.out).2.2|(with_reducible first|apply cA|apply cN|apply cD)));(case aB=>exact (bl_ HB));(case aF=>exact (fun k_ hk=>⟨Kd.fresh' (Kd.R_lt (rr_ HO_6)) k_ hk,Kd.fresh' (Kd.R_lt (rr_ HO_7)) k_ hk⟩));(case aO=>exact (by (with_reducible repeat (first|apply rA|apply rN|apply rD));exact Kd.R_mono HO515.out (fun _ hk=>by first|exact ⟨hk.1.2,hk.2⟩|(revert hk;simp only [and_imp];intros;(repeat' apply And.intro) <;> assumption))));(case aS=>exact (below_size (bl_ HB)));(case aL=>have:=LMc10.out;omega);intro v517 w32 ho hb hg hat;rw [← Ny516.out] at ho;replace HO_6:=Aside0.mk (Kd.R_after (ok:=(fun k_=>some k_≠(.slice Ao33 x7_1.length co33:Value).ownBlock)) (rr_ HO_6) hg hat);replace HO_7:=Aside0.mk (Kd.R_after (ok:=(fun k_=>some k_≠(v507:Value).ownBlock)) (rr_ HO_7) hg hat);replace HB:=Aside0.mk (hb);have HO518:=Aside0.mk (ho);clear ho hb hg hat;obtain ⟨Ao34,co34,eo34⟩:=Kd.R_slice HO518.out;subst eo34)|((with_reducible refine gate_callee (f:=51) rfl ?_);refine goesM (some 31) Tryd.func51 #[.slice Ao34 y516.length co34] ?_;(with_reducible refine (r02_Norm.calls k1 _ _ y516 t519 _ ?side1 ?side2 A11.out).mono ?_);(case side1=>exact cs_ (Kd.R_reads' HO518.out).2.2);(case side2=>exact (Kd.R_reads' HO518.out).2.1);rintro e w35 ⟨v520,rfl,ho0,hb⟩;refine ⟨_,rfl,?_⟩;have HO521:=Aside0.mk (Kd.R_lower (Kd.R_new' (Kd.R_new' (Kd.R_new' ho0 (Kd.R_lt (rr_ HO_6))) (Kd.R_lt (rr_ HO_7))) (Kd.R_lt (rr_ HO518))) (below_size (bl_ HB)));replace HO_6:=Aside0.mk (Kd.R_elder' (rr_ HO_6) (Kd.R_base ho0) hb);replace HO_7:=Aside0.mk (Kd.R_elder' (rr_ HO_7) (Kd.R_base ho0) hb);replace HO518:=Aside0.mk (Kd.R_elder' (rr_ HO518) (Kd.R_base ho0) hb);replace HB:=bs_ HB hb;(try clear hb);(try clear hb2);(try clear hk);(try clear hi);(try clear ho0);obtain ⟨Ao36,co36,eo36⟩:=Kd.R_slice HO521.out;subst eo36)|((with_reducible refine gate_callee (f:=35) rfl ?_);refine goesM (some 34) Tryd.func35 #[.slice Ao36 t519.length co36,.slice A1 l1.length c1] ?_;(with_reducible refine (r02_Cmp.calls k1 _ _ t519 _ _ l1 t522 _ ?side1 ?side2 ?side3 ?side4 A12.out).mono ?_);(case side1=>exact cs_ (Kd.R_reads' HO521.out).2.2);(case side2=>exact (Kd.R_reads' HO521.out).2.1);(case side3=>exact cs_ (Kd.C_below HR1.out HB.out));(case side4=>exact HC1.out);rintro e w' ⟨rfl,⟨nd,rfl⟩⟩;refine ⟨_,rfl,?_⟩))
          go_roundg k1
          case measure=>have:=HK1.out;omega
          case rel=>exact ⟨(x6_1),(t519),(wrap64 (x8_1 - 1)),(by first|rfl|(simp;done)|(simp [*];done)),H',⟨by have:=HK1.out;omega⟩,⟨by (with_reducible repeat (first|apply rA|apply rN|apply rD));exact Kd.R_mono HO_6.out (fun _ hk=>hk.2)⟩,⟨by (with_reducible repeat (first|apply rA|apply rN|apply rD));exact Kd.R_mono HO521.out (fun _ hk=>hk.1.1.2)⟩,⟨bl_ HB⟩⟩
        ·rw [if_neg c10] at H
         exact absurd H (by simp)
       ·rw [if_neg c9] at H
        exact absurd H (by simp)
      ·rw [if_neg c8] at H
       exact absurd H (by simp)
     ·rw [if_neg c7] at H
      have c7b0:decide (0≤x8_1)=false:=decide_eq_false c7
      clear c7
      obtain ⟨t509,A37,H⟩:=ob_ H
      try dsimp only at H
      simp only [Option.some.injEq,Prod.mk.injEq] at H
      obtain ⟨rfl,rfl⟩:=H
      obtain ⟨Ao38,co38,eo38⟩:=Kd.R_slice HO_6.out
      subst eo38
      go_wp2_with (first|((with_reducible refine gate_callee (f:=51) rfl ?_);refine goesM (some 50) Tryd.func51 #[.slice Ao38 x6_1.length co38] ?_;(with_reducible refine (r02_Norm.calls k1 _ _ x6_1 t509 _ ?side1 ?side2 A37.out).mono ?_);(case side1=>exact cs_ (Kd.R_reads' HO_6.out).2.2);(case side2=>exact (Kd.R_reads' HO_6.out).2.1);rintro e w39 ⟨v510,rfl,ho0,hb⟩;refine ⟨_,rfl,?_⟩;have HO511:=Aside0.mk (Kd.R_lower (Kd.R_new' (Kd.R_new' ho0 (Kd.R_lt (rr_ HO_6))) (Kd.R_lt (rr_ HO_7))) (below_size (bl_ HB)));replace HO_6:=Aside0.mk (Kd.R_elder' (rr_ HO_6) (Kd.R_base ho0) hb);replace HO_7:=Aside0.mk (Kd.R_elder' (rr_ HO_7) (Kd.R_base ho0) hb);replace HB:=bs_ HB hb;(try clear hb);(try clear hb2);(try clear hk);(try clear hi);(try clear ho0)))
      go_ret2
      exact ⟨_,_,rf_,by (with_reducible repeat (first|apply rA|apply rN|apply rD));exact Kd.R_mono HO511.out (fun _ hk=>hk.2),by (with_reducible repeat (first|apply rA|apply rN|apply rD));exact Kd.R_mono HO_7.out (fun _ hk=>hk.2),bl_ HB⟩
  ·rw [if_neg c4] at H
   exact absurd H (by simp)
 ·rw [if_neg c3] at H
  exact absurd H (by simp)
def r02_Moved.j0:Nat→List Int→Int→Int→Bool→Option (List Int)
 | 0,_,_,_,_=>none
 | k+1,x0,x1,x5,x21=>if x21=true then (some ([]:List Int)) else (if 0≤x5 then (if x5≤(x0.length:Int) then ((r02_Norm.f k (x0.drop (x5:Int).toNat)).bind fun t532=>(if 0≤(Int.tmod (wrap64 (-x1)) 32) then ((r02_Parts.f k t532 (([shl .u32 1 (Int.tmod (wrap64 (-x1)) 32)]:List Int))).bind fun bt538=>(some bt538.1)) else (none))) else (none)) else (none))
def r02_Moved.f (k:Nat) (l0:List Int) (a1:Int):Option (List Int):=if a1<0 then (if (wrap64 (Int.tdiv (wrap64 (-a1)) 32))≥(l0.length:Int) then (r02_Moved.j0 k l0 a1 (wrap64 (Int.tdiv (wrap64 (-a1)) 32)) true) else (r02_Moved.j0 k l0 a1 (wrap64 (Int.tdiv (wrap64 (-a1)) 32)) (decide (a1<(-1099511627776))))) else (if 0≤(wrap64 (Int.tdiv a1 32)) then (if (wrap64 (Int.tdiv a1 32):Int).toNat≤70368744177664 then ((some (List.replicate (wrap64 (Int.tdiv a1 32):Int).toNat 0:List Int)).bind fun y544=>(if y544.length+l0.length<35184372088832 then (if 0≤(Int.tmod a1 32) then ((r02_Times.f k (y544++l0) (([shl .u32 1 (Int.tmod a1 32)]:List Int))).bind fun t553=>(some t553)) else (none)) else (none))) else (none)) else (none))
def r02_Moved.T5:Bool × List (List Nat × List Nat):=(true,[([],[]),([],[]),([0,1],[0,1]),([2],[2]),([],[]),([4],[4]),([5],[5]),([6],[6]),([7],[7]),([3,8,3],[3,8]),([9],[9]),([10],[10]),([10],[10]),([11,9,0,1,2,3,4,5,6,7,8,9,10,11],[11]),([12,13,0,1,2,3,4,5,6,7,8,9,10,11,12,13],[12])])
def r02_Moved.B5:List Nat:=[0,0,3,7,0,16,48,112,240,511,1023,2047,2047,4095,16383]
theorem r02_Moved.tab5:rtab .any (opsOf Tryd.f32 5)=r02_Moved.T5:=by kernel_rfl
theorem r02_Moved.bits5:waitsOk r02_Moved.T5.2 r02_Moved.B5=true:=by kernel_rfl
set_option maxHeartbeats 3000000 in
set_option maxRecDepth 100000 in
theorem r02_Moved.calls (k:Nat) (A0:Option Addr) (c0:Nat) (l0:List Int) (a1:Int) (r:List Int) (w:World) (hr0:Kd.C (Kd.int .u32) w A0 l0.length l0) (hc0:l0.length≤c0) (h:r02_Moved.f k l0 a1=some r) :
  Calls Tryd.prog 32 #[.slice A0 l0.length c0,.int .i64 a1] w fun e w'=>∃ v0_:Value,e = .returned (v0_)∧Kd.R (Kd.int .u32) 68 w' w.heap.size (fun _=>True) v0_ r∧Below w.heap.size w w':=by
 have HR0:=Aside0.mk hr0
 have HC0:=Aside0.mk hc0
 clear hr0 hc0
 have HB:=Aside0.mk (Below.refl w.heap.size w)
 have H:=h
 unfold r02_Moved.f at H
 clear h
 by_cases c3:a1<0
 ·rw [if_pos c3] at H
  have c3b0:decide (a1<0)=true:=decide_eq_true c3
  clear c3
  have HC4:=Aside0.mk H
  clear H
  go_enter Tryd.func32,Tryd.ntmps32
  go_upto_region 3 with (fail)
  obtain ⟨bz5,hbz5⟩:∃ b_:Bool,decide (a1<0)=b_:=⟨_,rfl⟩
  (try rw [hbz5])
  go_cut [21] (fun v21 wc=>∃ (kq:Nat) (x21_3:Bool),v21 = .bool x21_3∧Aside0 (r02_Moved.j0 kq l0 a1 (wrap64 (Int.tdiv (wrap64 (-a1)) 32)) x21_3=some r)∧Aside0 (kq≤k)∧Aside0 (Below w.heap.size w wc))
  case first =>
   have H:=HC4.out
   clear HC4
   by_cases c6:(wrap64 (Int.tdiv (wrap64 (-a1)) 32))≥(l0.length:Int)
   ·rw [if_pos c6] at H
    have c6b0:decide ((l0.length:Int)≤(wrap64 (Int.tdiv (wrap64 (-a1)) 32)))=true:=decide_eq_true c6
    clear c6
    (first|rw [c6b0]|(simp only [i64_w,i32_w];rw [c6b0])|rw [c6b1]|skip)
    have H':=Aside0.mk H
    clear H
    go_wp2
    go_meet
    case rel=>exact ⟨_,(true),(by first|rfl|(simp;done)|(simp [*];done)),H',⟨by first|omega|exact Nat.le_refl _⟩,⟨bl_ HB⟩⟩
   ·rw [if_neg c6] at H
    have c6b0:decide ((l0.length:Int)≤(wrap64 (Int.tdiv (wrap64 (-a1)) 32)))=false:=decide_eq_false c6
    clear c6
    (first|rw [c6b0]|(simp only [i64_w,i32_w];rw [c6b0])|rw [c6b1]|skip)
    have H':=Aside0.mk H
    clear H
    go_wp2
    go_meet
    case rel=>exact ⟨_,(decide (a1<(-1099511627776))),(by first|rfl|(simp;done)|(simp [*];done)),H',⟨by first|omega|exact Nat.le_refl _⟩,⟨bl_ HB⟩⟩
  case rest =>
   clear HC4
   try clear p2
   try clear c3
   try clear c3b0
   try clear c6
   try clear c6b0
   try clear c6b1
   try clear p6
   obtain ⟨kq,x21_3,rfl,HA,HJ3,HB⟩:=hcut
   cases kq with
   | zero=>exact absurd HA.out (by simp [r02_Moved.j0])
   | succ kj3 =>
    have H:=HA.out
    clear HA
    simp only [r02_Moved.j0] at H
    by_cases c7:x21_3=true
    ·subst c7
     have H1:(some ([]:List Int))=some r:=by rw [if_pos rfl] at H;exact H
     clear H
     have H:=H1
     clear H1
     obtain rfl:=Option.some.inj H
     go_wp2
     go_ret
     exact ⟨_,rf_,by first|exact Kd.R_nil _ _ _ _ _|exact Kd.N_nil _ _ _ _ _|exact Kd.V_nil _ _ _ _ _|exact Kd.Q_nil _ _ _ _ _|exact Kd.S_nil _ _ _ _ _,bl_ HB⟩
    ·replace c7:=Bool.eq_false_iff.mpr c7
     subst c7
     have H1:(if 0≤(wrap64 (Int.tdiv (wrap64 (-a1)) 32)) then (if (wrap64 (Int.tdiv (wrap64 (-a1)) 32))≤(l0.length:Int) then ((r02_Norm.f kj3 (l0.drop ((wrap64 (Int.tdiv (wrap64 (-a1)) 32)):Int).toNat)).bind fun t532=>(if 0≤(Int.tmod (wrap64 (-a1)) 32) then ((r02_Parts.f kj3 t532 (([shl .u32 1 (Int.tmod (wrap64 (-a1)) 32)]:List Int))).bind fun bt538=>(some bt538.1)) else (none))) else (none)) else (none))=some r:=by rw [if_neg (show ¬ (false=true) by decide)] at H;exact H
     clear H
     have H:=H1
     clear H1
     obtain ⟨ji8,hji8⟩:∃ j_:Int,(wrap64 (Int.tdiv (wrap64 (-a1)) 32))=j_:=⟨_,rfl⟩
     replace H:(if 0≤(ji8) then (if (ji8)≤(l0.length:Int) then ((r02_Norm.f kj3 (l0.drop ((ji8):Int).toNat)).bind fun t532=>(if 0≤(Int.tmod (wrap64 (-a1)) 32) then ((r02_Parts.f kj3 t532 (([shl .u32 1 (Int.tmod (wrap64 (-a1)) 32)]:List Int))).bind fun bt538=>(some bt538.1)) else (none))) else (none)) else (none))=some r:=by first|(rw [hji8] at H;exact H)|(simp only [hji8] at H ⊢;exact H)
     have hji8w:(IntKind.i64.wrap (Int.tdiv (wrap64 (-a1)) 32))=ji8:=(i64_w _).trans hji8
     by_cases c9:0≤(ji8)
     ·rw [if_pos c9] at H
      have c9b0:=eq_true c9
      have c9b1:decide (0≤(ji8))=true:=decide_eq_true c9
      clear c9
      by_cases c10:(ji8)≤(l0.length:Int)
      ·rw [if_pos c10] at H
       have c10b0:=eq_true c10
       have c10b1:decide ((ji8)≤(l0.length:Int))=true:=decide_eq_true c10
       clear c10
       obtain ⟨t532,A11,H⟩:=ob_ H
       try dsimp only at H
       obtain ⟨ji12,hji12⟩:∃ j_:Int,(Int.tmod (wrap64 (-a1)) 32)=j_:=⟨_,rfl⟩
       replace H:(if 0≤(ji12) then ((r02_Parts.f kj3 t532 (([shl .u32 1 (ji12)]:List Int))).bind fun bt538=>(some bt538.1)) else (none))=some r:=by first|(rw [hji12] at H;exact H)|(simp only [hji12] at H ⊢;exact H)
       (try rw [hji12] at A11)
       by_cases c13:0≤(ji12)
       ·rw [if_pos c13] at H
        have c13b0:=eq_true c13
        have c13b1:decide (0≤(ji12))=true:=decide_eq_true c13
        clear c13
        obtain ⟨ji14,hji14⟩:∃ j_:Int,(shl .u32 1 (ji12))=j_:=⟨_,rfl⟩
        replace H:((r02_Parts.f kj3 t532 (([ji14]:List Int))).bind fun bt538=>(some bt538.1))=some r:=by first|(rw [hji14] at H;exact H)|(simp only [hji14] at H ⊢;exact H)
        (try rw [hji14] at A11)
        have hji14_:(IntKind.u32.wrap (1*2^min (ji12).toNat 32))=ji14:=hji14
        have hji14z:(ji12)≤32→(IntKind.u32.wrap (1*2^(ji12).toNat))=ji14:=shl_small hji14
        have hji14u:(IntKind.u32.wrap (2^min (ji12).toNat 32))=ji14:=by have h_:=hji14_;rw [Int.one_mul] at h_;exact h_
        have hji14v:(ji12)≤32→(IntKind.u32.wrap (2^(ji12).toNat))=ji14:=fun hle_=>by have h_:=hji14z hle_;rw [Int.one_mul] at h_;exact h_
        obtain ⟨y535,hy535⟩:∃ y_:List Int,y_=(([ji14]:List Int)):=⟨_,rfl⟩
        replace H:((r02_Parts.f kj3 t532 y535).bind fun bt538=>(some bt538.1))=some r:=by first|(rw [hy535];with_reducible exact H)|(have H2_:=(Option.bind_some _ _).symm.trans H;rw [hy535];with_reducible exact H2_)|(have H2_:=(Option.bind_some _ _).symm.trans H;with_reducible exact H2_)|with_reducible exact H|(rw [hy535];exact H)|exact H
        have Ny535:=Aside0.mk hy535
        clear hy535
        obtain ⟨⟨t538,t539⟩,A15,H⟩:=ob_ H
        try dsimp only at H
        obtain rfl:=Option.some.inj H
        try go_wp2
        have n0_:=Aside0.mk (below_drew1 HB.out)
        clear HB
        have HB:=n0_
        clear n0_
        obtain ⟨i017,hi017,_,hsz17,_⟩:=info_parts info68
        obtain ⟨A17,hcut17,hA17,hC17⟩:=print_drop_of (P:=Tryd.prog) (Value.int .u32) 0 28 68 .i64 Tryd.underlying28 hi017 hsz17 A0 c0 l0 (ji8) od_ od_ HC0.out
        have HR531:=Aside0.mk (Kd.C_of_reads (h1:=fun _=>rfl) (hA17 _ (Kd.reads_of_C HR0.out)))
        have HC531:=Aside0.mk hC17
        clear hA17 hC17 hi017 hsz17
        refine start_ (n:=15) (S:=fun w'=>True) (ds:=[]) #[false,false,false,false,false,false,false,false,false,false,false,false,false,false,false] (by kernel_rfl) rfl rfl trivial (fun hHeld=>?_);refine with_tabW r02_Moved.tab5 r02_Moved.bits5 (fun HT_ HW_=>?_)
        generalize wc.drew=w16 at HB HR531 hHeld ⊢
        refine pure_ (i:=0) (N:=some 23) (v:=?_) (a':=?_) #[true,false,false,false,false,false,false,false,false,false,false,false,false,false,false] rfl rfl (any_of HT_.out (by kernel_rfl)) (fun _ _ _ h=>h) (Or.inl ⟨by rfl,?_⟩) ?_ ?_
        rotate_left
        ·intro w'
         go_simp
         with_reducible rfl
        rotate_left
        ·exact nf_
        refine pure_ (i:=1) (N:=some 24) (v:=?_) (a':=?_) #[true,true,false,false,false,false,false,false,false,false,false,false,false,false,false] rfl rfl (any_of HT_.out (by kernel_rfl)) (fun _ _ _ h=>h) (Or.inl ⟨by rfl,?_⟩) ?_ ?_
        rotate_left
        ·intro w'
         go_simp
         with_reducible rfl
        rotate_left
        ·exact nf_
        refine pure_ (i:=2) (N:=some 25) (v:=?_) (a':=?_) #[true,true,true,false,false,false,false,false,false,false,false,false,false,false,false] rfl rfl (any_of HT_.out (by kernel_rfl)) (fun _ _ _ h=>h) (Or.inl ⟨by rfl,?_⟩) ?_ ?_
        rotate_left
        ·intro w'
         go_simp
         with_reducible rfl
        rotate_left
        ·exact nf_
        refine pure_ (i:=4) (N:=some 27) (v:=?_) (a':=?_) #[true,true,true,false,true,false,false,false,false,false,false,false,false,false,false] rfl rfl (any_of HT_.out (by kernel_rfl)) (fun _ _ _ h=>h) (Or.inl ⟨by rfl,?_⟩) ?_ ?_
        rotate_left
        ·intro w'
         go_simp
         with_reducible rfl
        rotate_left
        ·exact nf_
        refine pure_ (i:=5) (N:=some 28) (v:=?_) (a':=?_) #[true,true,true,false,true,true,false,false,false,false,false,false,false,false,false] rfl rfl (any_of HT_.out (by kernel_rfl)) (fun _ _ _ h=>h) (Or.inl ⟨by rfl,?_⟩) ?_ ?_
        rotate_left
        ·intro w'
         go_simp
         with_reducible rfl
        rotate_left
        ·exact nf_
        refine pure_ (i:=6) (N:=some 29) (v:=?_) (a':=?_) #[true,true,true,false,true,true,true,false,false,false,false,false,false,false,false] rfl rfl (any_of HT_.out (by kernel_rfl)) (fun _ _ _ h=>h) (Or.inl ⟨by rfl,?_⟩) ?_ ?_
        rotate_left
        ·intro w'
         go_simp
         with_reducible rfl
        rotate_left
        ·exact nf_
        refine pure_ (i:=7) (N:=some 30) (v:=?_) (a':=?_) #[true,true,true,false,true,true,true,true,false,false,false,false,false,false,false] rfl rfl (any_of HT_.out (by kernel_rfl)) (fun _ _ _ h=>h) (Or.inl ⟨by rfl,?_⟩) ?_ ?_
        rotate_left
        ·intro w'
         go_simp
         with_reducible rfl
        rotate_left
        ·exact nf_
        refine join_ (σ:=Value × Value) 6 #[true,true,true,true,true,true,true,true,true,false,false,false,false,false,false] (fun s_=>[(26,s_.1),(31,s_.2)]) (fun s_ w'=>(Kd.R (Kd.int .u32) 68 w' w.heap.size (fun k_=>some k_≠(s_.2:Value).ownBlock) s_.1 t532)∧(Kd.R (Kd.int .u32) 68 w' w.heap.size (fun k_=>some k_≠(s_.1:Value).ownBlock) s_.2 y535)∧(Below w.heap.size w w')) ?_ ?_
        rotate_left
        ·intro hCont
         refine two_ (i:=3) (j:=8) (Ni:=some 26) (Nj:=some 31) #[true,true,true,true,true,true,true,true,false,false,false,false,false,false,false] #[true,true,true,false,true,true,true,true,true,false,false,false,false,false,false] rfl rfl rfl rfl (two_of HT_.out (by kernel_rfl)) (by decide) (by decide) (fun K hK=>?_) (fun K hK=>?_)
         ·skip
          refine goes_ Tryd.func51 (by kernel_rfl) rfl #[.slice A17 (l0.drop ((ji8):Int).toNat).length (c0 - (ji8).toNat)] (by rfl) rfl rfl (by (try simp only [List.map_toArray,List.map_cons,List.map_nil]);first|done|(rw [show (l0.drop ((ji8):Int).toNat).length=(l0.length - (ji8).toNat) from List.length_drop] <;> rfl)|(simp only [hji8];rfl)|rfl|(simp only [List.length_drop,List.length_take];rfl)) ?_
          with_reducible refine (r02_Norm.calls kj3 _ _ (l0.drop ((ji8):Int).toNat) t532 _ ?side1 ?side2 A11.out).mono ?_
          (case side1=>exact cs_ (Kd.C_below HR531.out HB.out))
          (case side2=>exact HC531.out)
          rintro e w18 ⟨v533,rfl,ho0,hb⟩
          refine ⟨_,rfl,?_⟩
          have n0_:=Aside0.mk (Kd.R_lower ho0 (below_size (bl_ HB)))
          have n1_:=bs_ HB hb
          clear HB
          have HO534:=n0_
          have HB:=n1_
          clear n0_ n1_
          (try clear hb)
          (try clear hb2)
          (try clear hk)
          (try clear hi)
          (try clear ho0)
          refine hK.out _ _ trivial (fun hHeld=>?_)
          clear hK K
          refine norm_ (a':=?_) ?_ ?_
          rotate_left
          ·show Act.put _ (some 26) _=_
           simp only [Act.put,List.setIfInBounds_toArray,List.set_cons_zero,List.set_cons_succ,i64_w,i32_w]
           rfl
          refine one_ (i:=8) (N:=some 31) #[true,true,true,true,true,true,true,true,true,false,false,false,false,false,false] rfl rfl (one_of HT_.out (by kernel_rfl)) (by decide) (fun K hK=>?_)
          refine Kd.R_lit_step (Kd.int .u32) _ 68 ?hg (N:=31) ?hd (xs:=([ji14]:List Int)) (inner:=[.int .u32 ji14]) (ok:=fun _=>True) (okp:=fun _=>True) ?hr ?hp (fun _ hk=>hk) trivial (Below.refl _ _) (Nat.le_refl _) (by simp) ?_;(case hd=>rfl);(case hg=>rfl);(case hr=>first|(go_simp;done)|(go_simp;rfl));(case hp=>exact (Reps.one (show Kd.M (Kd.int .u32) _ _ _ ji14 [.int .u32 ji14] from rfl) (Reps.none _ _)))
          intro v536 w19 ho20 hb hg_ hnew_
          clear hg_ hnew_
          (first|rw [← Ny535.out] at ho20|(simp only [Int.reduceToNat] at ho20;rw [← Ny535.out] at ho20))
          have n0_:=Aside0.mk (Kd.R_elder' (rr_ HO534) (Kd.R_base ho20) hb)
          have n1_:=Aside0.mk (Kd.R_lower (Kd.R_new' ho20 (Kd.R_lt (rr_ HO534))) (below_size (bl_ HB)))
          have n2_:=bs_ HB hb
          clear HO534
          clear HB
          have HO534:=n0_
          have HO537:=n1_
          have HB:=n2_
          clear n0_ n1_ n2_
          clear hb ho20
          refine hK.out _ _ trivial (fun hHeld=>?_)
          clear hK K
          refine norm_ (a':=?_) ?_ ?_
          rotate_left
          ·show Act.put _ (some 31) _=_
           simp only [Act.put,List.setIfInBounds_toArray,List.set_cons_zero,List.set_cons_succ,i64_w,i32_w]
           rfl
          exact norm_ (by simp only [putAll,Act.put,List.setIfInBounds_toArray,List.set_cons_zero,List.set_cons_succ]) (hCont (v533,v536) _ ⟨(by (with_reducible repeat (first|apply rA|apply rN|apply rD));exact Kd.R_mono HO534.out (fun _ hk=>hk.2)),(by (with_reducible repeat (first|apply rA|apply rN|apply rD));exact Kd.R_mono HO537.out (fun _ hk=>hk.2)),(bl_ HB)⟩)
         ·skip
          refine Kd.R_lit_step (Kd.int .u32) _ 68 ?hg (N:=31) ?hd (xs:=([ji14]:List Int)) (inner:=[.int .u32 ji14]) (ok:=fun _=>True) (okp:=fun _=>True) ?hr ?hp (fun _ hk=>hk) trivial (Below.refl _ _) (Nat.le_refl _) (by simp) ?_;(case hd=>rfl);(case hg=>rfl);(case hr=>first|(go_simp;done)|(go_simp;rfl));(case hp=>exact (Reps.one (show Kd.M (Kd.int .u32) _ _ _ ji14 [.int .u32 ji14] from rfl) (Reps.none _ _)))
          intro v536 w18 ho19 hb hg_ hnew_
          clear hg_ hnew_
          (first|rw [← Ny535.out] at ho19|(simp only [Int.reduceToNat] at ho19;rw [← Ny535.out] at ho19))
          have n0_:=Aside0.mk (Kd.R_lower ho19 (below_size (bl_ HB)))
          have n1_:=bs_ HB hb
          clear HB
          have HO537:=n0_
          have HB:=n1_
          clear n0_ n1_
          clear hb ho19
          refine hK.out _ _ trivial (fun hHeld=>?_)
          clear hK K
          refine norm_ (a':=?_) ?_ ?_
          rotate_left
          ·show Act.put _ (some 31) _=_
           simp only [Act.put,List.setIfInBounds_toArray,List.set_cons_zero,List.set_cons_succ,i64_w,i32_w]
           rfl
          refine one_ (i:=3) (N:=some 26) #[true,true,true,true,true,true,true,true,true,false,false,false,false,false,false] rfl rfl (one_of HT_.out (by kernel_rfl)) (by decide) (fun K hK=>?_)
          refine goes_ Tryd.func51 (by kernel_rfl) rfl #[.slice A17 (l0.drop ((ji8):Int).toNat).length (c0 - (ji8).toNat)] (by rfl) rfl rfl (by (try simp only [List.map_toArray,List.map_cons,List.map_nil]);first|done|(rw [show (l0.drop ((ji8):Int).toNat).length=(l0.length - (ji8).toNat) from List.length_drop] <;> rfl)|(simp only [hji8];rfl)|rfl|(simp only [List.length_drop,List.length_take];rfl)) ?_
          with_reducible refine (r02_Norm.calls kj3 _ _ (l0.drop ((ji8):Int).toNat) t532 _ ?side1 ?side2 A11.out).mono ?_
          (case side1=>exact cs_ (Kd.C_below HR531.out HB.out))
          (case side2=>exact HC531.out)
          rintro e w20 ⟨v533,rfl,ho0,hb⟩
          refine ⟨_,rfl,?_⟩
          have n0_:=Aside0.mk (Kd.R_elder' (rr_ HO537) (Kd.R_base ho0) hb)
          have n1_:=Aside0.mk (Kd.R_lower (Kd.R_new' ho0 (Kd.R_lt (rr_ HO537))) (below_size (bl_ HB)))
          have n2_:=bs_ HB hb
          clear HO537
          clear HB
          have HO537:=n0_
          have HO534:=n1_
          have HB:=n2_
          clear n0_ n1_ n2_
          (try clear hb)
          (try clear hb2)
          (try clear hk)
          (try clear hi)
          (try clear ho0)
          refine hK.out _ _ trivial (fun hHeld=>?_)
          clear hK K
          refine norm_ (a':=?_) ?_ ?_
          rotate_left
          ·show Act.put _ (some 26) _=_
           simp only [Act.put,List.setIfInBounds_toArray,List.set_cons_zero,List.set_cons_succ,i64_w,i32_w]
           rfl
          exact norm_ (by simp only [putAll,Act.put,List.setIfInBounds_toArray,List.set_cons_zero,List.set_cons_succ]) (hCont (v533,v536) _ ⟨(by (with_reducible repeat (first|apply rA|apply rN|apply rD));exact Kd.R_mono HO534.out (fun _ hk=>hk.2)),(by (with_reducible repeat (first|apply rA|apply rN|apply rD));exact Kd.R_mono HO537.out (fun _ hk=>hk.2)),(bl_ HB)⟩)
        rintro ⟨v533,v536⟩ w21 ⟨h0_,h1_,h2_⟩
        have n0_:Aside0 (Kd.R (Kd.int .u32) 68 w21 w.heap.size (fun k_=>some k_≠(v536:Value).ownBlock) v533 t532):=⟨h0_⟩
        have n1_:Aside0 (Kd.R (Kd.int .u32) 68 w21 w.heap.size (fun k_=>some k_≠(v533:Value).ownBlock) v536 y535):=⟨h1_⟩
        have n2_:Aside0 (Below w.heap.size w w21):=⟨h2_⟩
        clear HB
        clear h0_ h1_ h2_
        have HO534:=n0_
        have HO537:=n1_
        have HB:=n2_
        clear n0_ n1_ n2_
        have hHeld:=trivial
        obtain ⟨Ao22,co22,eo22⟩:=Kd.R_slice HO534.out
        (first|subst eo22|(injection eo22 with f1_ f2_ f3_;have f4_:=f1_.symm;have f5_:=f3_.symm;clear f1_ f2_ f3_;subst f4_;subst f5_))
        obtain ⟨Ao23,co23,eo23⟩:=Kd.R_slice HO537.out
        (first|subst eo23|(injection eo23 with f1_ f2_ f3_;have f4_:=f1_.symm;have f5_:=f3_.symm;clear f1_ f2_ f3_;subst f4_;subst f5_))
        refine norm_ (a':=?_) ?_ ?_
        rotate_left
        ·simp only [putAll,Act.put,List.setIfInBounds_toArray,List.set_cons_zero,List.set_cons_succ]
         rfl
        refine one_ (i:=9) (N:=some 32) #[true,true,true,true,true,true,true,true,true,true,false,false,false,false,false] rfl rfl (one_of HT_.out (by kernel_rfl)) (by decide) (fun K hK=>?_)
        refine goes_ Tryd.func50 (by kernel_rfl) rfl #[.slice Ao22 t532.length co22,.slice Ao23 y535.length co23] (by rfl) rfl rfl (by (try simp only [List.map_toArray,List.map_cons,List.map_nil]);first|done|rfl|(simp only [List.length_drop,List.length_take];rfl)) ?_
        with_reducible refine (r02_Parts.calls kj3 _ _ t532 _ _ y535 t538 t539 _ ?side1 ?side2 ?side3 ?side4 A15.out).mono ?_
        (case side1=>exact cs_ (Kd.R_reads' HO534.out).2.2)
        (case side2=>exact (Kd.R_reads' HO534.out).2.1)
        (case side3=>exact cs_ (Kd.R_reads' HO537.out).2.2)
        (case side4=>exact (Kd.R_reads' HO537.out).2.1)
        rintro e w24 ⟨v540,v542,rfl,ho0,ho1,hb⟩
        refine ⟨_,rfl,?_⟩
        have n0_:=Aside0.mk (Kd.R_mono (Kd.R_told (Kd.R_told (Kd.R_old (rr_ HO534) hb) (Kd.R_base ho0)) (Kd.R_base ho1)) (fun _ h_=>h_.1))
        have n1_:=Aside0.mk (Kd.R_mono (Kd.R_told (Kd.R_told (Kd.R_old (rr_ HO537) hb) (Kd.R_base ho0)) (Kd.R_base ho1)) (fun _ h_=>h_.1))
        have n2_:=Aside0.mk (Kd.R_lower (Kd.R_new' (Kd.R_new' ho0 (Kd.R_lt (rr_ HO534))) (Kd.R_lt (rr_ HO537))) (below_size (bl_ HB)))
        have n3_:=Aside0.mk (Kd.R_lower (Kd.R_new' (Kd.R_new' ho1 (Kd.R_lt (rr_ HO534))) (Kd.R_lt (rr_ HO537))) (below_size (bl_ HB)))
        have n4_:=bs_ HB hb
        clear HO534
        clear HO537
        clear HB
        have HO534:=n0_
        have HO537:=n1_
        have HO541:=n2_
        have HO543:=n3_
        have HB:=n4_
        clear n0_ n1_ n2_ n3_ n4_
        (try clear hb)
        (try clear hb2)
        (try clear hk)
        (try clear hi)
        (try clear ho0)
        (try clear ho1)
        refine hK.out _ _ trivial (fun hHeld=>?_)
        clear hK K
        refine norm_ (a':=?_) ?_ ?_
        rotate_left
        ·show Act.put _ (some 32) _=_
         simp only [Act.put,List.setIfInBounds_toArray,List.set_cons_zero,List.set_cons_succ,i64_w,i32_w]
         rfl
        refine pure_ (i:=10) (N:=some 22) (v:=?_) (a':=?_) #[true,true,true,true,true,true,true,true,true,true,true,false,false,false,false] rfl rfl (any_of HT_.out (by kernel_rfl)) (fun _ _ _ h=>h) (Or.inl ⟨by rfl,?_⟩) ?_ ?_
        rotate_left
        ·intro w'
         go_simp
         with_reducible rfl
        rotate_left
        ·exact nf_
        refine pure_ (i:=11) (N:=some 33) (v:=?_) (a':=?_) #[true,true,true,true,true,true,true,true,true,true,true,true,false,false,false] rfl rfl (any_of HT_.out (by kernel_rfl)) (fun _ _ _ h=>h) (Or.inl ⟨by rfl,?_⟩) ?_ ?_
        rotate_left
        ·intro w'
         go_simp
         with_reducible rfl
        rotate_left
        ·exact nf_
        refine pure_ (i:=12) (N:=some 34) (v:=?_) (a':=?_) #[true,true,true,true,true,true,true,true,true,true,true,true,true,false,false] rfl rfl (any_of HT_.out (by kernel_rfl)) (fun _ _ _ h=>h) (Or.inl ⟨by rfl,?_⟩) ?_ ?_
        rotate_left
        ·intro w'
         go_simp
         with_reducible rfl
        rotate_left
        ·exact nf_
        refine pure_ (i:=13) (N:=some 6) (v:=?_) (a':=?_) #[true,true,true,true,true,true,true,true,true,true,true,true,true,true,false] rfl rfl (any_of HT_.out (by kernel_rfl)) (fun _ _ _ h=>h) (Or.inl ⟨by rfl,?_⟩) ?_ ?_
        rotate_left
        ·intro w'
         go_simp
         with_reducible rfl
        rotate_left
        ·exact nf_
        refine pure_ (i:=14) (N:=some 7) (v:=?_) (a':=?_) #[true,true,true,true,true,true,true,true,true,true,true,true,true,true,true] rfl rfl (any_of HT_.out (by kernel_rfl)) (fun _ _ _ h=>h) (Or.inl ⟨by rfl,?_⟩) ?_ ?_
        rotate_left
        ·intro w'
         go_simp
         with_reducible rfl
        rotate_left
        ·exact nf_
        refine done_ (done_of HT_.out (by kernel_rfl)) ?_
        try go_wp2
        go_ret
        exact ⟨_,by first|rfl|(simp [errW_none,errW_some] <;> rfl)|(simp only [← hji8,← hji12,← hji14];first|rfl|(simp [errW_none,errW_some] <;> rfl))|(simp [*,errW_none,errW_some] <;> rfl),by (with_reducible repeat (first|apply rA|apply rN|apply rD));exact Kd.R_mono HO541.out (fun _ hk=>trivial),bl_ HB⟩
       ·rw [if_neg c13] at H
        exact absurd H (by simp)
      ·rw [if_neg c10] at H
       exact absurd H (by simp)
     ·rw [if_neg c9] at H
      exact absurd H (by simp)
 ·rw [if_neg c3] at H
  have c3b0:decide (a1<0)=false:=decide_eq_false c3
  (try obtain rfl:bz5=false:=hbz5.symm.trans c3b0)
  clear c3
  obtain ⟨ji25,hji25⟩:∃ j_:Int,(wrap64 (Int.tdiv a1 32))=j_:=⟨_,rfl⟩
  replace H:(if 0≤(ji25) then (if (ji25:Int).toNat≤70368744177664 then ((some (List.replicate (ji25:Int).toNat 0:List Int)).bind fun y544=>(if y544.length+l0.length<35184372088832 then (if 0≤(Int.tmod a1 32) then ((r02_Times.f k (y544++l0) (([shl .u32 1 (Int.tmod a1 32)]:List Int))).bind fun t553=>(some t553)) else (none)) else (none))) else (none)) else (none))=some r:=by first|(rw [hji25] at H;exact H)|(simp only [hji25] at H ⊢;exact H)
  have hji25w:(IntKind.i64.wrap (Int.tdiv a1 32))=ji25:=(i64_w _).trans hji25
  by_cases c26:0≤(ji25)
  ·rw [if_pos c26] at H
   have c26b0:=eq_true c26
   have c26b1:decide (0≤(ji25))=true:=decide_eq_true c26
   clear c26
   by_cases c27:(ji25:Int).toNat≤70368744177664
   ·rw [if_pos c27] at H
    have c27b0:=eq_true c27
    have c27b1:decide ((ji25:Int).toNat≤70368744177664)=true:=decide_eq_true c27
    clear c27
    obtain ⟨y544,hy544⟩:∃ y_:List Int,y_=(List.replicate (ji25:Int).toNat 0):=⟨_,rfl⟩
    replace H:(if y544.length+l0.length<35184372088832 then (if 0≤(Int.tmod a1 32) then ((r02_Times.f k (y544++l0) (([shl .u32 1 (Int.tmod a1 32)]:List Int))).bind fun t553=>(some t553)) else (none)) else (none))=some r:=by first|(rw [hy544];with_reducible exact H)|(have H2_:=(Option.bind_some _ _).symm.trans H;rw [hy544];with_reducible exact H2_)|(have H2_:=(Option.bind_some _ _).symm.trans H;with_reducible exact H2_)|with_reducible exact H|(rw [hy544];exact H)|exact H
    have Ny544:=Aside0.mk hy544
    clear hy544
    by_cases c28:y544.length+l0.length<35184372088832
    ·rw [if_pos c28] at H
     have LMc28:=Aside0.mk c28
     clear c28
     obtain ⟨y547,hy547⟩:∃ y_:List Int,y_=(y544++l0):=⟨_,rfl⟩
     replace H:(if 0≤(Int.tmod a1 32) then ((r02_Times.f k y547 (([shl .u32 1 (Int.tmod a1 32)]:List Int))).bind fun t553=>(some t553)) else (none))=some r:=by first|(rw [hy547];with_reducible exact H)|(have H2_:=(Option.bind_some _ _).symm.trans H;rw [hy547];with_reducible exact H2_)|(have H2_:=(Option.bind_some _ _).symm.trans H;with_reducible exact H2_)|with_reducible exact H|(rw [hy547];exact H)|exact H
     have Ny547:=Aside0.mk hy547
     clear hy547
     obtain ⟨ji29,hji29⟩:∃ j_:Int,(Int.tmod a1 32)=j_:=⟨_,rfl⟩
     replace H:(if 0≤(ji29) then ((r02_Times.f k y547 (([shl .u32 1 (ji29)]:List Int))).bind fun t553=>(some t553)) else (none))=some r:=by first|(rw [hji29] at H;exact H)|(simp only [hji29] at H ⊢;exact H)
     by_cases c30:0≤(ji29)
     ·rw [if_pos c30] at H
      have c30b0:=eq_true c30
      have c30b1:decide (0≤(ji29))=true:=decide_eq_true c30
      clear c30
      obtain ⟨ji31,hji31⟩:∃ j_:Int,(shl .u32 1 (ji29))=j_:=⟨_,rfl⟩
      replace H:((r02_Times.f k y547 (([ji31]:List Int))).bind fun t553=>(some t553))=some r:=by first|(rw [hji31] at H;exact H)|(simp only [hji31] at H ⊢;exact H)
      have hji31_:(IntKind.u32.wrap (1*2^min (ji29).toNat 32))=ji31:=hji31
      have hji31z:(ji29)≤32→(IntKind.u32.wrap (1*2^(ji29).toNat))=ji31:=shl_small hji31
      have hji31u:(IntKind.u32.wrap (2^min (ji29).toNat 32))=ji31:=by have h_:=hji31_;rw [Int.one_mul] at h_;exact h_
      have hji31v:(ji29)≤32→(IntKind.u32.wrap (2^(ji29).toNat))=ji31:=fun hle_=>by have h_:=hji31z hle_;rw [Int.one_mul] at h_;exact h_
      obtain ⟨y550,hy550⟩:∃ y_:List Int,y_=(([ji31]:List Int)):=⟨_,rfl⟩
      replace H:((r02_Times.f k y547 y550).bind fun t553=>(some t553))=some r:=by first|(rw [hy550];with_reducible exact H)|(have H2_:=(Option.bind_some _ _).symm.trans H;rw [hy550];with_reducible exact H2_)|(have H2_:=(Option.bind_some _ _).symm.trans H;with_reducible exact H2_)|with_reducible exact H|(rw [hy550];exact H)|exact H
      have Ny550:=Aside0.mk hy550
      clear hy550
      obtain ⟨t553,A32,H⟩:=ob_ H
      try dsimp only at H
      obtain rfl:=Option.some.inj H
      go_enter Tryd.func32,Tryd.ntmps32
      go_wp2_with (first|((with_reducible refine gate_dst (N:=38) rfl ?_);refine Kd.R_make (Kd.int .u32) _ 68 rfl (N:=38) rfl 28 _ _ rfl ji25 rfl rfl Tryd.underlying28 (.int .u32 0) 4 info68 rfl (by decide) (by omega) 0 (ok:=fun _=>True) (okp:=fun _=>True) rfl (fun _ hk=>hk) trivial od_ (Nat.le_trans (Nat.mul_le_mul_right _ (od_:ji25.toNat≤70368744177664)) (by omega)) (Below.refl _ _) (Nat.le_refl _) ?_;intro v545 w33 ho34 hb hg_ hnew_;clear hg_ hnew_;(first|rw [← Ny544.out] at ho34|(simp only [Int.reduceToNat] at ho34;rw [← Ny544.out] at ho34));have HO546:=Aside0.mk (Kd.R_lower ho34 (below_size (bl_ HB)));replace HB:=bs_ HB hb;clear hb ho34)|((with_reducible refine gate_builtin (b:=.append) (xs:=#[.tmp 39,.tmp 40]) rfl ?_);at_builtin;refine Kd.R_append_rows (Kd.int .u32) (w0:=w) w.heap.size rfl (.tmp 39) (.tmp 40) 28 68 (.int .u32 0) 4 rfl Tryd.underlying28 info68 rfl (by decide) (by omega) v545 y544 l0 _ _ _ (fun _=>True) (fun _=>False) rfl rfl ?aO ?aR (fun _ _ h=>h) (fun _ h=>h.elim) ?aF ?aB ?aS ?aL ?_;(case aR=>repeat (first|exact (Kd.C_below HR0.out HB.out)|(with_reducible first|apply cA|apply cN|apply cD)));(case aB=>exact (bl_ HB));(case aF=>exact (fun _ _=>trivial));(case aO=>exact (rr_ HO546));(case aS=>exact (below_size (bl_ HB)));(case aL=>have:=LMc28.out;omega);intro v548 w35 ho hb hg hat;rw [← Ny547.out] at ho;replace HB:=Aside0.mk (hb);have HO549:=Aside0.mk (ho);clear ho hb hg hat)|((with_reducible refine gate_dst (N:=46) rfl ?_);refine Kd.R_lit (Kd.int .u32) _ 68 ?hg (N:=46) ?hd (xs:=([ji31]:List Int)) (inner:=[.int .u32 ji31]) (ok:=fun _=>True) (okp:=fun _=>True) ?hr ?hp (fun _ hk=>hk) trivial (Below.refl _ _) (Nat.le_refl _) (by simp) ?_;(case hd=>rfl);(case hg=>rfl);(case hr=>first|(go_simp;done)|(go_simp;rfl));(case hp=>exact (Reps.one (show Kd.M (Kd.int .u32) _ _ _ ji31 [.int .u32 ji31] from rfl) (Reps.none _ _)));intro v551 w36 ho37 hb hg_ hnew_;clear hg_ hnew_;(first|rw [← Ny550.out] at ho37|(simp only [Int.reduceToNat] at ho37;rw [← Ny550.out] at ho37));have HO552:=Aside0.mk (Kd.R_lower (Kd.R_new' ho37 (Kd.R_lt (rr_ HO549))) (below_size (bl_ HB)));replace HO549:=Aside0.mk (Kd.R_elder' (rr_ HO549) (Kd.R_base ho37) hb);replace HB:=bs_ HB hb;clear hb ho37;obtain ⟨Ao38,co38,eo38⟩:=Kd.R_slice HO549.out;subst eo38;obtain ⟨Ao39,co39,eo39⟩:=Kd.R_slice HO552.out;subst eo39)|((with_reducible refine gate_callee (f:=52) rfl ?_);refine goesM (some 47) Tryd.func52 #[.slice Ao38 y547.length co38,.slice Ao39 y550.length co39] ?_;(with_reducible refine (r02_Times.calls k _ _ y547 _ _ y550 t553 _ ?side1 ?side2 ?side3 ?side4 A32.out).mono ?_);(case side1=>exact cs_ (Kd.R_reads' HO549.out).2.2);(case side2=>exact (Kd.R_reads' HO549.out).2.1);(case side3=>exact cs_ (Kd.R_reads' HO552.out).2.2);(case side4=>exact (Kd.R_reads' HO552.out).2.1);rintro e w40 ⟨v554,rfl,ho0,hb⟩;refine ⟨_,rfl,?_⟩;have HO555:=Aside0.mk (Kd.R_lower (Kd.R_new' (Kd.R_new' ho0 (Kd.R_lt (rr_ HO549))) (Kd.R_lt (rr_ HO552))) (below_size (bl_ HB)));replace HO549:=Aside0.mk (Kd.R_elder' (rr_ HO549) (Kd.R_base ho0) hb);replace HO552:=Aside0.mk (Kd.R_elder' (rr_ HO552) (Kd.R_base ho0) hb);replace HB:=bs_ HB hb;(try clear hb);(try clear hb2);(try clear hk);(try clear hi);(try clear ho0)))
      go_ret
      exact ⟨_,by first|rfl|(simp [errW_none,errW_some] <;> rfl)|(simp only [← hji25,← hji29,← hji31];first|rfl|(simp [errW_none,errW_some] <;> rfl))|(simp [*,errW_none,errW_some] <;> rfl),by (with_reducible repeat (first|apply rA|apply rN|apply rD));exact Kd.R_mono HO555.out (fun _ hk=>trivial),bl_ HB⟩
     ·rw [if_neg c30] at H
      exact absurd H (by simp)
    ·rw [if_neg c28] at H
     exact absurd H (by simp)
   ·rw [if_neg c27] at H
    exact absurd H (by simp)
  ·rw [if_neg c26] at H
   exact absurd H (by simp)
def r02_Bit.f (l0:List Int) (a1:Int):Option (Bool):=if a1<0 then (some false) else (if (wrap64 (Int.tdiv a1 32))≥(l0.length:Int) then (some false) else (if 0≤(wrap64 (Int.tdiv a1 32)) then (if (wrap64 (Int.tdiv a1 32))<(l0.length:Int) then (if 0≤(Int.tmod a1 32) then (some ((Go.bits .and .u32 (shr .u32 (rd l0 (wrap64 (Int.tdiv a1 32))) (Int.tmod a1 32)) 1) == 1)) else (none)) else (none)) else (none)))
set_option maxHeartbeats 3000000 in
set_option maxRecDepth 100000 in
theorem r02_Bit.calls (A0:Option Addr) (c0:Nat) (l0:List Int) (a1:Int) (r:Bool) (w:World) (hr0:Kd.C (Kd.int .u32) w A0 l0.length l0) (hc0:l0.length≤c0) (h:r02_Bit.f l0 a1=some r) :
  Calls Tryd.prog 100 #[.slice A0 l0.length c0,.int .i64 a1] w fun e w'=>e = .returned (.bool r)∧Drawn0 w w':=by
 have HR0:=Aside0.mk hr0
 have HC0:=Aside0.mk hc0
 clear hr0 hc0
 have H:=h
 unfold r02_Bit.f at H
 clear h
 by_cases c3:a1<0
 ·rw [if_pos c3] at H
  have c3b0:decide (a1<0)=true:=decide_eq_true c3
  clear c3
  obtain rfl:=Option.some.inj H
  go_enter Tryd.func100,Tryd.ntmps100
  go_wp2
  go_ret
  exact ⟨by first|rfl|(simp;done)|(simp [*];done),by repeat (first|exact Drawn0.refl _|apply Drawn0.step)⟩
 ·rw [if_neg c3] at H
  have c3b0:decide (a1<0)=false:=decide_eq_false c3
  clear c3
  by_cases c4:(wrap64 (Int.tdiv a1 32))≥(l0.length:Int)
  ·rw [if_pos c4] at H
   have c4b0:decide ((l0.length:Int)≤(wrap64 (Int.tdiv a1 32)))=true:=decide_eq_true c4
   clear c4
   obtain rfl:=Option.some.inj H
   go_enter Tryd.func100,Tryd.ntmps100
   go_wp2
   go_ret
   exact ⟨by first|rfl|(simp;done)|(simp [*];done),by repeat (first|exact Drawn0.refl _|apply Drawn0.step)⟩
  ·rw [if_neg c4] at H
   have c4b0:decide ((l0.length:Int)≤(wrap64 (Int.tdiv a1 32)))=false:=decide_eq_false c4
   clear c4
   obtain ⟨ji5,hji5⟩:∃ j_:Int,(wrap64 (Int.tdiv a1 32))=j_:=⟨_,rfl⟩
   replace H:(if 0≤(ji5) then (if (ji5)<(l0.length:Int) then (if 0≤(Int.tmod a1 32) then (some ((Go.bits .and .u32 (shr .u32 (rd l0 (ji5)) (Int.tmod a1 32)) 1) == 1)) else (none)) else (none)) else (none))=some r:=by first|(rw [hji5] at H;exact H)|(simp only [hji5] at H ⊢;exact H)
   (try rw [hji5] at c4b0)
   have hji5w:(IntKind.i64.wrap (Int.tdiv a1 32))=ji5:=(i64_w _).trans hji5
   by_cases c6:0≤(ji5)
   ·rw [if_pos c6] at H
    have c6b0:decide (0≤(ji5))=true:=decide_eq_true c6
    clear c6
    by_cases c7:(ji5)<(l0.length:Int)
    ·rw [if_pos c7] at H
     have c7b0:decide ((ji5)<(l0.length:Int))=true:=decide_eq_true c7
     clear c7
     obtain ⟨ji8,hji8⟩:∃ j_:Int,(Int.tmod a1 32)=j_:=⟨_,rfl⟩
     replace H:(if 0≤(ji8) then (some ((Go.bits .and .u32 (shr .u32 (rd l0 (ji5)) (ji8)) 1) == 1)) else (none))=some r:=by first|(rw [hji8] at H;exact H)|(simp only [hji8] at H ⊢;exact H)
     by_cases c9:0≤(ji8)
     ·rw [if_pos c9] at H
      have c9b0:=eq_true c9
      have c9b1:decide (0≤(ji8))=true:=decide_eq_true c9
      clear c9
      obtain ⟨ji10,hji10⟩:∃ j_:Int,(shr .u32 (rd l0 (ji5)) (ji8))=j_:=⟨_,rfl⟩
      replace H:(some ((Go.bits .and .u32 (ji10) 1) == 1))=some r:=by first|(rw [hji10] at H;exact H)|(simp only [hji10] at H ⊢;exact H)
      have hji10_:((rd l0 (ji5)) / 2^min (ji8).toNat 32)=ji10:=hji10
      have hji10z:(ji8)≤32→((rd l0 (ji5)) / 2^(ji8).toNat)=ji10:=shr_small hji10
      obtain rfl:=Option.some.inj H
      have p556:0≤((ji5):Int):=od_
      have q556:(ji5)<(l0.length:Int):=od_
      obtain ⟨ad556,e556,hx556_0⟩:=Kd.at_int HR0.out (ji5) p556 q556
      cases e556
      replace p556:=eq_true p556
      replace q556:=eq_true q556
      go_enter Tryd.func100,Tryd.ntmps100
      go_wp2
      go_ret
      exact ⟨by first|rfl|(simp;done)|(simp only [← hji5,← hji8,← hji10] <;> (first|rfl|simp))|(simp [*];done),by repeat (first|exact Drawn0.refl _|apply Drawn0.step)⟩
     ·rw [if_neg c9] at H
      exact absurd H (by simp)
    ·rw [if_neg c7] at H
     exact absurd H (by simp)
   ·rw [if_neg c6] at H
    exact absurd H (by simp)

def r02_Low.l0:Nat→List Int→Int→Option (Int)
 | 0,_,_=>none
 | k+1,x0,x3=>(r02_Bit.f x0 x3).bind fun t558=>(if t558=true then (some x3) else (r02_Low.l0 k x0 (wrap64 (x3+1))))
def r02_Low.f (k:Nat) (l0:List Int):Option (Int):=(r02_size.f k l0).bind fun t557=>(if t557=0 then (some 0) else (r02_Low.l0 k l0 0))
set_option maxHeartbeats 3000000 in
set_option maxRecDepth 100000 in
theorem r02_Low.calls (k:Nat) (A0:Option Addr) (c0:Nat) (l0:List Int) (r:Int) (w:World) (hr0:Kd.C (Kd.int .u32) w A0 l0.length l0) (hc0:l0.length≤c0) (h:r02_Low.f k l0=some r) :
  Calls Tryd.prog 71 #[.slice A0 l0.length c0] w fun e w'=>e = .returned (.int .i64 r)∧Drawn0 w w':=by
 have HR0:=Aside0.mk hr0
 have HC0:=Aside0.mk hc0
 clear hr0 hc0
 have H:=h
 unfold r02_Low.f at H
 clear h
 obtain ⟨t557,A2,H⟩:=ob_ H
 try dsimp only at H
 by_cases c3:t557=0
 ·rw [if_pos c3] at H
  have c3b0:(t557 == 0)=true:=beq_iff_eq.mpr c3
  have c3b1:(t557 != 0)=false:=bne_eq_false_iff_eq.mpr c3
  clear c3
  obtain rfl:=Option.some.inj H
  go_enter Tryd.func71,Tryd.ntmps71
  go_wp2_with (first|((with_reducible refine gate_callee (f:=54) rfl ?_);refine goesM (some 5) Tryd.func54 #[.slice A0 l0.length c0] ?_;(with_reducible refine (r02_size.calls k _ _ l0 t557 _ ?side1 ?side2 A2.out).mono ?_);(case side1=>exact cs_ HR0.out);(case side2=>exact HC0.out);rintro e w' ⟨rfl,⟨nd,rfl⟩⟩;refine ⟨_,rfl,?_⟩))
  go_ret
  exact ⟨by first|rfl|(simp;done)|(simp [*];done),by repeat (first|exact Drawn0.refl _|apply Drawn0.step)⟩
 ·rw [if_neg c3] at H
  have c3b0:(t557 == 0)=false:=beq_eq_false_iff_ne.mpr c3
  have c3b1:(t557 != 0)=true:=bne_iff_ne.mpr c3
  have H':=Aside0.mk H
  clear H
  go_enter Tryd.func71,Tryd.ntmps71
  go_wp2_with (first|((with_reducible refine gate_callee (f:=54) rfl ?_);refine goesM (some 5) Tryd.func54 #[.slice A0 l0.length c0] ?_;(with_reducible refine (r02_size.calls k _ _ l0 t557 _ ?side1 ?side2 A2.out).mono ?_);(case side1=>exact cs_ HR0.out);(case side2=>exact HC0.out);rintro e w' ⟨rfl,⟨nd,rfl⟩⟩;refine ⟨_,rfl,?_⟩))
  go_loopg [3] k (fun kq v3 w'=>∃ (x3_1:Int),v3 = .int .i64 x3_1∧Aside0 (r02_Low.l0 kq l0 x3_1=some r)∧Aside0 (kq≤k)∧Drawn0 w w')
  case atStart=>exact ⟨(0),(by first|rfl|(simp;done)|(simp [*];done)),H',⟨Nat.le_refl _⟩,by repeat (first|exact Drawn0.refl _|apply Drawn0.step)⟩
  case round =>
   clear H'
   try clear p2
   try clear c3
   try clear c3b0
   try clear c3b1
   obtain ⟨x3_1,rfl,HA,HK1,⟨m1,rfl⟩⟩:=hrel
   cases gk with
   | zero=>exact absurd HA.out (by simp [r02_Low.l0])
   | succ k1 =>
    have H:=HA.out
    clear HA
    simp only [r02_Low.l0] at H
    obtain ⟨t558,A4,H⟩:=ob_ H
    try dsimp only at H
    by_cases c5:t558=true
    ·subst c5
     have H1:(some x3_1)=some r:=by rw [if_pos rfl] at H;exact H
     clear H
     have H:=H1
     clear H1
     obtain rfl:=Option.some.inj H
     go_wp2_with (first|((with_reducible refine gate_callee (f:=100) rfl ?_);refine goesM (some 9) Tryd.func100 #[.slice A0 l0.length c0,.int .i64 x3_1] ?_;(with_reducible refine (r02_Bit.calls _ _ l0 x3_1 true _ ?side1 ?side2 A4.out).mono ?_);(case side1=>exact cs_ HR0.out);(case side2=>exact HC0.out);rintro e w' ⟨rfl,⟨nd,rfl⟩⟩;refine ⟨_,rfl,?_⟩))
     go_ret
     exact ⟨by first|rfl|(simp;done)|(simp [*];done),by repeat (first|exact Drawn0.refl _|apply Drawn0.step)⟩
    ·replace c5:=Bool.eq_false_iff.mpr c5
     subst c5
     have H1:(r02_Low.l0 k1 l0 (wrap64 (x3_1+1)))=some r:=by rw [if_neg (show ¬ (false=true) by decide)] at H;exact H
     clear H
     have H:=H1
     clear H1
     have H':=Aside0.mk H
     clear H
     go_wp2_with (first|((with_reducible refine gate_callee (f:=100) rfl ?_);refine goesM (some 9) Tryd.func100 #[.slice A0 l0.length c0,.int .i64 x3_1] ?_;(with_reducible refine (r02_Bit.calls _ _ l0 x3_1 false _ ?side1 ?side2 A4.out).mono ?_);(case side1=>exact cs_ HR0.out);(case side2=>exact HC0.out);rintro e w' ⟨rfl,⟨nd,rfl⟩⟩;refine ⟨_,rfl,?_⟩))
     go_roundg k1
     case measure=>have:=HK1.out;omega
     case rel=>exact ⟨(wrap64 (x3_1+1)),(by first|rfl|(simp;done)|(simp [*];done)),H',⟨by have:=HK1.out;omega⟩,by repeat (first|exact Drawn0.refl _|apply Drawn0.step)⟩
end Go.Proofs.YthimlebkjnajpaaDoor.Pr
