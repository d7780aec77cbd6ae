-- short
-- written by this session's own program (wip/fprint.py), which widens the kit's print by floats
import Derived.Test.YtkoonpjlpobmeaaWShort
import Derived.Test.YtkoonpjlpobmeaaPr0
namespace Go.Proofs.Ytkoonpjlpobmeaa.Pr
open Go.RowKit Go.Proofs.YtkoonpjlpobmeaaW.PrintWords Go.Proofs.YtkoonpjlpobmeaaW.PrintLast Go.Proofs.YtkoonpjlpobmeaaW.PrintMore
attribute [local go_sem] max2_int min2_int max_two min_two max_three min_three max_four min_four   -- for this text's walks alone
set_option linter.unusedVariables false
set_option linter.unusedSimpArgs false

/-! ### policy_mayBe: function 33 -/
def policy_mayBe.m5 (s s5 : Int) : Option Bool := if s ≤ s5 then some (decide (s5 ≤ 1099511627776)) else some false
def policy_mayBe.m4 (s s4 s5 : Int) : Option Bool := if s4 < 0 then some false else if s4 > 1099511627776 then some false else policy_mayBe.m5 (wrap64 (s + s4)) s5
def policy_mayBe.m3 (s s3 s4 s5 : Int) : Option Bool := if s3 < 0 then some false else if s3 > 1099511627776 then some false else policy_mayBe.m4 (wrap64 (s + s3)) s4 s5
def policy_mayBe.m2 (s s2 s3 s4 s5 : Int) : Option Bool := if s2 < 0 then some false else if s2 > 1099511627776 then some false else policy_mayBe.m3 (wrap64 (s + s2)) s3 s4 s5
def policy_mayBe.m1 (s s1 s2 s3 s4 s5 : Int) : Option Bool := if s1 < 0 then some false else if s1 > 1099511627776 then some false else policy_mayBe.m2 (wrap64 (s + s1)) s2 s3 s4 s5
def policy_mayBe.m0 (s s0 s1 s2 s3 s4 s5 : Int) : Option Bool := if s0 < 0 then some false else if s0 > 1099511627776 then some false else policy_mayBe.m1 (wrap64 (s + s0)) s1 s2 s3 s4 s5
def policy_mayBe.f (s0 : Int) (s1 : Int) (s2 : Int) (s3 : Int) (s4 : Int) (s5 : Int) : Option (Bool) := policy_mayBe.m0 0 s0 s1 s2 s3 s4 s5
set_option maxHeartbeats 3000000 in
set_option maxRecDepth 100000 in
theorem policy_mayBe.calls (s0 : Int) (s1 : Int) (s2 : Int) (s3 : Int) (s4 : Int) (s5 : Int) (r : Bool) (w : World) (h : policy_mayBe.f s0 s1 s2 s3 s4 s5 = some r) :
  Calls Try.prog 33 #[.agg #[.int .i64 s0, .int .i64 s1, .int .i64 s2, .int .i64 s3, .int .i64 s4, .int .i64 s5]] w fun e w' => e = .returned (.bool r) ∧ Below w.heap.size w w' := by
 have i0 : ∀ w : World, (Instr.index 68 (.agg #[.int .i64 s0, .int .i64 s1, .int .i64 s2, .int .i64 s3, .int .i64 s4]) (.int .i64 0)).run Try.prog w = .ok (.int .i64 s0) w := fun _ => by kernel_rfl
 have i1 : ∀ w : World, (Instr.index 68 (.agg #[.int .i64 s0, .int .i64 s1, .int .i64 s2, .int .i64 s3, .int .i64 s4]) (.int .i64 1)).run Try.prog w = .ok (.int .i64 s1) w := fun _ => by kernel_rfl
 have i2 : ∀ w : World, (Instr.index 68 (.agg #[.int .i64 s0, .int .i64 s1, .int .i64 s2, .int .i64 s3, .int .i64 s4]) (.int .i64 2)).run Try.prog w = .ok (.int .i64 s2) w := fun _ => by kernel_rfl
 have i3 : ∀ w : World, (Instr.index 68 (.agg #[.int .i64 s0, .int .i64 s1, .int .i64 s2, .int .i64 s3, .int .i64 s4]) (.int .i64 3)).run Try.prog w = .ok (.int .i64 s3) w := fun _ => by kernel_rfl
 have i4 : ∀ w : World, (Instr.index 68 (.agg #[.int .i64 s0, .int .i64 s1, .int .i64 s2, .int .i64 s3, .int .i64 s4]) (.int .i64 4)).run Try.prog w = .ok (.int .i64 s4) w := fun _ => by kernel_rfl
 have HB : Below w.heap.size w (w.alloc (.cells #[.int .i64 s0, .int .i64 s1, .int .i64 s2, .int .i64 s3, .int .i64 s4, .int .i64 s5] 30)) := below_alloc (Below.refl w.heap.size w) _
 have H0 := Aside0.mk h
 clear h
 have HBA := Aside0.mk HB
 clear HB
 go_enter Try.func33, Try.ntmps33
 go_wp2
 go_loop [3, 17] (fun t i => ∃ S : Int, t = .int .i64 S ∧ ((i = .int .i64 0 ∧ Aside0 (policy_mayBe.m0 S s0 s1 s2 s3 s4 s5 = some r)) ∨ (i = .int .i64 1 ∧ Aside0 (policy_mayBe.m1 S s1 s2 s3 s4 s5 = some r)) ∨ (i = .int .i64 2 ∧ Aside0 (policy_mayBe.m2 S s2 s3 s4 s5 = some r)) ∨ (i = .int .i64 3 ∧ Aside0 (policy_mayBe.m3 S s3 s4 s5 = some r)) ∨ (i = .int .i64 4 ∧ Aside0 (policy_mayBe.m4 S s4 s5 = some r)) ∨ (i = .int .i64 5 ∧ Aside0 (policy_mayBe.m5 S s5 = some r)))) (fun _ i => match i with | .int _ n => 5 - n.toNat | _ => 0)
 case atStart => exact ⟨0, rfl, .inl ⟨rfl, H0⟩⟩
 case round =>
  clear H0
  obtain ⟨S, rfl, hk⟩ := hrel
  rcases hk with ⟨rfl, HA⟩ | ⟨rfl, HA⟩ | ⟨rfl, HA⟩ | ⟨rfl, HA⟩ | ⟨rfl, HA⟩ | ⟨rfl, HA⟩
  ·have H := HA.out
   clear HA
   unfold policy_mayBe.m0 at H
   by_cases c : s0 < 0
   ·rw [if_pos c] at H
    obtain rfl := Option.some.inj H
    have cb := decide_eq_true c
    clear c H
    go_wp2
    go_ret
    exact ⟨rfl, HBA.out⟩
   ·rw [if_neg c] at H
    have cb := decide_eq_false c
    clear c
    by_cases d : s0 > 1099511627776
    ·rw [if_pos d] at H
     obtain rfl := Option.some.inj H
     have db := decide_eq_true d
     clear d H
     go_wp2
     go_ret
     exact ⟨rfl, HBA.out⟩
    ·rw [if_neg d] at H
     have db := decide_eq_false d
     clear d
     have HX := Aside0.mk H
     clear H
     go_wp2
     exact ⟨⟨_, rfl, .inr (.inl ⟨rfl, HX⟩)⟩, by decide⟩
  ·have H := HA.out
   clear HA
   unfold policy_mayBe.m1 at H
   by_cases c : s1 < 0
   ·rw [if_pos c] at H
    obtain rfl := Option.some.inj H
    have cb := decide_eq_true c
    clear c H
    go_wp2
    go_ret
    exact ⟨rfl, HBA.out⟩
   ·rw [if_neg c] at H
    have cb := decide_eq_false c
    clear c
    by_cases d : s1 > 1099511627776
    ·rw [if_pos d] at H
     obtain rfl := Option.some.inj H
     have db := decide_eq_true d
     clear d H
     go_wp2
     go_ret
     exact ⟨rfl, HBA.out⟩
    ·rw [if_neg d] at H
     have db := decide_eq_false d
     clear d
     have HX := Aside0.mk H
     clear H
     go_wp2
     exact ⟨⟨_, rfl, .inr (.inr (.inl ⟨rfl, HX⟩))⟩, by decide⟩
  ·have H := HA.out
   clear HA
   unfold policy_mayBe.m2 at H
   by_cases c : s2 < 0
   ·rw [if_pos c] at H
    obtain rfl := Option.some.inj H
    have cb := decide_eq_true c
    clear c H
    go_wp2
    go_ret
    exact ⟨rfl, HBA.out⟩
   ·rw [if_neg c] at H
    have cb := decide_eq_false c
    clear c
    by_cases d : s2 > 1099511627776
    ·rw [if_pos d] at H
     obtain rfl := Option.some.inj H
     have db := decide_eq_true d
     clear d H
     go_wp2
     go_ret
     exact ⟨rfl, HBA.out⟩
    ·rw [if_neg d] at H
     have db := decide_eq_false d
     clear d
     have HX := Aside0.mk H
     clear H
     go_wp2
     exact ⟨⟨_, rfl, .inr (.inr (.inr (.inl ⟨rfl, HX⟩)))⟩, by decide⟩
  ·have H := HA.out
   clear HA
   unfold policy_mayBe.m3 at H
   by_cases c : s3 < 0
   ·rw [if_pos c] at H
    obtain rfl := Option.some.inj H
    have cb := decide_eq_true c
    clear c H
    go_wp2
    go_ret
    exact ⟨rfl, HBA.out⟩
   ·rw [if_neg c] at H
    have cb := decide_eq_false c
    clear c
    by_cases d : s3 > 1099511627776
    ·rw [if_pos d] at H
     obtain rfl := Option.some.inj H
     have db := decide_eq_true d
     clear d H
     go_wp2
     go_ret
     exact ⟨rfl, HBA.out⟩
    ·rw [if_neg d] at H
     have db := decide_eq_false d
     clear d
     have HX := Aside0.mk H
     clear H
     go_wp2
     exact ⟨⟨_, rfl, .inr (.inr (.inr (.inr (.inl ⟨rfl, HX⟩))))⟩, by decide⟩
  ·have H := HA.out
   clear HA
   unfold policy_mayBe.m4 at H
   by_cases c : s4 < 0
   ·rw [if_pos c] at H
    obtain rfl := Option.some.inj H
    have cb := decide_eq_true c
    clear c H
    go_wp2
    go_ret
    exact ⟨rfl, HBA.out⟩
   ·rw [if_neg c] at H
    have cb := decide_eq_false c
    clear c
    by_cases d : s4 > 1099511627776
    ·rw [if_pos d] at H
     obtain rfl := Option.some.inj H
     have db := decide_eq_true d
     clear d H
     go_wp2
     go_ret
     exact ⟨rfl, HBA.out⟩
    ·rw [if_neg d] at H
     have db := decide_eq_false d
     clear d
     have HX := Aside0.mk H
     clear H
     go_wp2
     exact ⟨⟨_, rfl, .inr (.inr (.inr (.inr (.inr ⟨rfl, HX⟩))))⟩, by decide⟩
  ·have H := HA.out
   clear HA
   unfold policy_mayBe.m5 at H
   by_cases c : S ≤ s5
   ·rw [if_pos c] at H
    obtain rfl := Option.some.inj H
    have cb := decide_eq_true c
    clear c H
    go_wp2
    go_ret
    exact ⟨rfl, HBA.out⟩
   ·rw [if_neg c] at H
    obtain rfl := Option.some.inj H
    have cb := decide_eq_false c
    clear c H
    go_wp2
    go_ret
    exact ⟨rfl, HBA.out⟩

/-! ### bits_NaN: function 34 -/
def bits_NaN.f  : Option (Nat) := some 9221120237041090560
set_option maxHeartbeats 3000000 in
set_option maxRecDepth 100000 in
theorem bits_NaN.calls  (r : Nat) (w : World) (h : bits_NaN.f  = some r) :
  Calls Try.prog 34 #[] w fun e w' => e = .returned (.float .f64 r) ∧ Drawn0 w w' := by
 have H : (some 9221120237041090560) = some r := h
 clear h
 obtain rfl := Option.some.inj H
 go_enter Try.func34, Try.ntmps34
 go_wp2
 go_ret
 exact ⟨by first | rfl | (simp; done) | (simp [*]; done), by repeat (first | exact Drawn0.refl _ | apply Drawn0.step)⟩

/-! ### math_Inf: function 35 -/
def math_Inf.f (a0 : Int) : Option (Nat) := if a0 ≥ 0 then (some 9218868437227405312) else (some 18442240474082181120)
set_option maxHeartbeats 3000000 in
set_option maxRecDepth 100000 in
theorem math_Inf.calls (a0 : Int) (r : Nat) (w : World) (h : math_Inf.f a0 = some r) :
  Calls Try.prog 35 #[.int .i64 a0] w fun e w' => e = .returned (.float .f64 r) ∧ Drawn0 w w' := by
 have H : (if a0 ≥ 0 then (some 9218868437227405312) else (some 18442240474082181120)) = some r := h
 clear h
 by_cases c2 : a0 ≥ 0
 ·rw [if_pos c2] at H
  have c2b0 : decide (0 ≤ a0) = true := decide_eq_true c2
  clear c2
  obtain rfl := Option.some.inj H
  go_enter Try.func35, Try.ntmps35
  go_wp2
  go_ret
  exact ⟨by first | rfl | (simp; done) | (simp [*]; done), by repeat (first | exact Drawn0.refl _ | apply Drawn0.step)⟩
 ·rw [if_neg c2] at H
  have c2b0 : decide (0 ≤ a0) = false := decide_eq_false c2
  clear c2
  obtain rfl := Option.some.inj H
  go_enter Try.func35, Try.ntmps35
  go_wp2
  go_ret
  exact ⟨by first | rfl | (simp; done) | (simp [*]; done), by repeat (first | exact Drawn0.refl _ | apply Drawn0.step)⟩

end Go.Proofs.Ytkoonpjlpobmeaa.Pr
