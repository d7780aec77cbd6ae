-- short
-- written by this session's own program (wip/fprint.py), which widens the kit's print by floats
import Derived.Test.YtdemanikmaafeaaPr0
import Derived.Test.YtdemanikmaafeaaPr1
import Derived.Test.YtdemanikmaafeaaPr17
import Derived.Test.YtdemanikmaafeaaPr21
import Derived.Test.YtdemanikmaafeaaPr24
import Derived.Test.YtdemanikmaafeaaPr25
namespace Go.Proofs.Ytdemanikmaafeaa.Pr
open Go.RowKit Go.Proofs.YtdemanikmaafeaaW.PrintWords Go.Proofs.YtdemanikmaafeaaW.PrintLast Go.Proofs.YtdemanikmaafeaaW.PrintMore
attribute [local go_sem] max2_int min2_int max_two min_two max_three min_three max_four min_four   -- for this text's walks alone
set_option linter.unusedVariables false
set_option linter.unusedSimpArgs false

/-! ### steelyardref05_Times: function 46 -/
mutual
def steelyardref05_Times.j0 : Nat → Nat → Nat → Bool → Bool → Bool → Bool → Bool → Bool → Option (Nat)
 | 0, _, _, _, _, _, _, _, _ => none
 | k + 1, x0, x1, x5, x8, x9, x10, x11, x37 => if x37 = true then ((steelyardref05_Odd.f).bind fun t587 => (some t587)) else (if x8 = true then (steelyardref05_Times.j1 k x0 x1 x5 x10 x11 true) else (steelyardref05_Times.j1 k x0 x1 x5 x10 x11 x9))
def steelyardref05_Times.j1 : Nat → Nat → Nat → Bool → Bool → Bool → Bool → Option (Nat)
 | 0, _, _, _, _, _, _ => none
 | k + 1, x0, x1, x5, x10, x11, x55 => if x55 = true then ((steelyardref05_signed.f 9218868437227405312 x5).bind fun t588 => (some t588)) else (if x10 = true then ((steelyardref05_signed.f 0 x5).bind fun t589 => (some t589)) else (if x11 = true then ((steelyardref05_signed.f 0 x5).bind fun t590 => (some t590)) else ((steelyardref03_Of.f k x0).bind fun bt591 => ((steelyardref03_Of.f k x1).bind fun bt598 => ((steelyardref03_Mul.f k bt591.1 bt591.2.1 bt591.2.2.1 bt598.1 bt598.2.1 bt598.2.2.1).bind fun bt605 => ((steelyardref03_Round.f k bt605.1 bt605.2.1 bt605.2.2.1 0).bind fun bt612 => (some bt612.1)))))))
end
def steelyardref05_Times.f (k : Nat) (a0 : Nat) (a1 : Nat) : Option (Nat) := (steelyardref05_Neg.f a0).bind fun t579 => ((steelyardref05_Neg.f a1).bind fun t580 => ((steelyardref05_IsOdd.f a0).bind fun t581 => ((steelyardref05_IsOdd.f a1).bind fun t582 => ((steelyardref05_IsEndless.f a0).bind fun t583 => ((steelyardref05_IsEndless.f a1).bind fun t584 => ((steelyardref05_IsNought.f a0).bind fun t585 => ((steelyardref05_IsNought.f a1).bind fun t586 => (if t581 = true then (steelyardref05_Times.j0 k a0 a1 (t579 != t580) t583 t584 t585 t586 true) else (if t582 = true then (steelyardref05_Times.j0 k a0 a1 (t579 != t580) t583 t584 t585 t586 true) else (if t583 = true then (if t586 = true then (steelyardref05_Times.j0 k a0 a1 (t579 != t580) t583 t584 t585 t586 true) else (if t584 = true then (steelyardref05_Times.j0 k a0 a1 (t579 != t580) t583 t584 t585 t586 t585) else (steelyardref05_Times.j0 k a0 a1 (t579 != t580) t583 t584 t585 t586 false))) else (if t584 = true then (steelyardref05_Times.j0 k a0 a1 (t579 != t580) t583 t584 t585 t586 t585) else (steelyardref05_Times.j0 k a0 a1 (t579 != t580) t583 t584 t585 t586 false))))))))))))
theorem steelyardref05_Times.mono_l : ∀ k, (∀ y0 y1 y2 y3 y4 y5 y6 y7, LeO (steelyardref05_Times.j0 k y0 y1 y2 y3 y4 y5 y6 y7) (steelyardref05_Times.j0 (k + 1) y0 y1 y2 y3 y4 y5 y6 y7)) ∧ (∀ y0 y1 y2 y3 y4 y5, LeO (steelyardref05_Times.j1 k y0 y1 y2 y3 y4 y5) (steelyardref05_Times.j1 (k + 1) y0 y1 y2 y3 y4 y5))
 | 0 => ⟨fun _ _ _ _ _ _ _ _ r h => by simp [steelyardref05_Times.j0] at h, fun _ _ _ _ _ _ r h => by simp [steelyardref05_Times.j1] at h⟩
 | k + 1 => by
  obtain ⟨ih0, ih1⟩ := steelyardref05_Times.mono_l k
  refine ⟨?_, ?_⟩
  ·intro y0 y1 y2 y3 y4 y5 y6 y7
   unfold steelyardref05_Times.j0
   repeat' first
   | (with_reducible exact ih0 _ _ _ _ _ _ _ _)
   | (with_reducible exact ih1 _ _ _ _ _ _)
   | (with_reducible exact steelyardref03_Mul.mono _ _ _ _ _ _ _)
   | (with_reducible exact steelyardref03_Of.mono _ _)
   | (with_reducible exact steelyardref03_Round.mono _ _ _ _ _)
   | (with_reducible exact LeO.refl _)
   | (with_reducible exact LeO.none _)
   | (with_reducible refine LeO.ite ?_ ?_)
   | (with_reducible refine LeO.bind ?_ (fun _ => ?_))
   | exact ih0 _ _ _ _ _ _ _ _
   | exact ih1 _ _ _ _ _ _
   | exact steelyardref03_Mul.mono _ _ _ _ _ _ _
   | exact steelyardref03_Of.mono _ _
   | exact steelyardref03_Round.mono _ _ _ _ _
   | exact LeO.none _
   | refine LeO.ite ?_ ?_
   | refine LeO.bind ?_ (fun _ => ?_)
  ·intro y0 y1 y2 y3 y4 y5
   unfold steelyardref05_Times.j1
   repeat' first
   | (with_reducible exact ih0 _ _ _ _ _ _ _ _)
   | (with_reducible exact ih1 _ _ _ _ _ _)
   | (with_reducible exact steelyardref03_Mul.mono _ _ _ _ _ _ _)
   | (with_reducible exact steelyardref03_Of.mono _ _)
   | (with_reducible exact steelyardref03_Round.mono _ _ _ _ _)
   | (with_reducible exact LeO.refl _)
   | (with_reducible exact LeO.none _)
   | (with_reducible refine LeO.ite ?_ ?_)
   | (with_reducible refine LeO.bind ?_ (fun _ => ?_))
   | exact ih0 _ _ _ _ _ _ _ _
   | exact ih1 _ _ _ _ _ _
   | exact steelyardref03_Mul.mono _ _ _ _ _ _ _
   | exact steelyardref03_Of.mono _ _
   | exact steelyardref03_Round.mono _ _ _ _ _
   | exact LeO.none _
   | refine LeO.ite ?_ ?_
   | refine LeO.bind ?_ (fun _ => ?_)
theorem steelyardref05_Times.mono : ∀ a0 a1 k, LeO (steelyardref05_Times.f k a0 a1) (steelyardref05_Times.f (k + 1) a0 a1) := by
 intro a0 a1 k
 obtain ⟨ih0, ih1⟩ := steelyardref05_Times.mono_l k
 unfold steelyardref05_Times.f
 repeat' first
   | (with_reducible exact ih0 _ _ _ _ _ _ _ _)
   | (with_reducible exact ih1 _ _ _ _ _ _)
   | (with_reducible exact steelyardref03_Mul.mono _ _ _ _ _ _ _)
   | (with_reducible exact steelyardref03_Of.mono _ _)
   | (with_reducible exact steelyardref03_Round.mono _ _ _ _ _)
   | (with_reducible exact LeO.refl _)
   | (with_reducible exact LeO.none _)
   | (with_reducible refine LeO.ite ?_ ?_)
   | (with_reducible refine LeO.bind ?_ (fun _ => ?_))
   | exact ih0 _ _ _ _ _ _ _ _
   | exact ih1 _ _ _ _ _ _
   | exact steelyardref03_Mul.mono _ _ _ _ _ _ _
   | exact steelyardref03_Of.mono _ _
   | exact steelyardref03_Round.mono _ _ _ _ _
   | exact LeO.none _
   | refine LeO.ite ?_ ?_
   | refine LeO.bind ?_ (fun _ => ?_)
set_option maxHeartbeats 3000000 in
set_option maxRecDepth 100000 in
theorem steelyardref05_Times.calls (k : Nat) (a0 : Nat) (a1 : Nat) (r : Nat) (w : World) (h : steelyardref05_Times.f k a0 a1 = some r) :
  Calls Try.prog 46 #[.float .f64 a0, .float .f64 a1] w fun e w' => e = .returned (.float .f64 r) ∧ Below w.heap.size w w' := by
 have hu43 := Try.underlying43
 have HB := Aside0.mk (Below.refl w.heap.size w)
 have H : ((steelyardref05_Neg.f a0).bind fun t579 => ((steelyardref05_Neg.f a1).bind fun t580 => ((steelyardref05_IsOdd.f a0).bind fun t581 => ((steelyardref05_IsOdd.f a1).bind fun t582 => ((steelyardref05_IsEndless.f a0).bind fun t583 => ((steelyardref05_IsEndless.f a1).bind fun t584 => ((steelyardref05_IsNought.f a0).bind fun t585 => ((steelyardref05_IsNought.f a1).bind fun t586 => (if t581 = true then (steelyardref05_Times.j0 k a0 a1 (t579 != t580) t583 t584 t585 t586 true) else (if t582 = true then (steelyardref05_Times.j0 k a0 a1 (t579 != t580) t583 t584 t585 t586 true) else (if t583 = true then (if t586 = true then (steelyardref05_Times.j0 k a0 a1 (t579 != t580) t583 t584 t585 t586 true) else (if t584 = true then (steelyardref05_Times.j0 k a0 a1 (t579 != t580) t583 t584 t585 t586 t585) else (steelyardref05_Times.j0 k a0 a1 (t579 != t580) t583 t584 t585 t586 false))) else (if t584 = true then (steelyardref05_Times.j0 k a0 a1 (t579 != t580) t583 t584 t585 t586 t585) else (steelyardref05_Times.j0 k a0 a1 (t579 != t580) t583 t584 t585 t586 false))))))))))))) = some r := h
 clear h
 obtain ⟨t579, A3, H⟩ := ob_ H
 try dsimp only at H
 obtain ⟨t580, A4, H⟩ := ob_ H
 try dsimp only at H
 obtain ⟨t581, A5, H⟩ := ob_ H
 try dsimp only at H
 obtain ⟨t582, A6, H⟩ := ob_ H
 try dsimp only at H
 obtain ⟨t583, A7, H⟩ := ob_ H
 try dsimp only at H
 obtain ⟨t584, A8, H⟩ := ob_ H
 try dsimp only at H
 obtain ⟨t585, A9, H⟩ := ob_ H
 try dsimp only at H
 obtain ⟨t586, A10, H⟩ := ob_ H
 try dsimp only at H
 have HC11 := Aside0.mk H
 clear H
 go_enter Try.func46, Try.ntmps46
 go_upto_region 8 with (first | ((with_reducible refine gate_callee (f := 68) rfl ?_); refine goesM (some 21) Try.func68 #[.float .f64 a0] ?_; (with_reducible refine (steelyardref05_Neg.calls a0 t579 _ A3.out).mono ?_); rintro e w' ⟨rfl, ⟨nd, rfl⟩⟩; refine ⟨_, rfl, ?_⟩) | ((with_reducible refine gate_callee (f := 68) rfl ?_); refine goesM (some 23) Try.func68 #[.float .f64 a1] ?_; (with_reducible refine (steelyardref05_Neg.calls a1 t580 _ A4.out).mono ?_); rintro e w' ⟨rfl, ⟨nd, rfl⟩⟩; refine ⟨_, rfl, ?_⟩) | ((with_reducible refine gate_callee (f := 66) rfl ?_); refine goesM (some 26) Try.func66 #[.float .f64 a0] ?_; (with_reducible refine (steelyardref05_IsOdd.calls a0 t581 _ A5.out).mono ?_); rintro e w' ⟨rfl, ⟨nd, rfl⟩⟩; refine ⟨_, rfl, ?_⟩) | ((with_reducible refine gate_callee (f := 66) rfl ?_); refine goesM (some 28) Try.func66 #[.float .f64 a1] ?_; (with_reducible refine (steelyardref05_IsOdd.calls a1 t582 _ A6.out).mono ?_); rintro e w' ⟨rfl, ⟨nd, rfl⟩⟩; refine ⟨_, rfl, ?_⟩) | ((with_reducible refine gate_callee (f := 67) rfl ?_); refine goesM (some 30) Try.func67 #[.float .f64 a0] ?_; (with_reducible refine (steelyardref05_IsEndless.calls a0 t583 _ A7.out).mono ?_); rintro e w' ⟨rfl, ⟨nd, rfl⟩⟩; refine ⟨_, rfl, ?_⟩) | ((with_reducible refine gate_callee (f := 67) rfl ?_); refine goesM (some 32) Try.func67 #[.float .f64 a1] ?_; (with_reducible refine (steelyardref05_IsEndless.calls a1 t584 _ A8.out).mono ?_); rintro e w' ⟨rfl, ⟨nd, rfl⟩⟩; refine ⟨_, rfl, ?_⟩) | ((with_reducible refine gate_callee (f := 56) rfl ?_); refine goesM (some 34) Try.func56 #[.float .f64 a0] ?_; (with_reducible refine (steelyardref05_IsNought.calls a0 t585 _ A9.out).mono ?_); rintro e w' ⟨rfl, ⟨nd, rfl⟩⟩; refine ⟨_, rfl, ?_⟩) | ((with_reducible refine gate_callee (f := 56) rfl ?_); refine goesM (some 36) Try.func56 #[.float .f64 a1] ?_; (with_reducible refine (steelyardref05_IsNought.calls a1 t586 _ A10.out).mono ?_); rintro e w' ⟨rfl, ⟨nd, rfl⟩⟩; refine ⟨_, rfl, ?_⟩))
 (try simp only [Act.put, List.setIfInBounds_toArray, List.set_cons_zero, List.set_cons_succ])
 go_cut [37] (fun v37 wc => ∃ (kq : Nat) (x37_10 : Bool), v37 = .bool x37_10 ∧ Aside0 (steelyardref05_Times.j0 kq a0 a1 (t579 != t580) t583 t584 t585 t586 x37_10 = some r) ∧ Aside0 (kq ≤ k) ∧ Aside0 (Below w.heap.size w wc))
 case first =>
  have H := HC11.out
  clear HC11
  by_cases c12 : t581 = true
  ·subst c12
   have H1 : (steelyardref05_Times.j0 k a0 a1 (t579 != t580) t583 t584 t585 t586 true) = some r := by rw [if_pos rfl] at H; exact H
   clear H
   have H := H1
   clear H1
   have H' := Aside0.mk H
   clear H
   go_wp2
   go_meet
   case rel => exact ⟨_, (true), (by first | rfl | (simp; done) | (simp [*]; done)), H', ⟨by first | omega | exact Nat.le_refl _⟩, ⟨bl_ HB⟩⟩
  ·replace c12 := Bool.eq_false_iff.mpr c12
   subst c12
   have H1 : (if t582 = true then (steelyardref05_Times.j0 k a0 a1 (t579 != t580) t583 t584 t585 t586 true) else (if t583 = true then (if t586 = true then (steelyardref05_Times.j0 k a0 a1 (t579 != t580) t583 t584 t585 t586 true) else (if t584 = true then (steelyardref05_Times.j0 k a0 a1 (t579 != t580) t583 t584 t585 t586 t585) else (steelyardref05_Times.j0 k a0 a1 (t579 != t580) t583 t584 t585 t586 false))) else (if t584 = true then (steelyardref05_Times.j0 k a0 a1 (t579 != t580) t583 t584 t585 t586 t585) else (steelyardref05_Times.j0 k a0 a1 (t579 != t580) t583 t584 t585 t586 false)))) = some r := by rw [if_neg (show ¬ (false = true) by decide)] at H; exact H
   clear H
   have H := H1
   clear H1
   by_cases c13 : t582 = true
   ·subst c13
    have H1 : (steelyardref05_Times.j0 k a0 a1 (t579 != t580) t583 t584 t585 t586 true) = some r := by rw [if_pos rfl] at H; exact H
    clear H
    have H := H1
    clear H1
    have H' := Aside0.mk H
    clear H
    go_wp2
    go_meet
    case rel => exact ⟨_, (true), (by first | rfl | (simp; done) | (simp [*]; done)), H', ⟨by first | omega | exact Nat.le_refl _⟩, ⟨bl_ HB⟩⟩
   ·replace c13 := Bool.eq_false_iff.mpr c13
    subst c13
    have H1 : (if t583 = true then (if t586 = true then (steelyardref05_Times.j0 k a0 a1 (t579 != t580) t583 t584 t585 t586 true) else (if t584 = true then (steelyardref05_Times.j0 k a0 a1 (t579 != t580) t583 t584 t585 t586 t585) else (steelyardref05_Times.j0 k a0 a1 (t579 != t580) t583 t584 t585 t586 false))) else (if t584 = true then (steelyardref05_Times.j0 k a0 a1 (t579 != t580) t583 t584 t585 t586 t585) else (steelyardref05_Times.j0 k a0 a1 (t579 != t580) t583 t584 t585 t586 false))) = some r := by rw [if_neg (show ¬ (false = true) by decide)] at H; exact H
    clear H
    have H := H1
    clear H1
    by_cases c14 : t583 = true
    ·subst c14
     have H1 : (if t586 = true then (steelyardref05_Times.j0 k a0 a1 (t579 != t580) true t584 t585 t586 true) else (if t584 = true then (steelyardref05_Times.j0 k a0 a1 (t579 != t580) true t584 t585 t586 t585) else (steelyardref05_Times.j0 k a0 a1 (t579 != t580) true t584 t585 t586 false))) = some r := by rw [if_pos rfl] at H; exact H
     clear H
     have H := H1
     clear H1
     by_cases c15 : t586 = true
     ·subst c15
      have H1 : (steelyardref05_Times.j0 k a0 a1 (t579 != t580) true t584 t585 true true) = some r := by rw [if_pos rfl] at H; exact H
      clear H
      have H := H1
      clear H1
      have H' := Aside0.mk H
      clear H
      go_wp2
      go_meet
      case rel => exact ⟨_, (true), (by first | rfl | (simp; done) | (simp [*]; done)), H', ⟨by first | omega | exact Nat.le_refl _⟩, ⟨bl_ HB⟩⟩
     ·replace c15 := Bool.eq_false_iff.mpr c15
      subst c15
      have H1 : (if t584 = true then (steelyardref05_Times.j0 k a0 a1 (t579 != t580) true t584 t585 false t585) else (steelyardref05_Times.j0 k a0 a1 (t579 != t580) true t584 t585 false false)) = some r := by rw [if_neg (show ¬ (false = true) by decide)] at H; exact H
      clear H
      have H := H1
      clear H1
      by_cases c16 : t584 = true
      ·subst c16
       have H1 : (steelyardref05_Times.j0 k a0 a1 (t579 != t580) true true t585 false t585) = some r := by rw [if_pos rfl] at H; exact H
       clear H
       have H := H1
       clear H1
       have H' := Aside0.mk H
       clear H
       go_wp2
       go_meet
       case rel => exact ⟨_, (t585), (by first | rfl | (simp; done) | (simp [*]; done)), H', ⟨by first | omega | exact Nat.le_refl _⟩, ⟨bl_ HB⟩⟩
      ·replace c16 := Bool.eq_false_iff.mpr c16
       subst c16
       have H1 : (steelyardref05_Times.j0 k a0 a1 (t579 != t580) true false t585 false false) = some r := by rw [if_neg (show ¬ (false = true) by decide)] at H; exact H
       clear H
       have H := H1
       clear H1
       have H' := Aside0.mk H
       clear H
       go_wp2
       go_meet
       case rel => exact ⟨_, (false), (by first | rfl | (simp; done) | (simp [*]; done)), H', ⟨by first | omega | exact Nat.le_refl _⟩, ⟨bl_ HB⟩⟩
    ·replace c14 := Bool.eq_false_iff.mpr c14
     subst c14
     have H1 : (if t584 = true then (steelyardref05_Times.j0 k a0 a1 (t579 != t580) false t584 t585 t586 t585) else (steelyardref05_Times.j0 k a0 a1 (t579 != t580) false t584 t585 t586 false)) = some r := by rw [if_neg (show ¬ (false = true) by decide)] at H; exact H
     clear H
     have H := H1
     clear H1
     by_cases c17 : t584 = true
     ·subst c17
      have H1 : (steelyardref05_Times.j0 k a0 a1 (t579 != t580) false true t585 t586 t585) = some r := by rw [if_pos rfl] at H; exact H
      clear H
      have H := H1
      clear H1
      have H' := Aside0.mk H
      clear H
      go_wp2
      go_meet
      case rel => exact ⟨_, (t585), (by first | rfl | (simp; done) | (simp [*]; done)), H', ⟨by first | omega | exact Nat.le_refl _⟩, ⟨bl_ HB⟩⟩
     ·replace c17 := Bool.eq_false_iff.mpr c17
      subst c17
      have H1 : (steelyardref05_Times.j0 k a0 a1 (t579 != t580) false false t585 t586 false) = some r := by rw [if_neg (show ¬ (false = true) by decide)] at H; exact H
      clear H
      have H := H1
      clear H1
      have H' := Aside0.mk H
      clear H
      go_wp2
      go_meet
      case rel => exact ⟨_, (false), (by first | rfl | (simp; done) | (simp [*]; done)), H', ⟨by first | omega | exact Nat.le_refl _⟩, ⟨bl_ HB⟩⟩
 case rest =>
  clear HC11
  try clear c1
  try clear p2
  try clear c4
  try clear c5
  try clear c6
  try clear c12
  try clear c13
  try clear c14
  try clear c15
  try clear c16
  try clear c17
  obtain ⟨kq, x37_10, rfl, HA, HJ10, HB⟩ := hcut
  cases kq with
  | zero => exact absurd HA.out (by simp [steelyardref05_Times.j0])
  | succ kj10 =>
   have H := HA.out
   clear HA
   simp only [steelyardref05_Times.j0] at H
   by_cases c18 : x37_10 = true
   ·subst c18
    have H1 : ((steelyardref05_Odd.f).bind fun t587 => (some t587)) = some r := by rw [if_pos rfl] at H; exact H
    clear H
    have H := H1
    clear H1
    obtain ⟨t587, A19, H⟩ := ob_ H
    try dsimp only at H
    obtain rfl := Option.some.inj H
    go_wp2_with (first | ((with_reducible refine gate_callee (f := 9) rfl ?_); refine goesM (some 54) Try.func9 #[] ?_; (with_reducible refine (steelyardref05_Odd.calls  t587 _ A19.out).mono ?_); rintro e w' ⟨rfl, ⟨nd, rfl⟩⟩; refine ⟨_, rfl, ?_⟩))
    go_ret
    exact ⟨by first | rfl | (simp [errW_none, errW_some] <;> rfl) | (simp [*, errW_none, errW_some] <;> rfl), bl_ HB⟩
   ·replace c18 := Bool.eq_false_iff.mpr c18
    subst c18
    have H1 : (if t583 = true then (steelyardref05_Times.j1 kj10 a0 a1 (t579 != t580) t585 t586 true) else (steelyardref05_Times.j1 kj10 a0 a1 (t579 != t580) t585 t586 t584)) = some r := by rw [if_neg (show ¬ (false = true) by decide)] at H; exact H
    clear H
    have H := H1
    clear H1
    have HC20 := Aside0.mk H
    clear H
    go_upto_region 10 with (fail)
    go_cut [55] (fun v55 wc => ∃ (kq : Nat) (x55_19 : Bool), v55 = .bool x55_19 ∧ Aside0 (steelyardref05_Times.j1 kq a0 a1 (t579 != t580) t585 t586 x55_19 = some r) ∧ Aside0 (kq ≤ kj10) ∧ Aside0 (Below w.heap.size w wc))
    case first =>
     have H := HC20.out
     clear HC20
     by_cases c21 : t583 = true
     ·subst c21
      have H1 : (steelyardref05_Times.j1 kj10 a0 a1 (t579 != t580) t585 t586 true) = some r := by rw [if_pos rfl] at H; exact H
      clear H
      have H := H1
      clear H1
      have H' := Aside0.mk H
      clear H
      go_wp2
      go_meet
      case rel => exact ⟨_, (true), (by first | rfl | (simp; done) | (simp [*]; done)), H', ⟨by have := HJ10.out; first | omega | exact Nat.le_refl _⟩, ⟨bl_ HB⟩⟩
     ·replace c21 := Bool.eq_false_iff.mpr c21
      subst c21
      have H1 : (steelyardref05_Times.j1 kj10 a0 a1 (t579 != t580) t585 t586 t584) = some r := by rw [if_neg (show ¬ (false = true) by decide)] at H; exact H
      clear H
      have H := H1
      clear H1
      have H' := Aside0.mk H
      clear H
      go_wp2
      go_meet
      case rel => exact ⟨_, (t584), (by first | rfl | (simp; done) | (simp [*]; done)), H', ⟨by have := HJ10.out; first | omega | exact Nat.le_refl _⟩, ⟨bl_ HB⟩⟩
    case rest =>
     clear HC20
     try clear c1
     try clear c2
     try clear p2
     try clear c4
     try clear c5
     try clear c6
     try clear c9
     try clear c12
     try clear c13
     try clear c14
     try clear c15
     try clear c16
     try clear c17
     try clear c18
     try clear c21
     try clear p2
     obtain ⟨kq, x55_19, rfl, HA, HJ19, HB⟩ := hcut
     cases kq with
     | zero => exact absurd HA.out (by simp [steelyardref05_Times.j1])
     | succ kj19 =>
      have H := HA.out
      clear HA
      simp only [steelyardref05_Times.j1] at H
      by_cases c22 : x55_19 = true
      ·subst c22
       have H1 : ((steelyardref05_signed.f 9218868437227405312 (t579 != t580)).bind fun t588 => (some t588)) = some r := by rw [if_pos rfl] at H; exact H
       clear H
       have H := H1
       clear H1
       obtain ⟨t588, A23, H⟩ := ob_ H
       try dsimp only at H
       obtain rfl := Option.some.inj H
       go_wp2_with (first | ((with_reducible refine gate_callee (f := 69) rfl ?_); refine goesM (some 61) Try.func69 #[.int .u64 9218868437227405312, .bool (t579 != t580)] ?_; (with_reducible refine (steelyardref05_signed.calls 9218868437227405312 (t579 != t580) t588 _ A23.out).mono ?_); rintro e w' ⟨rfl, ⟨nd, rfl⟩⟩; refine ⟨_, rfl, ?_⟩))
       go_ret
       exact ⟨by first | rfl | (simp [errW_none, errW_some] <;> rfl) | (simp [*, errW_none, errW_some] <;> rfl), bl_ HB⟩
      ·replace c22 := Bool.eq_false_iff.mpr c22
       subst c22
       have H1 : (if t585 = true then ((steelyardref05_signed.f 0 (t579 != t580)).bind fun t589 => (some t589)) else (if t586 = true then ((steelyardref05_signed.f 0 (t579 != t580)).bind fun t590 => (some t590)) else ((steelyardref03_Of.f kj19 a0).bind fun bt591 => ((steelyardref03_Of.f kj19 a1).bind fun bt598 => ((steelyardref03_Mul.f kj19 bt591.1 bt591.2.1 bt591.2.2.1 bt598.1 bt598.2.1 bt598.2.2.1).bind fun bt605 => ((steelyardref03_Round.f kj19 bt605.1 bt605.2.1 bt605.2.2.1 0).bind fun bt612 => (some bt612.1))))))) = some r := by rw [if_neg (show ¬ (false = true) by decide)] at H; exact H
       clear H
       have H := H1
       clear H1
       by_cases c24 : t585 = true
       ·subst c24
        have H1 : ((steelyardref05_signed.f 0 (t579 != t580)).bind fun t589 => (some t589)) = some r := by rw [if_pos rfl] at H; exact H
        clear H
        have H := H1
        clear H1
        obtain ⟨t589, A25, H⟩ := ob_ H
        try dsimp only at H
        obtain rfl := Option.some.inj H
        go_wp2_with (first | ((with_reducible refine gate_callee (f := 69) rfl ?_); refine goesM (some 68) Try.func69 #[.int .u64 0, .bool (t579 != t580)] ?_; (with_reducible refine (steelyardref05_signed.calls 0 (t579 != t580) t589 _ A25.out).mono ?_); rintro e w' ⟨rfl, ⟨nd, rfl⟩⟩; refine ⟨_, rfl, ?_⟩))
        go_ret
        exact ⟨by first | rfl | (simp [errW_none, errW_some] <;> rfl) | (simp [*, errW_none, errW_some] <;> rfl), bl_ HB⟩
       ·replace c24 := Bool.eq_false_iff.mpr c24
        subst c24
        have H1 : (if t586 = true then ((steelyardref05_signed.f 0 (t579 != t580)).bind fun t590 => (some t590)) else ((steelyardref03_Of.f kj19 a0).bind fun bt591 => ((steelyardref03_Of.f kj19 a1).bind fun bt598 => ((steelyardref03_Mul.f kj19 bt591.1 bt591.2.1 bt591.2.2.1 bt598.1 bt598.2.1 bt598.2.2.1).bind fun bt605 => ((steelyardref03_Round.f kj19 bt605.1 bt605.2.1 bt605.2.2.1 0).bind fun bt612 => (some bt612.1)))))) = some r := by rw [if_neg (show ¬ (false = true) by decide)] at H; exact H
        clear H
        have H := H1
        clear H1
        by_cases c26 : t586 = true
        ·subst c26
         have H1 : ((steelyardref05_signed.f 0 (t579 != t580)).bind fun t590 => (some t590)) = some r := by rw [if_pos rfl] at H; exact H
         clear H
         have H := H1
         clear H1
         obtain ⟨t590, A27, H⟩ := ob_ H
         try dsimp only at H
         obtain rfl := Option.some.inj H
         go_wp2_with (first | ((with_reducible refine gate_callee (f := 69) rfl ?_); refine goesM (some 68) Try.func69 #[.int .u64 0, .bool (t579 != t580)] ?_; (with_reducible refine (steelyardref05_signed.calls 0 (t579 != t580) t590 _ A27.out).mono ?_); rintro e w' ⟨rfl, ⟨nd, rfl⟩⟩; refine ⟨_, rfl, ?_⟩))
         go_ret
         exact ⟨by first | rfl | (simp [errW_none, errW_some] <;> rfl) | (simp [*, errW_none, errW_some] <;> rfl), bl_ HB⟩
        ·replace c26 := Bool.eq_false_iff.mpr c26
         subst c26
         have H1 : ((steelyardref03_Of.f kj19 a0).bind fun bt591 => ((steelyardref03_Of.f kj19 a1).bind fun bt598 => ((steelyardref03_Mul.f kj19 bt591.1 bt591.2.1 bt591.2.2.1 bt598.1 bt598.2.1 bt598.2.2.1).bind fun bt605 => ((steelyardref03_Round.f kj19 bt605.1 bt605.2.1 bt605.2.2.1 0).bind fun bt612 => (some bt612.1))))) = some r := by rw [if_neg (show ¬ (false = true) by decide)] at H; exact H
         clear H
         have H := H1
         clear H1
         obtain ⟨⟨t591, t592, t595, t596⟩, A28, H⟩ := ob_ H
         try dsimp only at H
         obtain ⟨⟨t598, t599, t602, t603⟩, A29, H⟩ := ob_ H
         try dsimp only at H
         obtain ⟨⟨t605, t606, t609, t610⟩, A30, H⟩ := ob_ H
         try dsimp only at H
         obtain ⟨⟨t612, t613⟩, A31, H⟩ := ob_ H
         try dsimp only at H
         obtain rfl := Option.some.inj H
         go_wp2_with (first | ((with_reducible refine gate_callee (f := 50) rfl ?_); refine goesM (some 71) Try.func50 #[.float .f64 a0] ?_; (with_reducible refine (steelyardref03_Of.calls kj19 a0 t591 t592 t595 t596 _ A28.out).mono ?_); rintro e w32 ⟨v593, rfl, ho0, hb⟩; refine ⟨_, rfl, ?_⟩; have n0_ := Aside0.mk (Kd.R_lower ho0 (below_size (bl_ HB))); have n1_ := bs_ HB hb; clear HB; have HO594 := n0_; have HB := n1_; clear n0_ n1_; (try clear hb); (try clear hb2); (try clear hk); (try clear hi); (try clear ho0)) | ((with_reducible refine gate_dst (N := 12) rfl ?_); refine box_event ?hg (N := 12) ?hd (cs := #[.bool false, .slice none 0 0, .int .i64 0]) (t := 43) ?hr ?_; (case hd => rfl); (case hg => rfl); (case hr => first | (go_simp; done) | (go_simp; rfl)); intro gb597 hg w33 hbox hb; have n0_ := Aside0.mk (Kd.R_below (by (with_reducible repeat (first | apply rA | apply rN | apply rD)); exact HO594.out) hb); have n1_ := bs_ HB hb; have n2_ := Aside0.mk (hbox); have n3_ := ge_ HB hg; have n4_ := ge_ HB hg; clear HO594; clear HB; have HO594 := n0_; have HB := n1_; have BK597 := n2_; have GW597 := n3_; have GE597 := n4_; clear n0_ n1_ n2_ n3_ n4_; clear hb hbox hg; have hcz34_0 : w33.cell? ⟨gb597, 0, none⟩ = some (.bool false) := (blk_cell BK597.out 0).trans rfl; have hcz34_1 : w33.cell? ⟨gb597, 1, none⟩ = some (.slice none 0 0) := (blk_cell BK597.out 1).trans rfl; have hcz34_2 : w33.cell? ⟨gb597, 2, none⟩ = some (.int .i64 0) := (blk_cell BK597.out 2).trans rfl; have hfz34_0 := blk_frozen BK597.out 0; have hfz34_1 := blk_frozen BK597.out 1; have hfz34_2 := blk_frozen BK597.out 2; obtain ⟨Ao35, co35, eo35⟩ := Kd.R_slice HO594.out; subst eo35) | ((with_reducible refine gate_callee (f := 50) rfl ?_); refine goesM (some 76) Try.func50 #[.float .f64 a1] ?_; (with_reducible refine (steelyardref03_Of.calls kj19 a1 t598 t599 t602 t603 _ A29.out).mono ?_); rintro e w36 ⟨v600, rfl, ho0, hb⟩; refine ⟨_, rfl, ?_⟩; have n0_ := Aside0.mk (Kd.R_elder' (by (with_reducible repeat (first | apply rA | apply rN | apply rD)); exact (Kd.R_mono (Kd.R_far (p := ⟨gb597, 2, none⟩) (Kd.R_far (p := ⟨gb597, 1, none⟩) (Kd.R_far (p := ⟨gb597, 0, none⟩) (Kd.R_types HO594.out BK597.out (by decide)) (fun _ hk => hk.2) (.bool t591)) (fun _ hk => hk.2) (.slice Ao35 t592.length co35)) (fun _ hk => hk.2) (.int .i64 t595)) (fun _ h_ => h_.1))) (Kd.R_base ho0) hb); have n1_ := Aside0.mk (Kd.R_lower (Kd.R_new' ho0 (Kd.R_lt (by (with_reducible repeat (first | apply rA | apply rN | apply rD)); exact (Kd.R_mono (Kd.R_far (p := ⟨gb597, 2, none⟩) (Kd.R_far (p := ⟨gb597, 1, none⟩) (Kd.R_far (p := ⟨gb597, 0, none⟩) (Kd.R_types HO594.out BK597.out (by decide)) (fun _ hk => hk.2) (.bool t591)) (fun _ hk => hk.2) (.slice Ao35 t592.length co35)) (fun _ hk => hk.2) (.int .i64 t595)) (fun _ h_ => h_.1))))) (below_size (bl_ HB))); have n2_ := Aside0.mk (blk_below (g := gb597) (o := .cells #[.bool t591, .slice Ao35 t592.length co35, .int .i64 t595] 43 (0, 0)) (by (with_reducible repeat (first | apply bN | apply bD | apply bA)); refine blk_put (cs := #[.bool t591, .slice Ao35 t592.length co35, .int .i64 0]) ?_ 2 _ rfl; (with_reducible repeat (first | apply bN | apply bD | apply bA)); refine blk_put (cs := #[.bool t591, .slice none 0 0, .int .i64 0]) ?_ 1 _ rfl; (with_reducible repeat (first | apply bN | apply bD | apply bA)); refine blk_put (cs := #[.bool false, .slice none 0 0, .int .i64 0]) ?_ 0 _ rfl; (with_reducible repeat (first | apply bN | apply bD | apply bA)); exact BK597.out) hb); have n3_ := bs_ HB hb; clear HO594; clear BK597; clear HB; have HO594 := n0_; have HO601 := n1_; have BK597 := n2_; have HB := n3_; clear n0_ n1_ n2_ n3_; (try clear hb); (try clear hb2); (try clear hk); (try clear hi); (try clear ho0)) | ((with_reducible refine gate_dst (N := 14) rfl ?_); refine box_event ?hg (N := 14) ?hd (cs := #[.bool false, .slice none 0 0, .int .i64 0]) (t := 43) ?hr ?_; (case hd => rfl); (case hg => rfl); (case hr => first | (go_simp; done) | (go_simp; rfl)); intro gb604 hg w37 hbox hb; have n0_ := Aside0.mk (Kd.R_below (by (with_reducible repeat (first | apply rA | apply rN | apply rD)); exact HO594.out) hb); have n1_ := Aside0.mk (Kd.R_below (by (with_reducible repeat (first | apply rA | apply rN | apply rD)); exact HO601.out) hb); have n2_ := kb_ BK597 hb; have n3_ := bs_ HB hb; have n4_ := Aside0.mk (hbox); have n5_ := ge_ HB hg; have n6_ := ge_ HB hg; have n7_ := nlt_ BK597 hg; have n8_ := ngt_ BK597 hg; clear HO594; clear HO601; clear BK597; clear HB; have HO594 := n0_; have HO601 := n1_; have BK597 := n2_; have HB := n3_; have BK604 := n4_; have GW604 := n5_; have GE604 := n6_; have NB597_604 := n7_; have NB604_597 := n8_; clear n0_ n1_ n2_ n3_ n4_ n5_ n6_ n7_ n8_; clear hb hbox hg; have hnb38 := NB604_597.out; have hnc38 := NB597_604.out; have hcz39_0 : w37.cell? ⟨gb604, 0, none⟩ = some (.bool false) := (blk_cell BK604.out 0).trans rfl; have hcz39_1 : w37.cell? ⟨gb604, 1, none⟩ = some (.slice none 0 0) := (blk_cell BK604.out 1).trans rfl; have hcz39_2 : w37.cell? ⟨gb604, 2, none⟩ = some (.int .i64 0) := (blk_cell BK604.out 2).trans rfl; have hfz39_0 := blk_frozen BK604.out 0; have hfz39_1 := blk_frozen BK604.out 1; have hfz39_2 := blk_frozen BK604.out 2; obtain ⟨Ao40, co40, eo40⟩ := Kd.R_slice HO601.out; subst eo40; have hcz41_0 : w37.cell? ⟨gb597, 0, none⟩ = some (.bool t591) := (blk_cell BK597.out 0).trans rfl; have hcz41_1 : w37.cell? ⟨gb597, 1, none⟩ = some (.slice Ao35 t592.length co35) := (blk_cell BK597.out 1).trans rfl; have hcz41_2 : w37.cell? ⟨gb597, 2, none⟩ = some (.int .i64 t595) := (blk_cell BK597.out 2).trans rfl; have hfz41_0 := blk_frozen BK597.out 0; have hfz41_1 := blk_frozen BK597.out 1; have hfz41_2 := blk_frozen BK597.out 2) | ((with_reducible refine gate_callee (f := 36) rfl ?_); refine goesM (some 82) Try.func36 #[.agg #[.bool t591, .slice Ao35 t592.length co35, .int .i64 t595], .agg #[.bool t598, .slice Ao40 t599.length co40, .int .i64 t602]] ?_; (with_reducible refine (steelyardref03_Mul.calls kj19 t591 _ _ t592 t595 t598 _ _ t599 t602 t605 t606 t609 t610 _ ?side1 ?side2 ?side3 ?side4 A30.out).mono ?_); (case side1 => refine (Kd.R_reads' (e := 72) (base := w.heap.size) (ok := fun k_ => (True ∧ some k_ ≠ (.slice Ao40 t599.length co40 : Value).ownBlock)) (n := t592.length) (c := co35) ?_).2.2; exact (by (with_reducible repeat (first | apply rA | apply rN | apply rD)); exact (Kd.R_mono (Kd.R_far (p := ⟨gb604, 2, none⟩) (Kd.R_far (p := ⟨gb604, 1, none⟩) (Kd.R_far (p := ⟨gb604, 0, none⟩) (Kd.R_types HO594.out BK604.out (by decide)) (fun _ hk => hk.2) (.bool t598)) (fun _ hk => hk.2) (.slice Ao40 t599.length co40)) (fun _ hk => hk.2) (.int .i64 t602)) (fun _ h_ => h_.1)))); (case side2 => exact (Kd.R_reads' HO594.out).2.1); (case side3 => refine (Kd.R_reads' (e := 72) (base := w.heap.size) (ok := fun k_ => (True ∧ some k_ ≠ (.slice Ao35 t592.length co35 : Value).ownBlock)) (n := t599.length) (c := co40) ?_).2.2; exact (by (with_reducible repeat (first | apply rA | apply rN | apply rD)); exact (Kd.R_mono (Kd.R_far (p := ⟨gb604, 2, none⟩) (Kd.R_far (p := ⟨gb604, 1, none⟩) (Kd.R_far (p := ⟨gb604, 0, none⟩) (Kd.R_types HO601.out BK604.out (by decide)) (fun _ hk => hk.2) (.bool t598)) (fun _ hk => hk.2) (.slice Ao40 t599.length co40)) (fun _ hk => hk.2) (.int .i64 t602)) (fun _ h_ => h_.1)))); (case side4 => exact (Kd.R_reads' HO601.out).2.1); rintro e w42 ⟨v607, rfl, ho0, hb⟩; refine ⟨_, rfl, ?_⟩; have n0_ := Aside0.mk (Kd.R_elder' (by (with_reducible repeat (first | apply rA | apply rN | apply rD)); exact (Kd.R_mono (Kd.R_far (p := ⟨gb604, 2, none⟩) (Kd.R_far (p := ⟨gb604, 1, none⟩) (Kd.R_far (p := ⟨gb604, 0, none⟩) (Kd.R_types HO594.out BK604.out (by decide)) (fun _ hk => hk.2) (.bool t598)) (fun _ hk => hk.2) (.slice Ao40 t599.length co40)) (fun _ hk => hk.2) (.int .i64 t602)) (fun _ h_ => h_.1))) (Kd.R_base ho0) hb); have n1_ := Aside0.mk (Kd.R_elder' (by (with_reducible repeat (first | apply rA | apply rN | apply rD)); exact (Kd.R_mono (Kd.R_far (p := ⟨gb604, 2, none⟩) (Kd.R_far (p := ⟨gb604, 1, none⟩) (Kd.R_far (p := ⟨gb604, 0, none⟩) (Kd.R_types HO601.out BK604.out (by decide)) (fun _ hk => hk.2) (.bool t598)) (fun _ hk => hk.2) (.slice Ao40 t599.length co40)) (fun _ hk => hk.2) (.int .i64 t602)) (fun _ h_ => h_.1))) (Kd.R_base ho0) hb); have n2_ := Aside0.mk (Kd.R_lower (Kd.R_new' (Kd.R_new' ho0 (Kd.R_lt (by (with_reducible repeat (first | apply rA | apply rN | apply rD)); exact (Kd.R_mono (Kd.R_far (p := ⟨gb604, 2, none⟩) (Kd.R_far (p := ⟨gb604, 1, none⟩) (Kd.R_far (p := ⟨gb604, 0, none⟩) (Kd.R_types HO594.out BK604.out (by decide)) (fun _ hk => hk.2) (.bool t598)) (fun _ hk => hk.2) (.slice Ao40 t599.length co40)) (fun _ hk => hk.2) (.int .i64 t602)) (fun _ h_ => h_.1))))) (Kd.R_lt (by (with_reducible repeat (first | apply rA | apply rN | apply rD)); exact (Kd.R_mono (Kd.R_far (p := ⟨gb604, 2, none⟩) (Kd.R_far (p := ⟨gb604, 1, none⟩) (Kd.R_far (p := ⟨gb604, 0, none⟩) (Kd.R_types HO601.out BK604.out (by decide)) (fun _ hk => hk.2) (.bool t598)) (fun _ hk => hk.2) (.slice Ao40 t599.length co40)) (fun _ hk => hk.2) (.int .i64 t602)) (fun _ h_ => h_.1))))) (below_size (bl_ HB))); have n3_ := Aside0.mk (blk_below (g := gb597) (o := .cells #[.bool t591, .slice Ao35 t592.length co35, .int .i64 t595] 43 (0, 0)) (by (with_reducible repeat (first | apply bN | apply bD | apply bA)); refine blk_far ?_ NB597_604.out _; (with_reducible repeat (first | apply bN | apply bD | apply bA)); refine blk_far ?_ NB597_604.out _; (with_reducible repeat (first | apply bN | apply bD | apply bA)); refine blk_far ?_ NB597_604.out _; (with_reducible repeat (first | apply bN | apply bD | apply bA)); exact BK597.out) hb); have n4_ := Aside0.mk (blk_below (g := gb604) (o := .cells #[.bool t598, .slice Ao40 t599.length co40, .int .i64 t602] 43 (0, 0)) (by (with_reducible repeat (first | apply bN | apply bD | apply bA)); refine blk_put (cs := #[.bool t598, .slice Ao40 t599.length co40, .int .i64 0]) ?_ 2 _ rfl; (with_reducible repeat (first | apply bN | apply bD | apply bA)); refine blk_put (cs := #[.bool t598, .slice none 0 0, .int .i64 0]) ?_ 1 _ rfl; (with_reducible repeat (first | apply bN | apply bD | apply bA)); refine blk_put (cs := #[.bool false, .slice none 0 0, .int .i64 0]) ?_ 0 _ rfl; (with_reducible repeat (first | apply bN | apply bD | apply bA)); exact BK604.out) hb); have n5_ := bs_ HB hb; clear HO594; clear HO601; clear BK597; clear BK604; clear HB; have HO594 := n0_; have HO601 := n1_; have HO608 := n2_; have BK597 := n3_; have BK604 := n4_; have HB := n5_; clear n0_ n1_ n2_ n3_ n4_ n5_; (try clear hb); (try clear hb2); (try clear hk); (try clear hi); (try clear ho0)) | ((with_reducible refine gate_dst (N := 16) rfl ?_); refine box_event ?hg (N := 16) ?hd (cs := #[.bool false, .slice none 0 0, .int .i64 0]) (t := 43) ?hr ?_; (case hd => rfl); (case hg => rfl); (case hr => first | (go_simp; done) | (go_simp; rfl)); intro gb611 hg w43 hbox hb; have n0_ := Aside0.mk (Kd.R_below (by (with_reducible repeat (first | apply rA | apply rN | apply rD)); exact HO594.out) hb); have n1_ := Aside0.mk (Kd.R_below (by (with_reducible repeat (first | apply rA | apply rN | apply rD)); exact HO601.out) hb); have n2_ := Aside0.mk (Kd.R_below (by (with_reducible repeat (first | apply rA | apply rN | apply rD)); exact HO608.out) hb); have n3_ := kb_ BK597 hb; have n4_ := kb_ BK604 hb; have n5_ := bs_ HB hb; have n6_ := Aside0.mk (hbox); have n7_ := ge_ HB hg; have n8_ := ge_ HB hg; have n9_ := nlt_ BK597 hg; have n10_ := ngt_ BK597 hg; have n11_ := nlt_ BK604 hg; have n12_ := ngt_ BK604 hg; clear HO594; clear HO601; clear HO608; clear BK597; clear BK604; clear HB; have HO594 := n0_; have HO601 := n1_; have HO608 := n2_; have BK597 := n3_; have BK604 := n4_; have HB := n5_; have BK611 := n6_; have GW611 := n7_; have GE611 := n8_; have NB597_611 := n9_; have NB611_597 := n10_; have NB604_611 := n11_; have NB611_604 := n12_; clear n0_ n1_ n2_ n3_ n4_ n5_ n6_ n7_ n8_ n9_ n10_ n11_ n12_; clear hb hbox hg; have hnb44 := NB611_597.out; have hnc44 := NB597_611.out; have hnb45 := NB611_604.out; have hnc45 := NB604_611.out; have hcz46_0 : w43.cell? ⟨gb611, 0, none⟩ = some (.bool false) := (blk_cell BK611.out 0).trans rfl; have hcz46_1 : w43.cell? ⟨gb611, 1, none⟩ = some (.slice none 0 0) := (blk_cell BK611.out 1).trans rfl; have hcz46_2 : w43.cell? ⟨gb611, 2, none⟩ = some (.int .i64 0) := (blk_cell BK611.out 2).trans rfl; have hfz46_0 := blk_frozen BK611.out 0; have hfz46_1 := blk_frozen BK611.out 1; have hfz46_2 := blk_frozen BK611.out 2; obtain ⟨Ao47, co47, eo47⟩ := Kd.R_slice HO608.out; subst eo47) | ((with_reducible refine gate_callee (f := 70) rfl ?_); refine goesM (some 87) Try.func70 #[.agg #[.bool t605, .slice Ao47 t606.length co47, .int .i64 t609], .int .i64 0] ?_; (with_reducible refine (steelyardref03_Round.calls kj19 t605 _ _ t606 t609 0 t612 t613 _ ?side1 ?side2 A31.out).mono ?_); (case side1 => refine (Kd.R_reads' (e := 72) (base := w.heap.size) (ok := fun k_ => ((True ∧ some k_ ≠ (.slice Ao35 t592.length co35 : Value).ownBlock) ∧ some k_ ≠ (.slice Ao40 t599.length co40 : Value).ownBlock)) (n := t606.length) (c := co47) ?_).2.2; exact (by (with_reducible repeat (first | apply rA | apply rN | apply rD)); exact (Kd.R_mono (Kd.R_far (p := ⟨gb611, 2, none⟩) (Kd.R_far (p := ⟨gb611, 1, none⟩) (Kd.R_far (p := ⟨gb611, 0, none⟩) (Kd.R_types HO608.out BK611.out (by decide)) (fun _ hk => hk.2) (.bool t605)) (fun _ hk => hk.2) (.slice Ao47 t606.length co47)) (fun _ hk => hk.2) (.int .i64 t609)) (fun _ h_ => h_.1)))); (case side2 => exact (Kd.R_reads' HO608.out).2.1); rintro e w48 ⟨rfl, hb⟩; refine ⟨_, rfl, ?_⟩; have n0_ := Aside0.mk (Kd.R_below (by (with_reducible repeat (first | apply rA | apply rN | apply rD)); exact (Kd.R_mono (Kd.R_far (p := ⟨gb611, 2, none⟩) (Kd.R_far (p := ⟨gb611, 1, none⟩) (Kd.R_far (p := ⟨gb611, 0, none⟩) (Kd.R_types HO594.out BK611.out (by decide)) (fun _ hk => hk.2) (.bool t605)) (fun _ hk => hk.2) (.slice Ao47 t606.length co47)) (fun _ hk => hk.2) (.int .i64 t609)) (fun _ h_ => h_.1))) hb); have n1_ := Aside0.mk (Kd.R_below (by (with_reducible repeat (first | apply rA | apply rN | apply rD)); exact (Kd.R_mono (Kd.R_far (p := ⟨gb611, 2, none⟩) (Kd.R_far (p := ⟨gb611, 1, none⟩) (Kd.R_far (p := ⟨gb611, 0, none⟩) (Kd.R_types HO601.out BK611.out (by decide)) (fun _ hk => hk.2) (.bool t605)) (fun _ hk => hk.2) (.slice Ao47 t606.length co47)) (fun _ hk => hk.2) (.int .i64 t609)) (fun _ h_ => h_.1))) hb); have n2_ := Aside0.mk (Kd.R_below (by (with_reducible repeat (first | apply rA | apply rN | apply rD)); exact (Kd.R_mono (Kd.R_far (p := ⟨gb611, 2, none⟩) (Kd.R_far (p := ⟨gb611, 1, none⟩) (Kd.R_far (p := ⟨gb611, 0, none⟩) (Kd.R_types HO608.out BK611.out (by decide)) (fun _ hk => hk.2) (.bool t605)) (fun _ hk => hk.2) (.slice Ao47 t606.length co47)) (fun _ hk => hk.2) (.int .i64 t609)) (fun _ h_ => h_.1))) hb); have n3_ := Aside0.mk (blk_below (g := gb597) (o := .cells #[.bool t591, .slice Ao35 t592.length co35, .int .i64 t595] 43 (0, 0)) (by (with_reducible repeat (first | apply bN | apply bD | apply bA)); refine blk_far ?_ NB597_611.out _; (with_reducible repeat (first | apply bN | apply bD | apply bA)); refine blk_far ?_ NB597_611.out _; (with_reducible repeat (first | apply bN | apply bD | apply bA)); refine blk_far ?_ NB597_611.out _; (with_reducible repeat (first | apply bN | apply bD | apply bA)); exact BK597.out) hb); have n4_ := Aside0.mk (blk_below (g := gb604) (o := .cells #[.bool t598, .slice Ao40 t599.length co40, .int .i64 t602] 43 (0, 0)) (by (with_reducible repeat (first | apply bN | apply bD | apply bA)); refine blk_far ?_ NB604_611.out _; (with_reducible repeat (first | apply bN | apply bD | apply bA)); refine blk_far ?_ NB604_611.out _; (with_reducible repeat (first | apply bN | apply bD | apply bA)); refine blk_far ?_ NB604_611.out _; (with_reducible repeat (first | apply bN | apply bD | apply bA)); exact BK604.out) hb); have n5_ := Aside0.mk (blk_below (g := gb611) (o := .cells #[.bool t605, .slice Ao47 t606.length co47, .int .i64 t609] 43 (0, 0)) (by (with_reducible repeat (first | apply bN | apply bD | apply bA)); refine blk_put (cs := #[.bool t605, .slice Ao47 t606.length co47, .int .i64 0]) ?_ 2 _ rfl; (with_reducible repeat (first | apply bN | apply bD | apply bA)); refine blk_put (cs := #[.bool t605, .slice none 0 0, .int .i64 0]) ?_ 1 _ rfl; (with_reducible repeat (first | apply bN | apply bD | apply bA)); refine blk_put (cs := #[.bool false, .slice none 0 0, .int .i64 0]) ?_ 0 _ rfl; (with_reducible repeat (first | apply bN | apply bD | apply bA)); exact BK611.out) hb); have n6_ := bs_ HB hb; clear HO594; clear HO601; clear HO608; clear BK597; clear BK604; clear BK611; clear HB; have HO594 := n0_; have HO601 := n1_; have HO608 := n2_; have BK597 := n3_; have BK604 := n4_; have BK611 := n5_; have HB := n6_; clear n0_ n1_ n2_ n3_ n4_ n5_ n6_; (try clear hb); (try clear hb2); (try clear hk); (try clear hi)))
         go_ret
         exact ⟨by first | rfl | (simp [errW_none, errW_some] <;> rfl) | (simp [*, errW_none, errW_some] <;> rfl), bl_ HB⟩

end Go.Proofs.Ytdemanikmaafeaa.Pr
