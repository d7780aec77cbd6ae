-- short
-- written by this session's own program (wip/fprint.py), which widens the kit's print by floats
import Derived.Test.YtdemanikmaafeaaPr0
namespace Go.Proofs.Ytdemanikmaafeaa.Pr
open Go.RowKit Go.Proofs.YtdemanikmaafeaaW.PrintWords Go.Proofs.YtdemanikmaafeaaW.PrintLast Go.Proofs.YtdemanikmaafeaaW.PrintMore
attribute [local go_sem] max2_int min2_int max_two min_two max_three min_three max_four min_four   -- for this text's walks alone
set_option linter.unusedVariables false
set_option linter.unusedSimpArgs false

/-! ### steelyardref02_size: function 75 -/
def steelyardref02_size.l0 : Nat → List Int → Int → Option (Int)
 | 0, _, _ => none
 | k + 1, x0, x3 => if x3 > 0 then (if 0 ≤ (wrap64 (x3 - 1)) then (if (wrap64 (x3 - 1)) < (x0.length : Int) then (if (rd x0 (wrap64 (x3 - 1))) = 0 then (steelyardref02_size.l0 k x0 (wrap64 (x3 - 1))) else (some x3)) else (none)) else (none)) else (some x3)
def steelyardref02_size.f (k : Nat) (l0 : List Int) : Option (Int) := steelyardref02_size.l0 k l0 (l0.length : Int)
theorem steelyardref02_size.mono_l : ∀ k, (∀ y0 y1, LeO (steelyardref02_size.l0 k y0 y1) (steelyardref02_size.l0 (k + 1) y0 y1))
 | 0 => fun _ _ r h => by simp [steelyardref02_size.l0] at h
 | k + 1 => by
  have ih0 := steelyardref02_size.mono_l k
  ·intro y0 y1
   unfold steelyardref02_size.l0
   repeat' first
   | (with_reducible exact ih0 _ _)
   | (with_reducible exact LeO.refl _)
   | (with_reducible exact LeO.none _)
   | (with_reducible refine LeO.ite ?_ ?_)
   | (with_reducible refine LeO.bind ?_ (fun _ => ?_))
   | exact ih0 _ _
   | exact LeO.none _
   | refine LeO.ite ?_ ?_
   | refine LeO.bind ?_ (fun _ => ?_)
theorem steelyardref02_size.mono : ∀ a0 k, LeO (steelyardref02_size.f k a0) (steelyardref02_size.f (k + 1) a0) := by
 intro a0 k
 have ih0 := steelyardref02_size.mono_l k
 unfold steelyardref02_size.f
 repeat' first
   | (with_reducible exact ih0 _ _)
   | (with_reducible exact LeO.refl _)
   | (with_reducible exact LeO.none _)
   | (with_reducible refine LeO.ite ?_ ?_)
   | (with_reducible refine LeO.bind ?_ (fun _ => ?_))
   | exact ih0 _ _
   | exact LeO.none _
   | refine LeO.ite ?_ ?_
   | refine LeO.bind ?_ (fun _ => ?_)
set_option maxHeartbeats 3000000 in
set_option maxRecDepth 100000 in
theorem steelyardref02_size.calls (k : Nat) (A0 : Option Addr) (c0 : Nat) (l0 : List Int) (r : Int) (w : World) (hr0 : Kd.C (Kd.int .u32) w A0 l0.length l0) (hc0 : l0.length ≤ c0) (h : steelyardref02_size.f k l0 = some r) :
  Calls Try.prog 75 #[.slice A0 l0.length c0] w fun e w' => e = .returned (.int .i64 r) ∧ Drawn0 w w' := by
 have HR0 := Aside0.mk hr0
 have HC0 := Aside0.mk hc0
 clear hr0 hc0
 have H : (steelyardref02_size.l0 k l0 (l0.length : Int)) = some r := h
 clear h
 have H' := Aside0.mk H
 clear H
 go_enter Try.func75, Try.ntmps75
 go_wp2
 go_loopg [3] k (fun kq v3 w' => ∃ (x3_1 : Int), v3 = .int .i64 x3_1 ∧ Aside0 (steelyardref02_size.l0 kq l0 x3_1 = some r) ∧ Aside0 (kq ≤ k) ∧ Drawn0 w w')
 case atStart => exact ⟨((l0.length : Int)), (by first | rfl | (simp; done) | (simp [*]; done)), H', ⟨Nat.le_refl _⟩, by repeat (first | exact Drawn0.refl _ | apply Drawn0.step)⟩
 case round =>
  clear H'
  obtain ⟨x3_1, rfl, HA, HK1, ⟨m1, rfl⟩⟩ := hrel
  cases gk with
  | zero => exact absurd HA.out (by simp [steelyardref02_size.l0])
  | succ k1 =>
   have H := HA.out
   clear HA
   simp only [steelyardref02_size.l0] at H
   by_cases c2 : x3_1 > 0
   ·rw [if_pos c2] at H
    have c2b0 : decide (0 < x3_1) = true := decide_eq_true c2
    clear c2
    obtain ⟨ji3, hji3⟩ : ∃ j_ : Int, (wrap64 (x3_1 - 1)) = j_ := ⟨_, rfl⟩
    replace H : (if 0 ≤ (ji3) then (if (ji3) < (l0.length : Int) then (if (rd l0 (ji3)) = 0 then (steelyardref02_size.l0 k1 l0 ji3) else (some x3_1)) else (none)) else (none)) = some r := by first | (rw [hji3] at H; exact H) | (simp only [hji3] at H ⊢; exact H)
    have hji3w : (IntKind.i64.wrap (x3_1 - 1)) = ji3 := (i64_w _).trans hji3
    by_cases c4 : 0 ≤ (ji3)
    ·rw [if_pos c4] at H
     have c4b0 : decide (0 ≤ (ji3)) = true := decide_eq_true c4
     clear c4
     by_cases c5 : (ji3) < (l0.length : Int)
     ·rw [if_pos c5] at H
      have c5b0 : decide ((ji3) < (l0.length : Int)) = true := decide_eq_true c5
      clear c5
      by_cases c6 : (rd l0 (ji3)) = 0
      ·rw [if_pos c6] at H
       have c6b0 : ((rd l0 (ji3)) == 0) = true := beq_iff_eq.mpr c6
       have c6b1 : ((rd l0 (ji3)) != 0) = false := bne_eq_false_iff_eq.mpr c6
       clear c6
       have H' := Aside0.mk H
       clear H
       have p236 : 0 ≤ ((ji3) : Int) := of_decide_eq_true (by first | (with_reducible assumption) | assumption)
       have q236 : (ji3) < (l0.length : Int) := of_decide_eq_true (by first | (with_reducible assumption) | assumption)
       obtain ⟨ad236, e236, hx236_0⟩ := Kd.at_int HR0.out (ji3) p236 q236
       cases e236
       replace p236 := eq_true p236
       replace q236 := eq_true q236
       go_wp2
       go_roundg k1
       case measure => have := HK1.out; omega
       case rel => exact ⟨(ji3), (by first | rfl | (simp; done) | (simp only [← hji3] <;> (first | rfl | simp)) | (simp [*]; done)), H', ⟨by have := HK1.out; omega⟩, by repeat (first | exact Drawn0.refl _ | apply Drawn0.step)⟩
      ·rw [if_neg c6] at H
       have c6b0 : ((rd l0 (ji3)) == 0) = false := beq_eq_false_iff_ne.mpr c6
       have c6b1 : ((rd l0 (ji3)) != 0) = true := bne_iff_ne.mpr c6
       obtain rfl := Option.some.inj H
       have p236 : 0 ≤ ((ji3) : Int) := of_decide_eq_true (by first | (with_reducible assumption) | assumption)
       have q236 : (ji3) < (l0.length : Int) := of_decide_eq_true (by first | (with_reducible assumption) | assumption)
       obtain ⟨ad236, e236, hx236_0⟩ := Kd.at_int HR0.out (ji3) p236 q236
       cases e236
       replace p236 := eq_true p236
       replace q236 := eq_true q236
       go_wp2
       go_ret
       exact ⟨by first | rfl | (simp; done) | (simp only [← hji3] <;> (first | rfl | simp)) | (simp [*]; done), by repeat (first | exact Drawn0.refl _ | apply Drawn0.step)⟩
     ·rw [if_neg c5] at H
      exact absurd H (by simp)
    ·rw [if_neg c4] at H
     exact absurd H (by simp)
   ·rw [if_neg c2] at H
    have c2b0 : decide (0 < x3_1) = false := decide_eq_false c2
    clear c2
    obtain rfl := Option.some.inj H
    go_wp2
    go_ret
    exact ⟨by first | rfl | (simp; done) | (simp [*]; done), by repeat (first | exact Drawn0.refl _ | apply Drawn0.step)⟩

/-! ### steelyardref02_Norm: function 78 -/
def steelyardref02_Norm.f (k : Nat) (l0 : List Int) : Option (List Int) := (steelyardref02_size.f k l0).bind fun t237 => (if 0 ≤ t237 then (if t237 ≤ (l0.length : Int) then (if ([] : List Int).length + (l0.take (t237 : Int).toNat).length < 35184372088832 then (some (([] : List Int) ++ (l0.take (t237 : Int).toNat))) else (none)) else (none)) else (none))
theorem steelyardref02_Norm.mono : ∀ a0 k, LeO (steelyardref02_Norm.f k a0) (steelyardref02_Norm.f (k + 1) a0) := by
 intro a0 k
 unfold steelyardref02_Norm.f
 repeat' first
   | (with_reducible exact steelyardref02_size.mono _ _)
   | (with_reducible exact LeO.refl _)
   | (with_reducible exact LeO.none _)
   | (with_reducible refine LeO.ite ?_ ?_)
   | (with_reducible refine LeO.bind ?_ (fun _ => ?_))
   | exact steelyardref02_size.mono _ _
   | exact LeO.none _
   | refine LeO.ite ?_ ?_
   | refine LeO.bind ?_ (fun _ => ?_)
set_option maxHeartbeats 3000000 in
set_option maxRecDepth 100000 in
theorem steelyardref02_Norm.calls (k : Nat) (A0 : Option Addr) (c0 : Nat) (l0 : List Int) (r : List Int) (w : World) (hr0 : Kd.C (Kd.int .u32) w A0 l0.length l0) (hc0 : l0.length ≤ c0) (h : steelyardref02_Norm.f k l0 = some r) :
  Calls Try.prog 78 #[.slice A0 l0.length c0] w fun e w' => ∃ v0_ : Value, e = .returned (v0_) ∧ Kd.R (Kd.int .u32) 72 w' w.heap.size (fun _ => True) v0_ r ∧ Below w.heap.size w w' := by
 have HR0 := Aside0.mk hr0
 have HC0 := Aside0.mk hc0
 clear hr0 hc0
 have HB := Aside0.mk (Below.refl w.heap.size w)
 have H : ((steelyardref02_size.f k l0).bind fun t237 => (if 0 ≤ t237 then (if t237 ≤ (l0.length : Int) then (if ([] : List Int).length + (l0.take (t237 : Int).toNat).length < 35184372088832 then (some (([] : List Int) ++ (l0.take (t237 : Int).toNat))) else (none)) else (none)) else (none))) = some r := h
 clear h
 obtain ⟨t237, A2, H⟩ := ob_ H
 try dsimp only at H
 by_cases c3 : 0 ≤ t237
 ·rw [if_pos c3] at H
  have c3b0 := eq_true c3
  have c3b1 : decide (0 ≤ t237) = true := decide_eq_true c3
  clear c3
  by_cases c4 : t237 ≤ (l0.length : Int)
  ·rw [if_pos c4] at H
   have c4b0 := eq_true c4
   have c4b1 : decide (t237 ≤ (l0.length : Int)) = true := decide_eq_true c4
   clear c4
   by_cases c5 : ([] : List Int).length + (l0.take (t237 : Int).toNat).length < 35184372088832
   ·rw [if_pos c5] at H
    have LMc5 := Aside0.mk c5
    clear c5
    obtain ⟨y239, hy239⟩ : ∃ y_ : List Int, y_ = (([] : List Int) ++ (l0.take (t237 : Int).toNat)) := ⟨_, rfl⟩
    replace H : (some y239) = some r := by first | (rw [hy239]; with_reducible exact H) | (have H2_ := (Option.bind_some _ _).symm.trans H; rw [hy239]; with_reducible exact H2_) | (have H2_ := (Option.bind_some _ _).symm.trans H; with_reducible exact H2_) | with_reducible exact H | (rw [hy239]; exact H) | exact H
    have Ny239 := Aside0.mk hy239
    clear hy239
    obtain rfl := Option.some.inj H
    go_enter Try.func78, Try.ntmps78
    go_wp2_with (first | ((with_reducible refine gate_callee (f := 75) rfl ?_); refine goesM (some 7) Try.func75 #[.slice A0 l0.length c0] ?_; (with_reducible refine (steelyardref02_size.calls k _ _ l0 t237 _ ?side1 ?side2 A2.out).mono ?_); (case side1 => repeat (first | exact HR0.out | (with_reducible first | apply cA | apply cN | apply cD))); (case side2 => exact HC0.out); rintro e w' ⟨rfl, ⟨nd, rfl⟩⟩; refine ⟨_, rfl, ?_⟩; obtain ⟨i06, hi06, _, hsz6, _⟩ := info_parts info72; obtain ⟨hcut6, hA6, hC6⟩ := print_take_of (P := Try.prog) (Value.int .u32) 0 41 72 .i64 Try.underlying41 hi06 hsz6 A0 c0 l0 t237 (of_decide_eq_true (by first | (with_reducible assumption) | assumption)) (of_decide_eq_true (by first | (with_reducible assumption) | assumption)) HC0.out; have HR238 := Aside0.mk (Kd.C_of_reads (h1 := fun _ => rfl) (hA6 _ (Kd.reads_of_C HR0.out))); have HC238 := Aside0.mk hC6; clear hA6 hC6 hi06 hsz6) | ((with_reducible refine gate_builtin (b := .append) (xs := #[.tmp 4, .tmp 8]) rfl ?_); at_builtin; refine Kd.R_append_rows (Kd.int .u32) (w0 := w) w.heap.size rfl (.tmp 4) (.tmp 8) 41 72 (.int .u32 0) 4 rfl Try.underlying41 info72 rfl (by decide) (by omega) (.slice none 0 0) ([] : List Int) (l0.take (t237 : Int).toNat) _ _ _ (fun _ => True) (fun _ => False) rfl rfl ?aO ?aR (fun _ _ h => h) (fun _ h => h.elim) ?aF ?aB ?aS ?aL ?_; (case aR => first | (refine reads_cast (show (l0.take (t237 : Int).toNat).length = t237.toNat from (by rw [List.length_take]; have h_ : (t237 : Int) ≤ (l0.length : Int) := of_decide_eq_true (by first | (with_reducible assumption) | assumption); omega)) ?_; repeat (first | exact HR238.out | (with_reducible first | apply cA | apply cN | apply cD))) | (repeat (first | exact HR238.out | (with_reducible first | apply cA | apply cN | apply cD)))); (case aB => exact (bl_ HB)); (case aF => exact (fun _ _ => trivial)); (case aO => exact ((Kd.R_nil _ _ _ _ (fun _ => True)))); (case aS => exact (below_size (bl_ HB))); (case aL => have := LMc5.out; have hlx_ := (show (l0.take (t237 : Int).toNat).length = t237.toNat from (by rw [List.length_take]; have h_ : (t237 : Int) ≤ (l0.length : Int) := of_decide_eq_true (by first | (with_reducible assumption) | assumption); omega)); omega); intro v240 w7 ho hb hg hat; rw [← Ny239.out] at ho; have n0_ := Aside0.mk (hb); have n1_ := Aside0.mk (ho); clear HB; have HB := n0_; have HO241 := n1_; clear n0_ n1_; clear ho hb hg hat))
    go_ret
    exact ⟨_, by first | rfl | (simp [errW_none, errW_some] <;> rfl) | (simp [*, errW_none, errW_some] <;> rfl), by (with_reducible repeat (first | apply rA | apply rN | apply rD)); exact HO241.out, bl_ HB⟩
   ·rw [if_neg c5] at H
    exact absurd H (by simp)
  ·rw [if_neg c4] at H
   exact absurd H (by simp)
 ·rw [if_neg c3] at H
  exact absurd H (by simp)

end Go.Proofs.Ytdemanikmaafeaa.Pr
