-- short
-- written by this session's own program (wip/fprint.py), which widens the kit's print by floats
import Derived.Test.YtdemanikmaafeaaPr0
import Derived.Test.YtdemanikmaafeaaPr6
import Derived.Test.YtdemanikmaafeaaPr8
import Derived.Test.YtdemanikmaafeaaPr9
namespace Go.Proofs.Ytdemanikmaafeaa.Pr
open Go.RowKit Go.Proofs.YtdemanikmaafeaaW.PrintWords Go.Proofs.YtdemanikmaafeaaW.PrintLast Go.Proofs.YtdemanikmaafeaaW.PrintMore
attribute [local go_sem] max2_int min2_int max_two min_two max_three min_three max_four min_four   -- for this text's walks alone
set_option linter.unusedVariables false
set_option linter.unusedSimpArgs false

/-! ### steelyardref02_Parts: function 77 -/
def steelyardref02_Parts.l0 : Nat → List Int → List Int → List Int → List Int → Int → Option (List Int × List Int)
 | 0, _, _, _, _, _ => none
 | k + 1, x0, x1, x6, x7, x8 => if x8 ≥ 0 then (if 0 ≤ x8 then (if x8 < (x0.length : Int) then ((some (([rd x0 x8] : List Int) : List Int)).bind fun y282 => (if y282.length + x7.length < 35184372088832 then ((steelyardref02_Norm.f k (y282 ++ x7)).bind fun t288 => ((steelyardref02_Cmp.f k t288 x1).bind fun t291 => (if t291 ≥ 0 then ((steelyardref02_digit.f k t288 x1).bind fun bt292 => (if x8 < (x6.length : Int) then ((steelyardref02_Minus.f k t288 bt292.2).bind fun t297 => (steelyardref02_Parts.l0 k x0 x1 (x6.set (x8 : Int).toNat bt292.1) t297 (wrap64 (x8 - 1)))) else (none))) else (steelyardref02_Parts.l0 k x0 x1 x6 t288 (wrap64 (x8 - 1)))))) else (none))) else (none)) else (none)) else ((steelyardref02_Norm.f k x6).bind fun t278 => (some (t278, x7)))
def steelyardref02_Parts.f (k : Nat) (l0 : List Int) (l1 : List Int) : Option (List Int × List Int) := if 0 ≤ (l0.length : Int) then (if ((l0.length : Int) : Int).toNat ≤ 70368744177664 then (steelyardref02_Parts.l0 k l0 l1 (List.replicate ((l0.length : Int) : Int).toNat 0) ([] : List Int) (wrap64 ((l0.length : Int) - 1))) else (none)) else (none)
theorem steelyardref02_Parts.mono_l : ∀ k, (∀ y0 y1 y2 y3 y4, LeO (steelyardref02_Parts.l0 k y0 y1 y2 y3 y4) (steelyardref02_Parts.l0 (k + 1) y0 y1 y2 y3 y4))
 | 0 => fun _ _ _ _ _ r h => by simp [steelyardref02_Parts.l0] at h
 | k + 1 => by
  have ih0 := steelyardref02_Parts.mono_l k
  ·intro y0 y1 y2 y3 y4
   unfold steelyardref02_Parts.l0
   repeat' first
   | (with_reducible exact ih0 _ _ _ _ _)
   | (with_reducible exact steelyardref02_Cmp.mono _ _ _)
   | (with_reducible exact steelyardref02_Minus.mono _ _ _)
   | (with_reducible exact steelyardref02_Norm.mono _ _)
   | (with_reducible exact steelyardref02_digit.mono _ _ _)
   | (with_reducible exact LeO.refl _)
   | (with_reducible exact LeO.none _)
   | (with_reducible refine LeO.ite ?_ ?_)
   | (with_reducible refine LeO.bind ?_ (fun _ => ?_))
   | exact ih0 _ _ _ _ _
   | exact steelyardref02_Cmp.mono _ _ _
   | exact steelyardref02_Minus.mono _ _ _
   | exact steelyardref02_Norm.mono _ _
   | exact steelyardref02_digit.mono _ _ _
   | exact LeO.none _
   | refine LeO.ite ?_ ?_
   | refine LeO.bind ?_ (fun _ => ?_)
theorem steelyardref02_Parts.mono : ∀ a0 a1 k, LeO (steelyardref02_Parts.f k a0 a1) (steelyardref02_Parts.f (k + 1) a0 a1) := by
 intro a0 a1 k
 have ih0 := steelyardref02_Parts.mono_l k
 unfold steelyardref02_Parts.f
 repeat' first
   | (with_reducible exact ih0 _ _ _ _ _)
   | (with_reducible exact steelyardref02_Cmp.mono _ _ _)
   | (with_reducible exact steelyardref02_Minus.mono _ _ _)
   | (with_reducible exact steelyardref02_Norm.mono _ _)
   | (with_reducible exact steelyardref02_digit.mono _ _ _)
   | (with_reducible exact LeO.refl _)
   | (with_reducible exact LeO.none _)
   | (with_reducible refine LeO.ite ?_ ?_)
   | (with_reducible refine LeO.bind ?_ (fun _ => ?_))
   | exact ih0 _ _ _ _ _
   | exact steelyardref02_Cmp.mono _ _ _
   | exact steelyardref02_Minus.mono _ _ _
   | exact steelyardref02_Norm.mono _ _
   | exact steelyardref02_digit.mono _ _ _
   | exact LeO.none _
   | refine LeO.ite ?_ ?_
   | refine LeO.bind ?_ (fun _ => ?_)
set_option maxHeartbeats 3000000 in
set_option maxRecDepth 100000 in
theorem steelyardref02_Parts.calls (k : Nat) (A0 : Option Addr) (c0 : Nat) (l0 : List Int) (A1 : Option Addr) (c1 : Nat) (l1 : List Int) (r1 : List Int) (r2 : List Int) (w : World) (hr0 : Kd.C (Kd.int .u32) w A0 l0.length l0) (hc0 : l0.length ≤ c0) (hr1 : Kd.C (Kd.int .u32) w A1 l1.length l1) (hc1 : l1.length ≤ c1) (h : steelyardref02_Parts.f k l0 l1 = some (r1, r2)) :
  Calls Try.prog 77 #[.slice A0 l0.length c0, .slice A1 l1.length c1] w fun e w' => ∃ v0_ v1_ : Value, e = .returned (.tuple #[v0_, v1_]) ∧ Kd.R (Kd.int .u32) 72 w' w.heap.size (fun k_ => some k_ ≠ (v1_ : Value).ownBlock) v0_ r1 ∧ Kd.R (Kd.int .u32) 72 w' w.heap.size (fun k_ => some k_ ≠ (v0_ : Value).ownBlock) v1_ r2 ∧ Below w.heap.size w w' := by
 have HR0 := Aside0.mk hr0
 have HC0 := Aside0.mk hc0
 clear hr0 hc0
 have HR1 := Aside0.mk hr1
 have HC1 := Aside0.mk hc1
 clear hr1 hc1
 have HB := Aside0.mk (Below.refl w.heap.size w)
 have H : (if 0 ≤ (l0.length : Int) then (if ((l0.length : Int) : Int).toNat ≤ 70368744177664 then (steelyardref02_Parts.l0 k l0 l1 (List.replicate ((l0.length : Int) : Int).toNat 0) ([] : List Int) (wrap64 ((l0.length : Int) - 1))) else (none)) else (none)) = some (r1, r2) := h
 clear h
 by_cases c3 : 0 ≤ (l0.length : Int)
 ·rw [if_pos c3] at H
  have c3b0 := eq_true c3
  have c3b1 : decide (0 ≤ (l0.length : Int)) = true := decide_eq_true c3
  clear c3
  by_cases c4 : ((l0.length : Int) : Int).toNat ≤ 70368744177664
  ·rw [if_pos c4] at H
   have c4b0 := eq_true c4
   have c4b1 : decide (((l0.length : Int) : Int).toNat ≤ 70368744177664) = true := decide_eq_true c4
   clear c4
   obtain ⟨y275, hy275⟩ : ∃ y_ : List Int, y_ = (List.replicate ((l0.length : Int) : Int).toNat 0) := ⟨_, rfl⟩
   replace H : (steelyardref02_Parts.l0 k l0 l1 y275 ([] : List Int) (wrap64 ((l0.length : Int) - 1))) = some (r1, r2) := by first | (rw [hy275]; with_reducible exact H) | (have H2_ := (Option.bind_some _ _).symm.trans H; rw [hy275]; with_reducible exact H2_) | (have H2_ := (Option.bind_some _ _).symm.trans H; with_reducible exact H2_) | with_reducible exact H | (rw [hy275]; exact H) | exact H
   have Ny275 := Aside0.mk hy275
   clear hy275
   have H' := Aside0.mk H
   clear H
   go_enter Try.func77, Try.ntmps77
   go_wp2_with (first | ((with_reducible refine gate_dst (N := 14) rfl ?_); refine Kd.R_make (Kd.int .u32) _ 72 rfl (N := 14) rfl 41 _ _ rfl (l0.length : Int) rfl rfl Try.underlying41 (.int .u32 0) 4 info72 rfl (by decide) (by omega) 0 (ok := fun _ => True) (okp := fun _ => True) rfl (fun _ hk => hk) trivial (of_decide_eq_true (by first | (with_reducible assumption) | assumption)) (Nat.le_trans (Nat.mul_le_mul_right _ (of_decide_eq_true (by first | (with_reducible assumption) | assumption) : (l0.length : Int).toNat ≤ 70368744177664)) (by omega)) (Below.refl _ _) (Nat.le_refl _) ?_; intro v276 w5 ho6 hb hg_ hnew_; clear hg_ hnew_; (first | rw [← Ny275.out] at ho6 | (simp only [Int.reduceToNat] at ho6; rw [← Ny275.out] at ho6)); have n0_ := Aside0.mk (Kd.R_lower ho6 (below_size (bl_ HB))); have n1_ := bs_ HB hb; clear HB; have HO277 := n0_; have HB := n1_; clear n0_ n1_; clear hb ho6))
   go_loopg [7, 8] k (fun kq v7 v8 w' => ∃ (x6_1 : List Int) (x7_1 : List Int) (x8_1 : Int), v8 = .int .i64 x8_1 ∧ Aside0 (steelyardref02_Parts.l0 kq l0 l1 x6_1 x7_1 x8_1 = some (r1, r2)) ∧ Aside0 (kq ≤ k) ∧ Aside0 (Kd.R (Kd.int .u32) 72 w' w.heap.size (fun k_ => some k_ ≠ (v7 : Value).ownBlock) v276 x6_1) ∧ Aside0 (Kd.R (Kd.int .u32) 72 w' w.heap.size (fun k_ => some k_ ≠ (v276 : Value).ownBlock) v7 x7_1) ∧ Aside0 (Below w.heap.size w w'))
   case atStart => exact ⟨(y275), (([] : List Int)), (wrap64 ((l0.length : Int) - 1)), (by first | rfl | (simp; done) | (simp [*]; done)), H', ⟨Nat.le_refl _⟩, ⟨by (with_reducible repeat (first | apply rA | apply rN | apply rD)); exact Kd.R_mono HO277.out (fun _ hk => (by simp [Value.ownBlock]))⟩, ⟨by first | exact Kd.R_nil _ _ _ _ _ | exact Kd.N_nil _ _ _ _ _ | exact Kd.V_nil _ _ _ _ _ | exact Kd.Q_nil _ _ _ _ _ | exact Kd.S_nil _ _ _ _ _⟩, ⟨bl_ HB⟩⟩
   case round =>
    clear H'
    try clear c1
    try clear p2
    try clear c3
    try clear c3b0
    try clear c3b1
    try clear c4
    try clear c4b0
    try clear c4b1
    try clear p6
    obtain ⟨x6_1, x7_1, x8_1, rfl, HA, HK1, HO_6, HO_7, HB⟩ := hrel
    cases gk with
    | zero => exact absurd HA.out (by simp [steelyardref02_Parts.l0])
    | succ k1 =>
     have H := HA.out
     clear HA
     simp only [steelyardref02_Parts.l0] at H
     by_cases c7 : x8_1 ≥ 0
     ·rw [if_pos c7] at H
      have c7b0 : decide (0 ≤ x8_1) = true := decide_eq_true c7
      clear c7
      by_cases c8 : 0 ≤ x8_1
      ·rw [if_pos c8] at H
       have c8b0 : decide (0 ≤ x8_1) = true := decide_eq_true c8
       clear c8
       by_cases c9 : x8_1 < (l0.length : Int)
       ·rw [if_pos c9] at H
        have c9b0 : decide (x8_1 < (l0.length : Int)) = true := decide_eq_true c9
        clear c9
        obtain ⟨y282, hy282⟩ : ∃ y_ : List Int, y_ = (([rd l0 x8_1] : List Int)) := ⟨_, rfl⟩
        replace H : (if y282.length + x7_1.length < 35184372088832 then ((steelyardref02_Norm.f k1 (y282 ++ x7_1)).bind fun t288 => ((steelyardref02_Cmp.f k1 t288 l1).bind fun t291 => (if t291 ≥ 0 then ((steelyardref02_digit.f k1 t288 l1).bind fun bt292 => (if x8_1 < (x6_1.length : Int) then ((steelyardref02_Minus.f k1 t288 bt292.2).bind fun t297 => (steelyardref02_Parts.l0 k1 l0 l1 (x6_1.set (x8_1 : Int).toNat bt292.1) t297 (wrap64 (x8_1 - 1)))) else (none))) else (steelyardref02_Parts.l0 k1 l0 l1 x6_1 t288 (wrap64 (x8_1 - 1)))))) else (none)) = some (r1, r2) := by first | (rw [hy282]; with_reducible exact H) | (have H2_ := (Option.bind_some _ _).symm.trans H; rw [hy282]; with_reducible exact H2_) | (have H2_ := (Option.bind_some _ _).symm.trans H; with_reducible exact H2_) | with_reducible exact H | (rw [hy282]; exact H) | exact H
        have Ny282 := Aside0.mk hy282
        clear hy282
        by_cases c10 : y282.length + x7_1.length < 35184372088832
        ·rw [if_pos c10] at H
         have LMc10 := Aside0.mk c10
         clear c10
         obtain ⟨y285, hy285⟩ : ∃ y_ : List Int, y_ = (y282 ++ x7_1) := ⟨_, rfl⟩
         replace H : ((steelyardref02_Norm.f k1 y285).bind fun t288 => ((steelyardref02_Cmp.f k1 t288 l1).bind fun t291 => (if t291 ≥ 0 then ((steelyardref02_digit.f k1 t288 l1).bind fun bt292 => (if x8_1 < (x6_1.length : Int) then ((steelyardref02_Minus.f k1 t288 bt292.2).bind fun t297 => (steelyardref02_Parts.l0 k1 l0 l1 (x6_1.set (x8_1 : Int).toNat bt292.1) t297 (wrap64 (x8_1 - 1)))) else (none))) else (steelyardref02_Parts.l0 k1 l0 l1 x6_1 t288 (wrap64 (x8_1 - 1)))))) = some (r1, r2) := by first | (rw [hy285]; with_reducible exact H) | (have H2_ := (Option.bind_some _ _).symm.trans H; rw [hy285]; with_reducible exact H2_) | (have H2_ := (Option.bind_some _ _).symm.trans H; with_reducible exact H2_) | with_reducible exact H | (rw [hy285]; exact H) | exact H
         have Ny285 := Aside0.mk hy285
         clear hy285
         obtain ⟨t288, A11, H⟩ := ob_ H
         try dsimp only at H
         obtain ⟨t291, A12, H⟩ := ob_ H
         try dsimp only at H
         by_cases c13 : t291 ≥ 0
         ·rw [if_pos c13] at H
          have c13b0 : decide (0 ≤ t291) = true := decide_eq_true c13
          clear c13
          obtain ⟨⟨t292, t293⟩, A14, H⟩ := ob_ H
          try dsimp only at H
          by_cases c15 : x8_1 < (x6_1.length : Int)
          ·rw [if_pos c15] at H
           have c15b0 : decide (x8_1 < (x6_1.length : Int)) = true := decide_eq_true c15
           clear c15
           obtain ⟨y296, hy296⟩ : ∃ y_ : List Int, y_ = (x6_1.set (x8_1 : Int).toNat t292) := ⟨_, rfl⟩
           replace H : ((steelyardref02_Minus.f k1 t288 t293).bind fun t297 => (steelyardref02_Parts.l0 k1 l0 l1 y296 t297 (wrap64 (x8_1 - 1)))) = some (r1, r2) := by first | (rw [hy296]; with_reducible exact H) | (have H2_ := (Option.bind_some _ _).symm.trans H; rw [hy296]; with_reducible exact H2_) | (have H2_ := (Option.bind_some _ _).symm.trans H; with_reducible exact H2_) | with_reducible exact H | (rw [hy296]; exact H) | exact H
           have Ny296 := Aside0.mk hy296
           clear hy296
           obtain ⟨t297, A17, H⟩ := ob_ H
           try dsimp only at H
           have H' := Aside0.mk H
           clear H
           have p281 : 0 ≤ (x8_1 : Int) := of_decide_eq_true (by first | (with_reducible assumption) | assumption)
           have q281 : x8_1 < (l0.length : Int) := of_decide_eq_true (by first | (with_reducible assumption) | assumption)
           obtain ⟨ad281, e281, hx281_0⟩ := Kd.at_int HR0.out x8_1 p281 q281
           cases e281
           replace hx281_0 := (HB.out.cell (World.block_lt_of_cell? w _ hx281_0)).trans hx281_0
           replace p281 := eq_true p281
           replace q281 := eq_true q281
           go_wp2_with (first | ((with_reducible refine gate_dst (N := 26) rfl ?_); refine Kd.R_lit (Kd.int .u32) _ 72 ?hg (N := 26) ?hd (xs := ([rd l0 x8_1] : List Int)) (inner := [.int .u32 (rd l0 x8_1)]) (ok := fun _ => True) (okp := fun _ => True) ?hr ?hp (fun _ hk => hk) trivial (Below.refl _ _) (Nat.le_refl _) (by simp) ?_; (case hd => rfl); (case hg => rfl); (case hr => first | (go_simp; done) | (go_simp; rfl)); (case hp => exact (Reps.one (show Kd.M (Kd.int .u32) _ _ _ (rd l0 x8_1) [.int .u32 (rd l0 x8_1)] from rfl) (Reps.none _ _))); intro v283 w18 ho19 hb hg_ hnew_; clear hg_ hnew_; (first | rw [← Ny282.out] at ho19 | (simp only [Int.reduceToNat] at ho19; rw [← Ny282.out] at ho19)); have n0_ := Aside0.mk (Kd.R_elder' (by (with_reducible repeat (first | apply rA | apply rN | apply rD)); exact HO_6.out) (Kd.R_base ho19) hb); have n1_ := Aside0.mk (Kd.R_elder' (by (with_reducible repeat (first | apply rA | apply rN | apply rD)); exact HO_7.out) (Kd.R_base ho19) hb); have n2_ := Aside0.mk (Kd.R_lower (Kd.R_new' (Kd.R_new' ho19 (Kd.R_lt (by (with_reducible repeat (first | apply rA | apply rN | apply rD)); exact HO_6.out))) (Kd.R_lt (by (with_reducible repeat (first | apply rA | apply rN | apply rD)); exact HO_7.out))) (below_size (bl_ HB))); have n3_ := bs_ HB hb; clear HO_6; clear HO_7; clear HB; have HO_6 := n0_; have HO_7 := n1_; have HO284 := n2_; have HB := n3_; clear n0_ n1_ n2_ n3_; clear hb ho19; obtain ⟨Ao21, co21, eo21⟩ := Kd.R_slice HO_7.out; subst eo21) | ((with_reducible refine gate_builtin (b := .append) (xs := #[.tmp 27, .tmp 28]) rfl ?_); at_builtin; refine Kd.R_append_rows (Kd.int .u32) (w0 := w) w.heap.size rfl (.tmp 27) (.tmp 28) 41 72 (.int .u32 0) 4 rfl Try.underlying41 info72 rfl (by decide) (by omega) v283 y282 x7_1 _ _ _ (fun k_ => some k_ ≠ (v276 : Value).ownBlock ∧ some k_ ≠ (.slice Ao21 x7_1.length co21 : Value).ownBlock) (fun _ => False) rfl rfl ?aO ?aR (fun _ _ h => h) (fun _ h => h.elim) ?aF ?aB ?aS ?aL ?_; (case aR => repeat (first | exact (Kd.R_reads' HO_7.out).2.2 | (with_reducible first | apply cA | apply cN | apply cD))); (case aB => exact (bl_ HB)); (case aF => exact (fun k_ hk => ⟨Kd.fresh' (Kd.R_lt (by (with_reducible repeat (first | apply rA | apply rN | apply rD)); exact HO_6.out)) k_ hk, Kd.fresh' (Kd.R_lt (by (with_reducible repeat (first | apply rA | apply rN | apply rD)); exact HO_7.out)) k_ hk⟩)); (case aO => exact (by (with_reducible repeat (first | apply rA | apply rN | apply rD)); exact Kd.R_mono HO284.out (fun _ hk => by first | exact ⟨hk.1.2, hk.2⟩ | (revert hk; simp only [and_imp]; intros; (repeat' apply And.intro) <;> assumption)))); (case aS => exact (below_size (bl_ HB))); (case aL => have := LMc10.out; omega); intro v286 w20 ho hb hg hat; rw [← Ny285.out] at ho; have n0_ := Aside0.mk (Kd.R_after (ok := (fun k_ => some k_ ≠ (.slice Ao21 x7_1.length co21 : Value).ownBlock)) (by (with_reducible repeat (first | apply rA | apply rN | apply rD)); exact HO_6.out) hg hat); have n1_ := Aside0.mk (Kd.R_after (ok := (fun k_ => some k_ ≠ (v276 : Value).ownBlock)) (by (with_reducible repeat (first | apply rA | apply rN | apply rD)); exact HO_7.out) hg hat); have n2_ := Aside0.mk (hb); have n3_ := Aside0.mk (ho); clear HO_6; clear HO_7; clear HB; clear HO284; have HO_6 := n0_; have HO_7 := n1_; have HB := n2_; have HO287 := n3_; clear n0_ n1_ n2_ n3_; clear ho hb hg hat; obtain ⟨Ao22, co22, eo22⟩ := Kd.R_slice HO287.out; subst eo22) | ((with_reducible refine gate_callee (f := 78) rfl ?_); refine goesM (some 31) Try.func78 #[.slice Ao22 y285.length co22] ?_; (with_reducible refine (steelyardref02_Norm.calls k1 _ _ y285 t288 _ ?side1 ?side2 A11.out).mono ?_); (case side1 => repeat (first | exact (Kd.R_reads' HO287.out).2.2 | (with_reducible first | apply cA | apply cN | apply cD))); (case side2 => exact (Kd.R_reads' HO287.out).2.1); rintro e w23 ⟨v289, rfl, ho0, hb⟩; refine ⟨_, rfl, ?_⟩; have n0_ := Aside0.mk (Kd.R_elder' (by (with_reducible repeat (first | apply rA | apply rN | apply rD)); exact HO_6.out) (Kd.R_base ho0) hb); have n1_ := Aside0.mk (Kd.R_elder' (by (with_reducible repeat (first | apply rA | apply rN | apply rD)); exact HO_7.out) (Kd.R_base ho0) hb); have n2_ := Aside0.mk (Kd.R_elder' (by (with_reducible repeat (first | apply rA | apply rN | apply rD)); exact HO287.out) (Kd.R_base ho0) hb); have n3_ := Aside0.mk (Kd.R_lower (Kd.R_new' (Kd.R_new' (Kd.R_new' ho0 (Kd.R_lt (by (with_reducible repeat (first | apply rA | apply rN | apply rD)); exact HO_6.out))) (Kd.R_lt (by (with_reducible repeat (first | apply rA | apply rN | apply rD)); exact HO_7.out))) (Kd.R_lt (by (with_reducible repeat (first | apply rA | apply rN | apply rD)); exact HO287.out))) (below_size (bl_ HB))); have n4_ := bs_ HB hb; clear HO_6; clear HO_7; clear HO287; clear HB; have HO_6 := n0_; have HO_7 := n1_; have HO287 := n2_; have HO290 := n3_; have HB := n4_; clear n0_ n1_ n2_ n3_ n4_; (try clear hb); (try clear hb2); (try clear hk); (try clear hi); (try clear ho0); obtain ⟨Ao24, co24, eo24⟩ := Kd.R_slice HO290.out; subst eo24) | ((with_reducible refine gate_callee (f := 61) rfl ?_); refine goesM (some 34) Try.func61 #[.slice Ao24 t288.length co24, .slice A1 l1.length c1] ?_; (with_reducible refine (steelyardref02_Cmp.calls k1 _ _ t288 _ _ l1 t291 _ ?side1 ?side2 ?side3 ?side4 A12.out).mono ?_); (case side1 => repeat (first | exact (Kd.R_reads' HO290.out).2.2 | (with_reducible first | apply cA | apply cN | apply cD))); (case side2 => exact (Kd.R_reads' HO290.out).2.1); (case side3 => repeat (first | exact (Kd.C_below HR1.out HB.out) | (with_reducible first | apply cA | apply cN | apply cD))); (case side4 => exact HC1.out); rintro e w' ⟨rfl, ⟨nd, rfl⟩⟩; refine ⟨_, rfl, ?_⟩; (try (rw [drewN_self w23]; generalize hq_ : World.drewN w23 _ = w23; have n0_ : Aside0 (Kd.R (Kd.int .u32) 72 w23 w.heap.size (fun k_ => some k_ ≠ (.slice Ao24 t288.length co24 : Value).ownBlock ∧ some k_ ≠ (v276 : Value).ownBlock ∧ some k_ ≠ (.slice Ao21 x7_1.length co21 : Value).ownBlock) (.slice Ao22 y285.length co22) y285) := ⟨by rw [← hq_]; exact (by (with_reducible repeat (first | apply rA | apply rN | apply rD)); exact Kd.R_mono HO287.out (fun _ hk => by first | exact ⟨hk.2, ⟨hk.1.1, hk.1.2⟩⟩ | (revert hk; simp only [and_imp]; intros; (repeat' apply And.intro) <;> assumption)))⟩; have n1_ : Aside0 (Kd.R (Kd.int .u32) 72 w23 w.heap.size (fun k_ => some k_ ≠ (.slice Ao22 y285.length co22 : Value).ownBlock ∧ some k_ ≠ (v276 : Value).ownBlock ∧ some k_ ≠ (.slice Ao21 x7_1.length co21 : Value).ownBlock) (.slice Ao24 t288.length co24) t288) := ⟨by rw [← hq_]; exact (by (with_reducible repeat (first | apply rA | apply rN | apply rD)); exact Kd.R_mono HO290.out (fun _ hk => by first | exact ⟨hk.2, ⟨hk.1.1.2, hk.1.2⟩⟩ | (revert hk; simp only [and_imp]; intros; (repeat' apply And.intro) <;> assumption)))⟩; have n2_ : Aside0 (Kd.R (Kd.int .u32) 72 w23 w.heap.size (fun k_ => some k_ ≠ (.slice Ao22 y285.length co22 : Value).ownBlock ∧ some k_ ≠ (.slice Ao24 t288.length co24 : Value).ownBlock ∧ some k_ ≠ (.slice Ao21 x7_1.length co21 : Value).ownBlock) v276 x6_1) := ⟨by rw [← hq_]; exact (by (with_reducible repeat (first | apply rA | apply rN | apply rD)); exact Kd.R_mono HO_6.out (fun _ hk => by first | exact ⟨hk.1.2, ⟨hk.2, hk.1.1⟩⟩ | (revert hk; simp only [and_imp]; intros; (repeat' apply And.intro) <;> assumption)))⟩; have n3_ : Aside0 (Kd.R (Kd.int .u32) 72 w23 w.heap.size (fun k_ => some k_ ≠ (.slice Ao22 y285.length co22 : Value).ownBlock ∧ some k_ ≠ (.slice Ao24 t288.length co24 : Value).ownBlock ∧ some k_ ≠ (v276 : Value).ownBlock) (.slice Ao21 x7_1.length co21) x7_1) := ⟨by rw [← hq_]; exact (by (with_reducible repeat (first | apply rA | apply rN | apply rD)); exact Kd.R_mono HO_7.out (fun _ hk => by first | exact ⟨hk.1.2, ⟨hk.2, hk.1.1⟩⟩ | (revert hk; simp only [and_imp]; intros; (repeat' apply And.intro) <;> assumption)))⟩; have n4_ : Aside0 (Below w.heap.size w w23) := ⟨by rw [← hq_]; exact (bl_ HB)⟩; clear HO287 HO290 HO_6 HO_7 HB hq_; have HO287 := n0_; have HO290 := n1_; have HO_6 := n2_; have HO_7 := n3_; have HB := n4_; clear n0_ n1_ n2_ n3_ n4_))) | ((with_reducible refine gate_callee (f := 84) rfl ?_); refine goesM (some 39) Try.func84 #[.slice Ao24 t288.length co24, .slice A1 l1.length c1] ?_; (with_reducible refine (steelyardref02_digit.calls k1 _ _ t288 _ _ l1 t292 t293 _ ?side1 ?side2 ?side3 ?side4 A14.out).mono ?_); (case side1 => repeat (first | exact (Kd.R_reads' HO290.out).2.2 | (with_reducible first | apply cA | apply cN | apply cD))); (case side2 => exact (Kd.R_reads' HO290.out).2.1); (case side3 => repeat (first | exact (Kd.C_below HR1.out HB.out) | (with_reducible first | apply cA | apply cN | apply cD))); (case side4 => exact HC1.out); rintro e w25 ⟨v294, rfl, ho0, hb⟩; refine ⟨_, rfl, ?_⟩; have n0_ := Aside0.mk (Kd.R_elder' (by (with_reducible repeat (first | apply rA | apply rN | apply rD)); exact HO_6.out) (Kd.R_base ho0) hb); have n1_ := Aside0.mk (Kd.R_elder' (by (with_reducible repeat (first | apply rA | apply rN | apply rD)); exact HO_7.out) (Kd.R_base ho0) hb); have n2_ := Aside0.mk (Kd.R_elder' (by (with_reducible repeat (first | apply rA | apply rN | apply rD)); exact HO287.out) (Kd.R_base ho0) hb); have n3_ := Aside0.mk (Kd.R_elder' (by (with_reducible repeat (first | apply rA | apply rN | apply rD)); exact HO290.out) (Kd.R_base ho0) hb); have n4_ := Aside0.mk (Kd.R_lower (Kd.R_new' (Kd.R_new' (Kd.R_new' (Kd.R_new' ho0 (Kd.R_lt (by (with_reducible repeat (first | apply rA | apply rN | apply rD)); exact HO_6.out))) (Kd.R_lt (by (with_reducible repeat (first | apply rA | apply rN | apply rD)); exact HO_7.out))) (Kd.R_lt (by (with_reducible repeat (first | apply rA | apply rN | apply rD)); exact HO287.out))) (Kd.R_lt (by (with_reducible repeat (first | apply rA | apply rN | apply rD)); exact HO290.out))) (below_size (bl_ HB))); have n5_ := bs_ HB hb; clear HO_6; clear HO_7; clear HO287; clear HO290; clear HB; have HO_6 := n0_; have HO_7 := n1_; have HO287 := n2_; have HO290 := n3_; have HO295 := n4_; have HB := n5_; clear n0_ n1_ n2_ n3_ n4_ n5_; (try clear hb); (try clear hb2); (try clear hk); (try clear hi); (try clear ho0); have p16 : 0 ≤ (x8_1 : Int) := of_decide_eq_true (by first | (with_reducible assumption) | assumption); have q16 : (x8_1 : Int) < ((x6_1.length : Int) : Int) := of_decide_eq_true (by first | (with_reducible assumption) | assumption); obtain ⟨go16, co16, eo16, gb16, gl16, cl16, HG16⟩ := Kd.R_form HO_6.out (by omega); (first | cases eo16 | (injection eo16 with ea_ en_ ec_; (first | subst ea_ | (injection ea_ with ea_; subst ea_)); subst ec_; clear en_)); have GB16 := Aside0.mk gb16; have GG16 := Aside0.mk HG16; clear gb16 gl16 HG16; obtain ⟨hx16_0, hf16_0⟩ := Kd.R_celln 0 HO_6.out (x8_1 : Int) p16 q16; replace p16 := eq_true p16; replace q16 := eq_true q16; have n_ := Aside0.mk (Kd.R_mono (ok' := (fun k_ => some k_ ≠ (.slice Ao21 x7_1.length co21 : Value).ownBlock ∧ some k_ ≠ (.slice Ao22 y285.length co22 : Value).ownBlock ∧ some k_ ≠ (.slice Ao24 t288.length co24 : Value).ownBlock ∧ some k_ ≠ (v294 : Value).ownBlock)) HO_6.out (fun k_ hk => by first | exact ⟨hk.1.1.1, ⟨hk.1.1.2, ⟨hk.1.2, hk.2⟩⟩⟩ | (revert hk; simp only [and_imp]; intros; (repeat' apply And.intro) <;> assumption))); clear HO_6; have HO_6 := n_; clear n_; obtain ⟨hy26_, hz26_⟩ := Kd.R_celln 0 HO_6.out (x8_1 : Int) (of_decide_eq_true (by first | (with_reducible assumption) | assumption)) (of_decide_eq_true (by first | (with_reducible assumption) | assumption)); have HP26 := Kd.R_putg HO_6.out (x8_1 : Int) t292) | ((with_reducible refine gate_store (t := 72) (p := 45) rfl ?_); refine store_event (t := 72) (p := 45) (v := ?vo_w27) (w1 := (w25.setCell ⟨go16, (x8_1 : Int).toNat, none⟩ (.int .u32 t292))) ?hg ?ho ?hn ?hr ?_; (case ho => rfl); (case hg => rfl); (case hn => rfl); (case hr => first | (go_simp; done) | (go_simp; rfl)); intro w27 hw; have hg : w25.grownBy w27 (some go16) := (by rw [hw]; exact HP26.2); have hp_ : Kd.R (Kd.int .u32) 72 w27 w.heap.size (fun k_ => some k_ ≠ (.slice Ao21 x7_1.length co21 : Value).ownBlock ∧ some k_ ≠ (.slice Ao22 y285.length co22 : Value).ownBlock ∧ some k_ ≠ (.slice Ao24 t288.length co24 : Value).ownBlock ∧ some k_ ≠ (v294 : Value).ownBlock) (.slice (some ⟨go16, 0, none⟩) x6_1.length co16) y296 := (by rw [hw, Ny296.out]; exact HP26.1); clear HP26; have n0_ := Aside0.mk (hp_); have n1_ := Aside0.mk (Kd.R_after (v := (.slice (some ⟨go16, 0, none⟩) x6_1.length co16)) (v1 := (.slice (some ⟨go16, 0, none⟩) x6_1.length co16)) (ok := (fun k_ => some k_ ≠ (.slice Ao22 y285.length co22 : Value).ownBlock ∧ some k_ ≠ (.slice Ao24 t288.length co24 : Value).ownBlock ∧ some k_ ≠ (v294 : Value).ownBlock)) (by (with_reducible repeat (first | apply rA | apply rN | apply rD)); exact Kd.R_mono HO_7.out (fun _ hk => by first | exact ⟨⟨hk.1.1.2, ⟨hk.1.2, hk.2⟩⟩, hk.1.1.1⟩ | (revert hk; simp only [and_imp]; intros; (repeat' apply And.intro) <;> assumption))) hg (.inl rfl)); have n2_ := Aside0.mk (Kd.R_after (v := (.slice (some ⟨go16, 0, none⟩) x6_1.length co16)) (v1 := (.slice (some ⟨go16, 0, none⟩) x6_1.length co16)) (ok := (fun k_ => some k_ ≠ (.slice Ao21 x7_1.length co21 : Value).ownBlock ∧ some k_ ≠ (.slice Ao24 t288.length co24 : Value).ownBlock ∧ some k_ ≠ (v294 : Value).ownBlock)) (by (with_reducible repeat (first | apply rA | apply rN | apply rD)); exact Kd.R_mono HO287.out (fun _ hk => by first | exact ⟨⟨hk.1.1.2, ⟨hk.1.2, hk.2⟩⟩, hk.1.1.1⟩ | (revert hk; simp only [and_imp]; intros; (repeat' apply And.intro) <;> assumption))) hg (.inl rfl)); have n3_ := Aside0.mk (Kd.R_after (v := (.slice (some ⟨go16, 0, none⟩) x6_1.length co16)) (v1 := (.slice (some ⟨go16, 0, none⟩) x6_1.length co16)) (ok := (fun k_ => some k_ ≠ (.slice Ao21 x7_1.length co21 : Value).ownBlock ∧ some k_ ≠ (.slice Ao22 y285.length co22 : Value).ownBlock ∧ some k_ ≠ (v294 : Value).ownBlock)) (by (with_reducible repeat (first | apply rA | apply rN | apply rD)); exact Kd.R_mono HO290.out (fun _ hk => by first | exact ⟨⟨hk.1.1.2, ⟨hk.1.2, hk.2⟩⟩, hk.1.1.1.2⟩ | (revert hk; simp only [and_imp]; intros; (repeat' apply And.intro) <;> assumption))) hg (.inl rfl)); have n4_ := Aside0.mk (Kd.R_after (v := (.slice (some ⟨go16, 0, none⟩) x6_1.length co16)) (v1 := (.slice (some ⟨go16, 0, none⟩) x6_1.length co16)) (ok := (fun k_ => some k_ ≠ (.slice Ao21 x7_1.length co21 : Value).ownBlock ∧ some k_ ≠ (.slice Ao22 y285.length co22 : Value).ownBlock ∧ some k_ ≠ (.slice Ao24 t288.length co24 : Value).ownBlock)) (by (with_reducible repeat (first | apply rA | apply rN | apply rD)); exact Kd.R_mono HO295.out (fun _ hk => by first | exact ⟨⟨hk.1.1.2, ⟨hk.1.2, hk.2⟩⟩, hk.1.1.1.2⟩ | (revert hk; simp only [and_imp]; intros; (repeat' apply And.intro) <;> assumption))) hg (.inl rfl)); have n5_ := Aside0.mk ((by rw [hw]; exact below_set (HB.out) GB16.out : Below w.heap.size w w27)); clear HO_6; clear HO_7; clear HO287; clear HO290; clear HO295; clear HB; have HO_6 := n0_; have HO_7 := n1_; have HO287 := n2_; have HO290 := n3_; have HO295 := n4_; have HB := n5_; clear n0_ n1_ n2_ n3_ n4_ n5_; clear hg hw hp_; obtain ⟨Ao28, co28, eo28⟩ := Kd.R_slice HO295.out; subst eo28) | ((with_reducible refine gate_callee (f := 62) rfl ?_); refine goesM (some 48) Try.func62 #[.slice Ao24 t288.length co24, .slice Ao28 t293.length co28] ?_; (with_reducible refine (steelyardref02_Minus.calls k1 _ _ t288 _ _ t293 t297 _ ?side1 ?side2 ?side3 ?side4 A17.out).mono ?_); (case side1 => repeat (first | exact (Kd.R_reads' HO290.out).2.2 | (with_reducible first | apply cA | apply cN | apply cD))); (case side2 => exact (Kd.R_reads' HO290.out).2.1); (case side3 => repeat (first | exact (Kd.R_reads' HO295.out).2.2 | (with_reducible first | apply cA | apply cN | apply cD))); (case side4 => exact (Kd.R_reads' HO295.out).2.1); rintro e w29 ⟨v298, rfl, ho0, hb⟩; refine ⟨_, rfl, ?_⟩; have n0_ := Aside0.mk (Kd.R_elder' (by (with_reducible repeat (first | apply rA | apply rN | apply rD)); exact HO_6.out) (Kd.R_base ho0) hb); have n1_ := Aside0.mk (Kd.R_elder' (by (with_reducible repeat (first | apply rA | apply rN | apply rD)); exact HO_7.out) (Kd.R_base ho0) hb); have n2_ := Aside0.mk (Kd.R_elder' (by (with_reducible repeat (first | apply rA | apply rN | apply rD)); exact HO287.out) (Kd.R_base ho0) hb); have n3_ := Aside0.mk (Kd.R_elder' (by (with_reducible repeat (first | apply rA | apply rN | apply rD)); exact HO290.out) (Kd.R_base ho0) hb); have n4_ := Aside0.mk (Kd.R_elder' (by (with_reducible repeat (first | apply rA | apply rN | apply rD)); exact HO295.out) (Kd.R_base ho0) hb); have n5_ := Aside0.mk (Kd.R_lower (Kd.R_new' (Kd.R_new' (Kd.R_new' (Kd.R_new' (Kd.R_new' ho0 (Kd.R_lt (by (with_reducible repeat (first | apply rA | apply rN | apply rD)); exact HO_6.out))) (Kd.R_lt (by (with_reducible repeat (first | apply rA | apply rN | apply rD)); exact HO_7.out))) (Kd.R_lt (by (with_reducible repeat (first | apply rA | apply rN | apply rD)); exact HO287.out))) (Kd.R_lt (by (with_reducible repeat (first | apply rA | apply rN | apply rD)); exact HO290.out))) (Kd.R_lt (by (with_reducible repeat (first | apply rA | apply rN | apply rD)); exact HO295.out))) (below_size (bl_ HB))); have n6_ := bs_ HB hb; clear HO_6; clear HO_7; clear HO287; clear HO290; clear HO295; clear HB; have HO_6 := n0_; have HO_7 := n1_; have HO287 := n2_; have HO290 := n3_; have HO295 := n4_; have HO299 := n5_; have HB := n6_; clear n0_ n1_ n2_ n3_ n4_ n5_ n6_; (try clear hb); (try clear hb2); (try clear hk); (try clear hi); (try clear ho0)))
           go_roundg k1
           case measure => have := HK1.out; omega
           case rel => exact ⟨(y296), (t297), (wrap64 (x8_1 - 1)), (by first | rfl | (simp; done) | (simp [*]; done)), H', ⟨by have := HK1.out; omega⟩, ⟨by (with_reducible repeat (first | apply rA | apply rN | apply rD)); exact Kd.R_mono HO_6.out (fun _ hk => hk.2)⟩, ⟨by (with_reducible repeat (first | apply rA | apply rN | apply rD)); exact Kd.R_mono HO299.out (fun _ hk => hk.1.1.1.1.2)⟩, ⟨bl_ HB⟩⟩
          ·rw [if_neg c15] at H
           exact absurd H (by simp)
         ·rw [if_neg c13] at H
          have c13b0 : decide (0 ≤ t291) = false := decide_eq_false c13
          clear c13
          have H' := Aside0.mk H
          clear H
          have p281 : 0 ≤ (x8_1 : Int) := of_decide_eq_true (by first | (with_reducible assumption) | assumption)
          have q281 : x8_1 < (l0.length : Int) := of_decide_eq_true (by first | (with_reducible assumption) | assumption)
          obtain ⟨ad281, e281, hx281_0⟩ := Kd.at_int HR0.out x8_1 p281 q281
          cases e281
          replace hx281_0 := (HB.out.cell (World.block_lt_of_cell? w _ hx281_0)).trans hx281_0
          replace p281 := eq_true p281
          replace q281 := eq_true q281
          go_wp2_with (first | ((with_reducible refine gate_dst (N := 26) rfl ?_); refine Kd.R_lit (Kd.int .u32) _ 72 ?hg (N := 26) ?hd (xs := ([rd l0 x8_1] : List Int)) (inner := [.int .u32 (rd l0 x8_1)]) (ok := fun _ => True) (okp := fun _ => True) ?hr ?hp (fun _ hk => hk) trivial (Below.refl _ _) (Nat.le_refl _) (by simp) ?_; (case hd => rfl); (case hg => rfl); (case hr => first | (go_simp; done) | (go_simp; rfl)); (case hp => exact (Reps.one (show Kd.M (Kd.int .u32) _ _ _ (rd l0 x8_1) [.int .u32 (rd l0 x8_1)] from rfl) (Reps.none _ _))); intro v283 w30 ho31 hb hg_ hnew_; clear hg_ hnew_; (first | rw [← Ny282.out] at ho31 | (simp only [Int.reduceToNat] at ho31; rw [← Ny282.out] at ho31)); have n0_ := Aside0.mk (Kd.R_elder' (by (with_reducible repeat (first | apply rA | apply rN | apply rD)); exact HO_6.out) (Kd.R_base ho31) hb); have n1_ := Aside0.mk (Kd.R_elder' (by (with_reducible repeat (first | apply rA | apply rN | apply rD)); exact HO_7.out) (Kd.R_base ho31) hb); have n2_ := Aside0.mk (Kd.R_lower (Kd.R_new' (Kd.R_new' ho31 (Kd.R_lt (by (with_reducible repeat (first | apply rA | apply rN | apply rD)); exact HO_6.out))) (Kd.R_lt (by (with_reducible repeat (first | apply rA | apply rN | apply rD)); exact HO_7.out))) (below_size (bl_ HB))); have n3_ := bs_ HB hb; clear HO_6; clear HO_7; clear HB; have HO_6 := n0_; have HO_7 := n1_; have HO284 := n2_; have HB := n3_; clear n0_ n1_ n2_ n3_; clear hb ho31; obtain ⟨Ao33, co33, eo33⟩ := Kd.R_slice HO_7.out; subst eo33) | ((with_reducible refine gate_builtin (b := .append) (xs := #[.tmp 27, .tmp 28]) rfl ?_); at_builtin; refine Kd.R_append_rows (Kd.int .u32) (w0 := w) w.heap.size rfl (.tmp 27) (.tmp 28) 41 72 (.int .u32 0) 4 rfl Try.underlying41 info72 rfl (by decide) (by omega) v283 y282 x7_1 _ _ _ (fun k_ => some k_ ≠ (v276 : Value).ownBlock ∧ some k_ ≠ (.slice Ao33 x7_1.length co33 : Value).ownBlock) (fun _ => False) rfl rfl ?aO ?aR (fun _ _ h => h) (fun _ h => h.elim) ?aF ?aB ?aS ?aL ?_; (case aR => repeat (first | exact (Kd.R_reads' HO_7.out).2.2 | (with_reducible first | apply cA | apply cN | apply cD))); (case aB => exact (bl_ HB)); (case aF => exact (fun k_ hk => ⟨Kd.fresh' (Kd.R_lt (by (with_reducible repeat (first | apply rA | apply rN | apply rD)); exact HO_6.out)) k_ hk, Kd.fresh' (Kd.R_lt (by (with_reducible repeat (first | apply rA | apply rN | apply rD)); exact HO_7.out)) k_ hk⟩)); (case aO => exact (by (with_reducible repeat (first | apply rA | apply rN | apply rD)); exact Kd.R_mono HO284.out (fun _ hk => by first | exact ⟨hk.1.2, hk.2⟩ | (revert hk; simp only [and_imp]; intros; (repeat' apply And.intro) <;> assumption)))); (case aS => exact (below_size (bl_ HB))); (case aL => have := LMc10.out; omega); intro v286 w32 ho hb hg hat; rw [← Ny285.out] at ho; have n0_ := Aside0.mk (Kd.R_after (ok := (fun k_ => some k_ ≠ (.slice Ao33 x7_1.length co33 : Value).ownBlock)) (by (with_reducible repeat (first | apply rA | apply rN | apply rD)); exact HO_6.out) hg hat); have n1_ := Aside0.mk (Kd.R_after (ok := (fun k_ => some k_ ≠ (v276 : Value).ownBlock)) (by (with_reducible repeat (first | apply rA | apply rN | apply rD)); exact HO_7.out) hg hat); have n2_ := Aside0.mk (hb); have n3_ := Aside0.mk (ho); clear HO_6; clear HO_7; clear HB; clear HO284; have HO_6 := n0_; have HO_7 := n1_; have HB := n2_; have HO287 := n3_; clear n0_ n1_ n2_ n3_; clear ho hb hg hat; obtain ⟨Ao34, co34, eo34⟩ := Kd.R_slice HO287.out; subst eo34) | ((with_reducible refine gate_callee (f := 78) rfl ?_); refine goesM (some 31) Try.func78 #[.slice Ao34 y285.length co34] ?_; (with_reducible refine (steelyardref02_Norm.calls k1 _ _ y285 t288 _ ?side1 ?side2 A11.out).mono ?_); (case side1 => repeat (first | exact (Kd.R_reads' HO287.out).2.2 | (with_reducible first | apply cA | apply cN | apply cD))); (case side2 => exact (Kd.R_reads' HO287.out).2.1); rintro e w35 ⟨v289, rfl, ho0, hb⟩; refine ⟨_, rfl, ?_⟩; have n0_ := Aside0.mk (Kd.R_elder' (by (with_reducible repeat (first | apply rA | apply rN | apply rD)); exact HO_6.out) (Kd.R_base ho0) hb); have n1_ := Aside0.mk (Kd.R_elder' (by (with_reducible repeat (first | apply rA | apply rN | apply rD)); exact HO_7.out) (Kd.R_base ho0) hb); have n2_ := Aside0.mk (Kd.R_elder' (by (with_reducible repeat (first | apply rA | apply rN | apply rD)); exact HO287.out) (Kd.R_base ho0) hb); have n3_ := Aside0.mk (Kd.R_lower (Kd.R_new' (Kd.R_new' (Kd.R_new' ho0 (Kd.R_lt (by (with_reducible repeat (first | apply rA | apply rN | apply rD)); exact HO_6.out))) (Kd.R_lt (by (with_reducible repeat (first | apply rA | apply rN | apply rD)); exact HO_7.out))) (Kd.R_lt (by (with_reducible repeat (first | apply rA | apply rN | apply rD)); exact HO287.out))) (below_size (bl_ HB))); have n4_ := bs_ HB hb; clear HO_6; clear HO_7; clear HO287; clear HB; have HO_6 := n0_; have HO_7 := n1_; have HO287 := n2_; have HO290 := n3_; have HB := n4_; clear n0_ n1_ n2_ n3_ n4_; (try clear hb); (try clear hb2); (try clear hk); (try clear hi); (try clear ho0); obtain ⟨Ao36, co36, eo36⟩ := Kd.R_slice HO290.out; subst eo36) | ((with_reducible refine gate_callee (f := 61) rfl ?_); refine goesM (some 34) Try.func61 #[.slice Ao36 t288.length co36, .slice A1 l1.length c1] ?_; (with_reducible refine (steelyardref02_Cmp.calls k1 _ _ t288 _ _ l1 t291 _ ?side1 ?side2 ?side3 ?side4 A12.out).mono ?_); (case side1 => repeat (first | exact (Kd.R_reads' HO290.out).2.2 | (with_reducible first | apply cA | apply cN | apply cD))); (case side2 => exact (Kd.R_reads' HO290.out).2.1); (case side3 => repeat (first | exact (Kd.C_below HR1.out HB.out) | (with_reducible first | apply cA | apply cN | apply cD))); (case side4 => exact HC1.out); rintro e w' ⟨rfl, ⟨nd, rfl⟩⟩; refine ⟨_, rfl, ?_⟩))
          go_roundg k1
          case measure => have := HK1.out; omega
          case rel => exact ⟨(x6_1), (t288), (wrap64 (x8_1 - 1)), (by first | rfl | (simp; done) | (simp [*]; done)), H', ⟨by have := HK1.out; omega⟩, ⟨by (with_reducible repeat (first | apply rA | apply rN | apply rD)); exact Kd.R_mono HO_6.out (fun _ hk => hk.2)⟩, ⟨by (with_reducible repeat (first | apply rA | apply rN | apply rD)); exact Kd.R_mono HO290.out (fun _ hk => hk.1.1.2)⟩, ⟨bl_ HB⟩⟩
        ·rw [if_neg c10] at H
         exact absurd H (by simp)
       ·rw [if_neg c9] at H
        exact absurd H (by simp)
      ·rw [if_neg c8] at H
       exact absurd H (by simp)
     ·rw [if_neg c7] at H
      have c7b0 : decide (0 ≤ x8_1) = false := decide_eq_false c7
      clear c7
      obtain ⟨t278, A37, H⟩ := ob_ H
      try dsimp only at H
      simp only [Option.some.injEq, Prod.mk.injEq] at H
      obtain ⟨rfl, rfl⟩ := H
      obtain ⟨Ao38, co38, eo38⟩ := Kd.R_slice HO_6.out
      subst eo38
      go_wp2_with (first | ((with_reducible refine gate_callee (f := 78) rfl ?_); refine goesM (some 50) Try.func78 #[.slice Ao38 x6_1.length co38] ?_; (with_reducible refine (steelyardref02_Norm.calls k1 _ _ x6_1 t278 _ ?side1 ?side2 A37.out).mono ?_); (case side1 => repeat (first | exact (Kd.R_reads' HO_6.out).2.2 | (with_reducible first | apply cA | apply cN | apply cD))); (case side2 => exact (Kd.R_reads' HO_6.out).2.1); rintro e w39 ⟨v279, rfl, ho0, hb⟩; refine ⟨_, rfl, ?_⟩; have n0_ := Aside0.mk (Kd.R_elder' (by (with_reducible repeat (first | apply rA | apply rN | apply rD)); exact HO_6.out) (Kd.R_base ho0) hb); have n1_ := Aside0.mk (Kd.R_elder' (by (with_reducible repeat (first | apply rA | apply rN | apply rD)); exact HO_7.out) (Kd.R_base ho0) hb); have n2_ := Aside0.mk (Kd.R_lower (Kd.R_new' (Kd.R_new' ho0 (Kd.R_lt (by (with_reducible repeat (first | apply rA | apply rN | apply rD)); exact HO_6.out))) (Kd.R_lt (by (with_reducible repeat (first | apply rA | apply rN | apply rD)); exact HO_7.out))) (below_size (bl_ HB))); have n3_ := bs_ HB hb; clear HO_6; clear HO_7; clear HB; have HO_6 := n0_; have HO_7 := n1_; have HO280 := n2_; have HB := n3_; clear n0_ n1_ n2_ n3_; (try clear hb); (try clear hb2); (try clear hk); (try clear hi); (try clear ho0)))
      go_ret2
      exact ⟨_, _, by first | rfl | (simp [errW_none, errW_some] <;> rfl) | (simp [*, errW_none, errW_some] <;> rfl), by (with_reducible repeat (first | apply rA | apply rN | apply rD)); exact Kd.R_mono HO280.out (fun _ hk => hk.2), by (with_reducible repeat (first | apply rA | apply rN | apply rD)); exact Kd.R_mono HO_7.out (fun _ hk => hk.2), bl_ HB⟩
  ·rw [if_neg c4] at H
   exact absurd H (by simp)
 ·rw [if_neg c3] at H
  exact absurd H (by simp)

end Go.Proofs.Ytdemanikmaafeaa.Pr
