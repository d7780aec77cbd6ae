import Derived.Test.YtdemanikmaafeaaPairStepsM0
-- written by this session's own program (wip/fprint.py), which widens the kit's print by floats
namespace Go.Proofs.Ytdemanikmaafeaa.Pr
open Go.RowKit Go.Proofs.YtdemanikmaafeaaW.PrintWords Go.Proofs.YtdemanikmaafeaaW.PrintLast Go.Proofs.YtdemanikmaafeaaW.PrintMore
attribute [local go_sem] max2_int min2_int max_two min_two max_three min_three max_four min_four   -- for this text's walks alone
set_option linter.unusedVariables false
set_option linter.unusedSimpArgs false

/-! ### r02_Parts: function 77 -/
def r02_Parts.l0 : Nat → List Int → List Int → List Int → List Int → Int → Option (List Int × List Int)
 | 0, _, _, _, _, _ => none
 | k + 1, x0, x1, x6, x7, x8 => if x8 ≥ 0 then (if 0 ≤ x8 then (if x8 < (x0.length : Int) then ((some (([rd x0 x8] : List Int) : List Int)).bind fun y282 => (if y282.length + x7.length < 35184372088832 then ((r02_Norm.f k (y282 ++ x7)).bind fun t288 => ((r02_Cmp.f k t288 x1).bind fun t291 => (if t291 ≥ 0 then ((r02_digit.f k t288 x1).bind fun bt292 => (if x8 < (x6.length : Int) then ((r02_Minus.f k t288 bt292.2).bind fun t297 => (r02_Parts.l0 k x0 x1 (x6.set (x8 : Int).toNat bt292.1) t297 (wrap64 (x8 - 1)))) else (none))) else (r02_Parts.l0 k x0 x1 x6 t288 (wrap64 (x8 - 1)))))) else (none))) else (none)) else (none)) else ((r02_Norm.f k x6).bind fun t278 => (some (t278, x7)))
def r02_Parts.f (k : Nat) (l0 : List Int) (l1 : List Int) : Option (List Int × List Int) := if 0 ≤ (l0.length : Int) then (if ((l0.length : Int) : Int).toNat ≤ 70368744177664 then (r02_Parts.l0 k l0 l1 (List.replicate ((l0.length : Int) : Int).toNat 0) ([] : List Int) (wrap64 ((l0.length : Int) - 1))) else (none)) else (none)
theorem r02_Parts.mono_l : ∀ k, (∀ y0 y1 y2 y3 y4, LeO (r02_Parts.l0 k y0 y1 y2 y3 y4) (r02_Parts.l0 (k + 1) y0 y1 y2 y3 y4))
 | 0 => fun _ _ _ _ _ r h => by simp [r02_Parts.l0] at h
 | k + 1 => by
  have ih0 := r02_Parts.mono_l k
  ·intro y0 y1 y2 y3 y4
   unfold r02_Parts.l0
   repeat' first
   | (with_reducible exact ih0 _ _ _ _ _)
   | (with_reducible exact r02_Cmp.mono _ _ _)
   | (with_reducible exact r02_Minus.mono _ _ _)
   | (with_reducible exact r02_Norm.mono _ _)
   | (with_reducible exact r02_digit.mono _ _ _)
   | (with_reducible exact LeO.refl _)
   | (with_reducible exact LeO.none _)
   | (with_reducible refine LeO.ite ?_ ?_)
   | (with_reducible refine LeO.bind ?_ (fun _ => ?_))
   | exact ih0 _ _ _ _ _
   | exact r02_Cmp.mono _ _ _
   | exact r02_Minus.mono _ _ _
   | exact r02_Norm.mono _ _
   | exact r02_digit.mono _ _ _
   | exact LeO.none _
   | refine LeO.ite ?_ ?_
   | refine LeO.bind ?_ (fun _ => ?_)
theorem r02_Parts.mono : ∀ a0 a1 k, LeO (r02_Parts.f k a0 a1) (r02_Parts.f (k + 1) a0 a1) := by
 intro a0 a1 k
 have ih0 := r02_Parts.mono_l k
 unfold r02_Parts.f
 repeat' first
   | (with_reducible exact ih0 _ _ _ _ _)
   | (with_reducible exact r02_Cmp.mono _ _ _)
   | (with_reducible exact r02_Minus.mono _ _ _)
   | (with_reducible exact r02_Norm.mono _ _)
   | (with_reducible exact r02_digit.mono _ _ _)
   | (with_reducible exact LeO.refl _)
   | (with_reducible exact LeO.none _)
   | (with_reducible refine LeO.ite ?_ ?_)
   | (with_reducible refine LeO.bind ?_ (fun _ => ?_))
   | exact ih0 _ _ _ _ _
   | exact r02_Cmp.mono _ _ _
   | exact r02_Minus.mono _ _ _
   | exact r02_Norm.mono _ _
   | exact r02_digit.mono _ _ _
   | exact LeO.none _
   | refine LeO.ite ?_ ?_
   | refine LeO.bind ?_ (fun _ => ?_)
set_option maxHeartbeats 3000000 in
set_option maxRecDepth 100000 in
theorem r02_Parts.calls (k : Nat) (A0 : Option Addr) (c0 : Nat) (l0 : List Int) (A1 : Option Addr) (c1 : Nat) (l1 : List Int) (r1 : List Int) (r2 : List Int) (w : World) (hr0 : Kd.C (Kd.int .u32) w A0 l0.length l0) (hc0 : l0.length ≤ c0) (hr1 : Kd.C (Kd.int .u32) w A1 l1.length l1) (hc1 : l1.length ≤ c1) (h : r02_Parts.f k l0 l1 = some (r1, r2)) :
  Calls Try.prog 77 #[.slice A0 l0.length c0, .slice A1 l1.length c1] w fun e w' => ∃ v0_ v1_ : Value, e = .returned (.tuple #[v0_, v1_]) ∧ Kd.R (Kd.int .u32) 72 w' w.heap.size (fun k_ => some k_ ≠ (v1_ : Value).ownBlock) v0_ r1 ∧ Kd.R (Kd.int .u32) 72 w' w.heap.size (fun k_ => some k_ ≠ (v0_ : Value).ownBlock) v1_ r2 ∧ Below w.heap.size w w' := by
 have HR0 := Aside0.mk hr0
 have HC0 := Aside0.mk hc0
 clear hr0 hc0
 have HR1 := Aside0.mk hr1
 have HC1 := Aside0.mk hc1
 clear hr1 hc1
 have HB := Aside0.mk (Below.refl w.heap.size w)
 have H : (if 0 ≤ (l0.length : Int) then (if ((l0.length : Int) : Int).toNat ≤ 70368744177664 then (r02_Parts.l0 k l0 l1 (List.replicate ((l0.length : Int) : Int).toNat 0) ([] : List Int) (wrap64 ((l0.length : Int) - 1))) else (none)) else (none)) = some (r1, r2) := h
 clear h
 by_cases c3 : 0 ≤ (l0.length : Int)
 ·rw [if_pos c3] at H
  have c3b0 := eq_true c3
  have c3b1 : decide (0 ≤ (l0.length : Int)) = true := decide_eq_true c3
  clear c3
  by_cases c4 : ((l0.length : Int) : Int).toNat ≤ 70368744177664
  ·rw [if_pos c4] at H
   have c4b0 := eq_true c4
   have c4b1 : decide (((l0.length : Int) : Int).toNat ≤ 70368744177664) = true := decide_eq_true c4
   clear c4
   obtain ⟨y275, hy275⟩ : ∃ y_ : List Int, y_ = (List.replicate ((l0.length : Int) : Int).toNat 0) := ⟨_, rfl⟩
   replace H : (r02_Parts.l0 k l0 l1 y275 ([] : List Int) (wrap64 ((l0.length : Int) - 1))) = some (r1, r2) := by first | (rw [hy275]; with_reducible exact H) | (have H2_ := (Option.bind_some _ _).symm.trans H; rw [hy275]; with_reducible exact H2_) | (have H2_ := (Option.bind_some _ _).symm.trans H; with_reducible exact H2_) | with_reducible exact H | (rw [hy275]; exact H) | exact H
   have Ny275 := Aside0.mk hy275
   clear hy275
   have H' := Aside0.mk H
   clear H
   go_enter Try.func77, Try.ntmps77
   go_wp2_with (first | ((with_reducible refine gate_dst (N := 14) rfl ?_); refine Kd.R_make (Kd.int .u32) _ 72 rfl (N := 14) rfl 41 _ _ rfl (l0.length : Int) rfl rfl Try.underlying41 (.int .u32 0) 4 info72 rfl (by decide) (by omega) 0 (ok := fun _ => True) (okp := fun _ => True) rfl (fun _ hk => hk) trivial (of_decide_eq_true (by first | (with_reducible assumption) | assumption)) (Nat.le_trans (Nat.mul_le_mul_right _ (of_decide_eq_true (by first | (with_reducible assumption) | assumption) : (l0.length : Int).toNat ≤ 70368744177664)) (by omega)) (Below.refl _ _) (Nat.le_refl _) ?_; intro v276 w5 ho6 hb hg_ hnew_; clear hg_ hnew_; (first | rw [← Ny275.out] at ho6 | (simp only [Int.reduceToNat] at ho6; rw [← Ny275.out] at ho6)); have n0_ := Aside0.mk (Kd.R_lower ho6 (below_size (bl_ HB))); have n1_ := bs_ HB hb; clear HB; have HO277 := n0_; have HB := n1_; clear n0_ n1_; clear hb ho6))
   go_loopg [7, 8] k (fun kq v7 v8 w' => ∃ (x6_1 : List Int) (x7_1 : List Int) (x8_1 : Int), v8 = .int .i64 x8_1 ∧ Aside0 (r02_Parts.l0 kq l0 l1 x6_1 x7_1 x8_1 = some (r1, r2)) ∧ Aside0 (kq ≤ k) ∧ Aside0 (Kd.R (Kd.int .u32) 72 w' w.heap.size (fun k_ => some k_ ≠ (v7 : Value).ownBlock) v276 x6_1) ∧ Aside0 (Kd.R (Kd.int .u32) 72 w' w.heap.size (fun k_ => some k_ ≠ (v276 : Value).ownBlock) v7 x7_1) ∧ Aside0 (Below w.heap.size w w'))
   case atStart => exact ⟨(y275), (([] : List Int)), (wrap64 ((l0.length : Int) - 1)), (by first | rfl | (simp; done) | (simp [*]; done)), H', ⟨Nat.le_refl _⟩, ⟨by (with_reducible repeat (first | apply rA | apply rN | apply rD)); exact Kd.R_mono HO277.out (fun _ hk => (by simp [Value.ownBlock]))⟩, ⟨by first | exact Kd.R_nil _ _ _ _ _ | exact Kd.N_nil _ _ _ _ _ | exact Kd.V_nil _ _ _ _ _ | exact Kd.Q_nil _ _ _ _ _ | exact Kd.S_nil _ _ _ _ _⟩, ⟨bl_ HB⟩⟩
   case round =>
    clear H'
    try clear c1
    try clear p2
    try clear c3
    try clear c3b0
    try clear c3b1
    try clear c4
    try clear c4b0
    try clear c4b1
    try clear p6
    obtain ⟨x6_1, x7_1, x8_1, rfl, HA, HK1, HO_6, HO_7, HB⟩ := hrel
    cases gk with
    | zero => exact absurd HA.out (by simp [r02_Parts.l0])
    | succ k1 =>
     have H := HA.out
     clear HA
     simp only [r02_Parts.l0] at H
     by_cases c7 : x8_1 ≥ 0
     ·rw [if_pos c7] at H
      have c7b0 : decide (0 ≤ x8_1) = true := decide_eq_true c7
      clear c7
      by_cases c8 : 0 ≤ x8_1
      ·rw [if_pos c8] at H
       have c8b0 : decide (0 ≤ x8_1) = true := decide_eq_true c8
       clear c8
       by_cases c9 : x8_1 < (l0.length : Int)
       ·rw [if_pos c9] at H
        have c9b0 : decide (x8_1 < (l0.length : Int)) = true := decide_eq_true c9
        clear c9
        obtain ⟨y282, hy282⟩ : ∃ y_ : List Int, y_ = (([rd l0 x8_1] : List Int)) := ⟨_, rfl⟩
        replace H : (if y282.length + x7_1.length < 35184372088832 then ((r02_Norm.f k1 (y282 ++ x7_1)).bind fun t288 => ((r02_Cmp.f k1 t288 l1).bind fun t291 => (if t291 ≥ 0 then ((r02_digit.f k1 t288 l1).bind fun bt292 => (if x8_1 < (x6_1.length : Int) then ((r02_Minus.f k1 t288 bt292.2).bind fun t297 => (r02_Parts.l0 k1 l0 l1 (x6_1.set (x8_1 : Int).toNat bt292.1) t297 (wrap64 (x8_1 - 1)))) else (none))) else (r02_Parts.l0 k1 l0 l1 x6_1 t288 (wrap64 (x8_1 - 1)))))) else (none)) = some (r1, r2) := by first | (rw [hy282]; with_reducible exact H) | (have H2_ := (Option.bind_some _ _).symm.trans H; rw [hy282]; with_reducible exact H2_) | (have H2_ := (Option.bind_some _ _).symm.trans H; with_reducible exact H2_) | with_reducible exact H | (rw [hy282]; exact H) | exact H
        have Ny282 := Aside0.mk hy282
        clear hy282
        by_cases c10 : y282.length + x7_1.length < 35184372088832
        ·rw [if_pos c10] at H
         have LMc10 := Aside0.mk c10
         clear c10
         obtain ⟨y285, hy285⟩ : ∃ y_ : List Int, y_ = (y282 ++ x7_1) := ⟨_, rfl⟩
         replace H : ((r02_Norm.f k1 y285).bind fun t288 => ((r02_Cmp.f k1 t288 l1).bind fun t291 => (if t291 ≥ 0 then ((r02_digit.f k1 t288 l1).bind fun bt292 => (if x8_1 < (x6_1.length : Int) then ((r02_Minus.f k1 t288 bt292.2).bind fun t297 => (r02_Parts.l0 k1 l0 l1 (x6_1.set (x8_1 : Int).toNat bt292.1) t297 (wrap64 (x8_1 - 1)))) else (none))) else (r02_Parts.l0 k1 l0 l1 x6_1 t288 (wrap64 (x8_1 - 1)))))) = some (r1, r2) := by first | (rw [hy285]; with_reducible exact H) | (have H2_ := (Option.bind_some _ _).symm.trans H; rw [hy285]; with_reducible exact H2_) | (have H2_ := (Option.bind_some _ _).symm.trans H; with_reducible exact H2_) | with_reducible exact H | (rw [hy285]; exact H) | exact H
         have Ny285 := Aside0.mk hy285
         clear hy285
         obtain ⟨t288, A11, H⟩ := ob_ H
         try dsimp only at H
         obtain ⟨t291, A12, H⟩ := ob_ H
         try dsimp only at H
         by_cases c13 : t291 ≥ 0
         ·rw [if_pos c13] at H
          have c13b0 : decide (0 ≤ t291) = true := decide_eq_true c13
          clear c13
          obtain ⟨⟨t292, t293⟩, A14, H⟩ := ob_ H
          try dsimp only at H
          by_cases c15 : x8_1 < (x6_1.length : Int)
          ·rw [if_pos c15] at H
           have c15b0 : decide (x8_1 < (x6_1.length : Int)) = true := decide_eq_true c15
           clear c15
           obtain ⟨y296, hy296⟩ : ∃ y_ : List Int, y_ = (x6_1.set (x8_1 : Int).toNat t292) := ⟨_, rfl⟩
           replace H : ((r02_Minus.f k1 t288 t293).bind fun t297 => (r02_Parts.l0 k1 l0 l1 y296 t297 (wrap64 (x8_1 - 1)))) = some (r1, r2) := by first | (rw [hy296]; with_reducible exact H) | (have H2_ := (Option.bind_some _ _).symm.trans H; rw [hy296]; with_reducible exact H2_) | (have H2_ := (Option.bind_some _ _).symm.trans H; with_reducible exact H2_) | with_reducible exact H | (rw [hy296]; exact H) | exact H
           have Ny296 := Aside0.mk hy296
           clear hy296
           obtain ⟨t297, A17, H⟩ := ob_ H
           try dsimp only at H
           have H' := Aside0.mk H
           clear H
           have p281 : 0 ≤ (x8_1 : Int) := of_decide_eq_true (by first | (with_reducible assumption) | assumption)
           have q281 : x8_1 < (l0.length : Int) := of_decide_eq_true (by first | (with_reducible assumption) | assumption)
           obtain ⟨ad281, e281, hx281_0⟩ := Kd.at_int HR0.out x8_1 p281 q281
           cases e281
           replace hx281_0 := (HB.out.cell (World.block_lt_of_cell? w _ hx281_0)).trans hx281_0
           replace p281 := eq_true p281
           replace q281 := eq_true q281
           go_wp2_with (first | ((with_reducible refine gate_dst (N := 26) rfl ?_); refine Kd.R_lit (Kd.int .u32) _ 72 ?hg (N := 26) ?hd (xs := ([rd l0 x8_1] : List Int)) (inner := [.int .u32 (rd l0 x8_1)]) (ok := fun _ => True) (okp := fun _ => True) ?hr ?hp (fun _ hk => hk) trivial (Below.refl _ _) (Nat.le_refl _) (by simp) ?_; (case hd => rfl); (case hg => rfl); (case hr => first | (go_simp; done) | (go_simp; rfl)); (case hp => exact (Reps.one (show Kd.M (Kd.int .u32) _ _ _ (rd l0 x8_1) [.int .u32 (rd l0 x8_1)] from rfl) (Reps.none _ _))); intro v283 w18 ho19 hb hg_ hnew_; clear hg_ hnew_; (first | rw [← Ny282.out] at ho19 | (simp only [Int.reduceToNat] at ho19; rw [← Ny282.out] at ho19)); have n0_ := Aside0.mk (Kd.R_elder' (rr_ HO_6) (Kd.R_base ho19) hb); have n1_ := Aside0.mk (Kd.R_elder' (rr_ HO_7) (Kd.R_base ho19) hb); have n2_ := Aside0.mk (Kd.R_lower (Kd.R_new' (Kd.R_new' ho19 (Kd.R_lt (rr_ HO_6))) (Kd.R_lt (rr_ HO_7))) (below_size (bl_ HB))); have n3_ := bs_ HB hb; clear HO_6; clear HO_7; clear HB; have HO_6 := n0_; have HO_7 := n1_; have HO284 := n2_; have HB := n3_; clear n0_ n1_ n2_ n3_; clear hb ho19; obtain ⟨Ao21, co21, eo21⟩ := Kd.R_slice HO_7.out; subst eo21) | ((with_reducible refine gate_builtin (b := .append) (xs := #[.tmp 27, .tmp 28]) rfl ?_); at_builtin; refine Kd.R_append_rows (Kd.int .u32) (w0 := w) w.heap.size rfl (.tmp 27) (.tmp 28) 41 72 (.int .u32 0) 4 rfl Try.underlying41 info72 rfl (by decide) (by omega) v283 y282 x7_1 _ _ _ (fun k_ => some k_ ≠ (v276 : Value).ownBlock ∧ some k_ ≠ (.slice Ao21 x7_1.length co21 : Value).ownBlock) (fun _ => False) rfl rfl ?aO ?aR (fun _ _ h => h) (fun _ h => h.elim) ?aF ?aB ?aS ?aL ?_; (case aR => repeat (first | exact (Kd.R_reads' HO_7.out).2.2 | (with_reducible first | apply cA | apply cN | apply cD))); (case aB => exact (bl_ HB)); (case aF => exact (fun k_ hk => ⟨Kd.fresh' (Kd.R_lt (rr_ HO_6)) k_ hk, Kd.fresh' (Kd.R_lt (rr_ HO_7)) k_ hk⟩)); (case aO => exact (by (with_reducible repeat (first | apply rA | apply rN | apply rD)); exact Kd.R_mono HO284.out (fun _ hk => by first | exact ⟨hk.1.2, hk.2⟩ | (revert hk; simp only [and_imp]; intros; (repeat' apply And.intro) <;> assumption)))); (case aS => exact (below_size (bl_ HB))); (case aL => have := LMc10.out; omega); intro v286 w20 ho hb hg hat; rw [← Ny285.out] at ho; have n0_ := Aside0.mk (Kd.R_after (ok := (fun k_ => some k_ ≠ (.slice Ao21 x7_1.length co21 : Value).ownBlock)) (rr_ HO_6) hg hat); have n1_ := Aside0.mk (Kd.R_after (ok := (fun k_ => some k_ ≠ (v276 : Value).ownBlock)) (rr_ HO_7) hg hat); have n2_ := Aside0.mk (hb); have n3_ := Aside0.mk (ho); clear HO_6; clear HO_7; clear HB; clear HO284; have HO_6 := n0_; have HO_7 := n1_; have HB := n2_; have HO287 := n3_; clear n0_ n1_ n2_ n3_; clear ho hb hg hat; obtain ⟨Ao22, co22, eo22⟩ := Kd.R_slice HO287.out; subst eo22) | ((with_reducible refine gate_callee (f := 78) rfl ?_); refine goesM (some 31) Try.func78 #[.slice Ao22 y285.length co22] ?_; (with_reducible refine (r02_Norm.calls k1 _ _ y285 t288 _ ?side1 ?side2 A11.out).mono ?_); (case side1 => repeat (first | exact (Kd.R_reads' HO287.out).2.2 | (with_reducible first | apply cA | apply cN | apply cD))); (case side2 => exact (Kd.R_reads' HO287.out).2.1); rintro e w23 ⟨v289, rfl, ho0, hb⟩; refine ⟨_, rfl, ?_⟩; have n0_ := Aside0.mk (Kd.R_elder' (rr_ HO_6) (Kd.R_base ho0) hb); have n1_ := Aside0.mk (Kd.R_elder' (rr_ HO_7) (Kd.R_base ho0) hb); have n2_ := Aside0.mk (Kd.R_elder' (rr_ HO287) (Kd.R_base ho0) hb); have n3_ := Aside0.mk (Kd.R_lower (Kd.R_new' (Kd.R_new' (Kd.R_new' ho0 (Kd.R_lt (rr_ HO_6))) (Kd.R_lt (rr_ HO_7))) (Kd.R_lt (rr_ HO287))) (below_size (bl_ HB))); have n4_ := bs_ HB hb; clear HO_6; clear HO_7; clear HO287; clear HB; have HO_6 := n0_; have HO_7 := n1_; have HO287 := n2_; have HO290 := n3_; have HB := n4_; clear n0_ n1_ n2_ n3_ n4_; (try clear hb); (try clear hb2); (try clear hk); (try clear hi); (try clear ho0); obtain ⟨Ao24, co24, eo24⟩ := Kd.R_slice HO290.out; subst eo24) | ((with_reducible refine gate_callee (f := 61) rfl ?_); refine goesM (some 34) Try.func61 #[.slice Ao24 t288.length co24, .slice A1 l1.length c1] ?_; (with_reducible refine (r02_Cmp.calls k1 _ _ t288 _ _ l1 t291 _ ?side1 ?side2 ?side3 ?side4 A12.out).mono ?_); (case side1 => repeat (first | exact (Kd.R_reads' HO290.out).2.2 | (with_reducible first | apply cA | apply cN | apply cD))); (case side2 => exact (Kd.R_reads' HO290.out).2.1); (case side3 => repeat (first | exact (Kd.C_below HR1.out HB.out) | (with_reducible first | apply cA | apply cN | apply cD))); (case side4 => exact HC1.out); rintro e w' ⟨rfl, ⟨nd, rfl⟩⟩; refine ⟨_, rfl, ?_⟩; (try (rw [drewN_self w23]; generalize hq_ : World.drewN w23 _ = w23; have n0_ : Aside0 (Kd.R (Kd.int .u32) 72 w23 w.heap.size (fun k_ => some k_ ≠ (.slice Ao24 t288.length co24 : Value).ownBlock ∧ some k_ ≠ (v276 : Value).ownBlock ∧ some k_ ≠ (.slice Ao21 x7_1.length co21 : Value).ownBlock) (.slice Ao22 y285.length co22) y285) := ⟨by rw [← hq_]; exact (by (with_reducible repeat (first | apply rA | apply rN | apply rD)); exact Kd.R_mono HO287.out (fun _ hk => by first | exact ⟨hk.2, ⟨hk.1.1, hk.1.2⟩⟩ | (revert hk; simp only [and_imp]; intros; (repeat' apply And.intro) <;> assumption)))⟩; have n1_ : Aside0 (Kd.R (Kd.int .u32) 72 w23 w.heap.size (fun k_ => some k_ ≠ (.slice Ao22 y285.length co22 : Value).ownBlock ∧ some k_ ≠ (v276 : Value).ownBlock ∧ some k_ ≠ (.slice Ao21 x7_1.length co21 : Value).ownBlock) (.slice Ao24 t288.length co24) t288) := ⟨by rw [← hq_]; exact (by (with_reducible repeat (first | apply rA | apply rN | apply rD)); exact Kd.R_mono HO290.out (fun _ hk => by first | exact ⟨hk.2, ⟨hk.1.1.2, hk.1.2⟩⟩ | (revert hk; simp only [and_imp]; intros; (repeat' apply And.intro) <;> assumption)))⟩; have n2_ : Aside0 (Kd.R (Kd.int .u32) 72 w23 w.heap.size (fun k_ => some k_ ≠ (.slice Ao22 y285.length co22 : Value).ownBlock ∧ some k_ ≠ (.slice Ao24 t288.length co24 : Value).ownBlock ∧ some k_ ≠ (.slice Ao21 x7_1.length co21 : Value).ownBlock) v276 x6_1) := ⟨by rw [← hq_]; exact (by (with_reducible repeat (first | apply rA | apply rN | apply rD)); exact Kd.R_mono HO_6.out (fun _ hk => by first | exact ⟨hk.1.2, ⟨hk.2, hk.1.1⟩⟩ | (revert hk; simp only [and_imp]; intros; (repeat' apply And.intro) <;> assumption)))⟩; have n3_ : Aside0 (Kd.R (Kd.int .u32) 72 w23 w.heap.size (fun k_ => some k_ ≠ (.slice Ao22 y285.length co22 : Value).ownBlock ∧ some k_ ≠ (.slice Ao24 t288.length co24 : Value).ownBlock ∧ some k_ ≠ (v276 : Value).ownBlock) (.slice Ao21 x7_1.length co21) x7_1) := ⟨by rw [← hq_]; exact (by (with_reducible repeat (first | apply rA | apply rN | apply rD)); exact Kd.R_mono HO_7.out (fun _ hk => by first | exact ⟨hk.1.2, ⟨hk.2, hk.1.1⟩⟩ | (revert hk; simp only [and_imp]; intros; (repeat' apply And.intro) <;> assumption)))⟩; have n4_ : Aside0 (Below w.heap.size w w23) := ⟨by rw [← hq_]; exact (bl_ HB)⟩; clear HO287 HO290 HO_6 HO_7 HB hq_; have HO287 := n0_; have HO290 := n1_; have HO_6 := n2_; have HO_7 := n3_; have HB := n4_; clear n0_ n1_ n2_ n3_ n4_))) | ((with_reducible refine gate_callee (f := 84) rfl ?_); refine goesM (some 39) Try.func84 #[.slice Ao24 t288.length co24, .slice A1 l1.length c1] ?_; (with_reducible refine (r02_digit.calls k1 _ _ t288 _ _ l1 t292 t293 _ ?side1 ?side2 ?side3 ?side4 A14.out).mono ?_); (case side1 => repeat (first | exact (Kd.R_reads' HO290.out).2.2 | (with_reducible first | apply cA | apply cN | apply cD))); (case side2 => exact (Kd.R_reads' HO290.out).2.1); (case side3 => repeat (first | exact (Kd.C_below HR1.out HB.out) | (with_reducible first | apply cA | apply cN | apply cD))); (case side4 => exact HC1.out); rintro e w25 ⟨v294, rfl, ho0, hb⟩; refine ⟨_, rfl, ?_⟩; have n0_ := Aside0.mk (Kd.R_elder' (rr_ HO_6) (Kd.R_base ho0) hb); have n1_ := Aside0.mk (Kd.R_elder' (rr_ HO_7) (Kd.R_base ho0) hb); have n2_ := Aside0.mk (Kd.R_elder' (rr_ HO287) (Kd.R_base ho0) hb); have n3_ := Aside0.mk (Kd.R_elder' (rr_ HO290) (Kd.R_base ho0) hb); have n4_ := Aside0.mk (Kd.R_lower (Kd.R_new' (Kd.R_new' (Kd.R_new' (Kd.R_new' ho0 (Kd.R_lt (rr_ HO_6))) (Kd.R_lt (rr_ HO_7))) (Kd.R_lt (rr_ HO287))) (Kd.R_lt (rr_ HO290))) (below_size (bl_ HB))); have n5_ := bs_ HB hb; clear HO_6; clear HO_7; clear HO287; clear HO290; clear HB; have HO_6 := n0_; have HO_7 := n1_; have HO287 := n2_; have HO290 := n3_; have HO295 := n4_; have HB := n5_; clear n0_ n1_ n2_ n3_ n4_ n5_; (try clear hb); (try clear hb2); (try clear hk); (try clear hi); (try clear ho0); have p16 : 0 ≤ (x8_1 : Int) := of_decide_eq_true (by first | (with_reducible assumption) | assumption); have q16 : (x8_1 : Int) < ((x6_1.length : Int) : Int) := of_decide_eq_true (by first | (with_reducible assumption) | assumption); obtain ⟨go16, co16, eo16, gb16, gl16, cl16, HG16⟩ := Kd.R_form HO_6.out (by omega); (first | cases eo16 | (injection eo16 with ea_ en_ ec_; (first | subst ea_ | (injection ea_ with ea_; subst ea_)); subst ec_; clear en_)); have GB16 := Aside0.mk gb16; have GG16 := Aside0.mk HG16; clear gb16 gl16 HG16; obtain ⟨hx16_0, hf16_0⟩ := Kd.R_celln 0 HO_6.out (x8_1 : Int) p16 q16; replace p16 := eq_true p16; replace q16 := eq_true q16; have n_ := Aside0.mk (Kd.R_mono (ok' := (fun k_ => some k_ ≠ (.slice Ao21 x7_1.length co21 : Value).ownBlock ∧ some k_ ≠ (.slice Ao22 y285.length co22 : Value).ownBlock ∧ some k_ ≠ (.slice Ao24 t288.length co24 : Value).ownBlock ∧ some k_ ≠ (v294 : Value).ownBlock)) HO_6.out (fun k_ hk => by first | exact ⟨hk.1.1.1, ⟨hk.1.1.2, ⟨hk.1.2, hk.2⟩⟩⟩ | (revert hk; simp only [and_imp]; intros; (repeat' apply And.intro) <;> assumption))); clear HO_6; have HO_6 := n_; clear n_; obtain ⟨hy26_, hz26_⟩ := Kd.R_celln 0 HO_6.out (x8_1 : Int) (of_decide_eq_true (by first | (with_reducible assumption) | assumption)) (of_decide_eq_true (by first | (with_reducible assumption) | assumption)); have HP26 := Kd.R_putg HO_6.out (x8_1 : Int) t292) | ((with_reducible refine gate_store (t := 72) (p := 45) rfl ?_); refine store_event (t := 72) (p := 45) (v := ?vo_w27) (w1 := (w25.setCell ⟨go16, (x8_1 : Int).toNat, none⟩ (.int .u32 t292))) ?hg ?ho ?hn ?hr ?_; (case ho => rfl); (case hg => rfl); (case hn => rfl); (case hr => first | (go_simp; done) | (go_simp; rfl)); intro w27 hw; have hg : w25.grownBy w27 (some go16) := (by rw [hw]; exact HP26.2); have hp_ : Kd.R (Kd.int .u32) 72 w27 w.heap.size (fun k_ => some k_ ≠ (.slice Ao21 x7_1.length co21 : Value).ownBlock ∧ some k_ ≠ (.slice Ao22 y285.length co22 : Value).ownBlock ∧ some k_ ≠ (.slice Ao24 t288.length co24 : Value).ownBlock ∧ some k_ ≠ (v294 : Value).ownBlock) (.slice (some ⟨go16, 0, none⟩) x6_1.length co16) y296 := (by rw [hw, Ny296.out]; exact HP26.1); clear HP26; have n0_ := Aside0.mk (hp_); have n1_ := Aside0.mk (Kd.R_after (v := (.slice (some ⟨go16, 0, none⟩) x6_1.length co16)) (v1 := (.slice (some ⟨go16, 0, none⟩) x6_1.length co16)) (ok := (fun k_ => some k_ ≠ (.slice Ao22 y285.length co22 : Value).ownBlock ∧ some k_ ≠ (.slice Ao24 t288.length co24 : Value).ownBlock ∧ some k_ ≠ (v294 : Value).ownBlock)) (by (with_reducible repeat (first | apply rA | apply rN | apply rD)); exact Kd.R_mono HO_7.out (fun _ hk => by first | exact ⟨⟨hk.1.1.2, ⟨hk.1.2, hk.2⟩⟩, hk.1.1.1⟩ | (revert hk; simp only [and_imp]; intros; (repeat' apply And.intro) <;> assumption))) hg (.inl rfl)); have n2_ := Aside0.mk (Kd.R_after (v := (.slice (some ⟨go16, 0, none⟩) x6_1.length co16)) (v1 := (.slice (some ⟨go16, 0, none⟩) x6_1.length co16)) (ok := (fun k_ => some k_ ≠ (.slice Ao21 x7_1.length co21 : Value).ownBlock ∧ some k_ ≠ (.slice Ao24 t288.length co24 : Value).ownBlock ∧ some k_ ≠ (v294 : Value).ownBlock)) (by (with_reducible repeat (first | apply rA | apply rN | apply rD)); exact Kd.R_mono HO287.out (fun _ hk => by first | exact ⟨⟨hk.1.1.2, ⟨hk.1.2, hk.2⟩⟩, hk.1.1.1⟩ | (revert hk; simp only [and_imp]; intros; (repeat' apply And.intro) <;> assumption))) hg (.inl rfl)); have n3_ := Aside0.mk (Kd.R_after (v := (.slice (some ⟨go16, 0, none⟩) x6_1.length co16)) (v1 := (.slice (some ⟨go16, 0, none⟩) x6_1.length co16)) (ok := (fun k_ => some k_ ≠ (.slice Ao21 x7_1.length co21 : Value).ownBlock ∧ some k_ ≠ (.slice Ao22 y285.length co22 : Value).ownBlock ∧ some k_ ≠ (v294 : Value).ownBlock)) (by (with_reducible repeat (first | apply rA | apply rN | apply rD)); exact Kd.R_mono HO290.out (fun _ hk => by first | exact ⟨⟨hk.1.1.2, ⟨hk.1.2, hk.2⟩⟩, hk.1.1.1.2⟩ | (revert hk; simp only [and_imp]; intros; (repeat' apply And.intro) <;> assumption))) hg (.inl rfl)); have n4_ := Aside0.mk (Kd.R_after (v := (.slice (some ⟨go16, 0, none⟩) x6_1.length co16)) (v1 := (.slice (some ⟨go16, 0, none⟩) x6_1.length co16)) (ok := (fun k_ => some k_ ≠ (.slice Ao21 x7_1.length co21 : Value).ownBlock ∧ some k_ ≠ (.slice Ao22 y285.length co22 : Value).ownBlock ∧ some k_ ≠ (.slice Ao24 t288.length co24 : Value).ownBlock)) (by (with_reducible repeat (first | apply rA | apply rN | apply rD)); exact Kd.R_mono HO295.out (fun _ hk => by first | exact ⟨⟨hk.1.1.2, ⟨hk.1.2, hk.2⟩⟩, hk.1.1.1.2⟩ | (revert hk; simp only [and_imp]; intros; (repeat' apply And.intro) <;> assumption))) hg (.inl rfl)); have n5_ := Aside0.mk ((by rw [hw]; exact below_set (HB.out) GB16.out : Below w.heap.size w w27)); clear HO_6; clear HO_7; clear HO287; clear HO290; clear HO295; clear HB; have HO_6 := n0_; have HO_7 := n1_; have HO287 := n2_; have HO290 := n3_; have HO295 := n4_; have HB := n5_; clear n0_ n1_ n2_ n3_ n4_ n5_; clear hg hw hp_; obtain ⟨Ao28, co28, eo28⟩ := Kd.R_slice HO295.out; subst eo28) | ((with_reducible refine gate_callee (f := 62) rfl ?_); refine goesM (some 48) Try.func62 #[.slice Ao24 t288.length co24, .slice Ao28 t293.length co28] ?_; (with_reducible refine (r02_Minus.calls k1 _ _ t288 _ _ t293 t297 _ ?side1 ?side2 ?side3 ?side4 A17.out).mono ?_); (case side1 => repeat (first | exact (Kd.R_reads' HO290.out).2.2 | (with_reducible first | apply cA | apply cN | apply cD))); (case side2 => exact (Kd.R_reads' HO290.out).2.1); (case side3 => repeat (first | exact (Kd.R_reads' HO295.out).2.2 | (with_reducible first | apply cA | apply cN | apply cD))); (case side4 => exact (Kd.R_reads' HO295.out).2.1); rintro e w29 ⟨v298, rfl, ho0, hb⟩; refine ⟨_, rfl, ?_⟩; have n0_ := Aside0.mk (Kd.R_elder' (rr_ HO_6) (Kd.R_base ho0) hb); have n1_ := Aside0.mk (Kd.R_elder' (rr_ HO_7) (Kd.R_base ho0) hb); have n2_ := Aside0.mk (Kd.R_elder' (rr_ HO287) (Kd.R_base ho0) hb); have n3_ := Aside0.mk (Kd.R_elder' (rr_ HO290) (Kd.R_base ho0) hb); have n4_ := Aside0.mk (Kd.R_elder' (rr_ HO295) (Kd.R_base ho0) hb); have n5_ := Aside0.mk (Kd.R_lower (Kd.R_new' (Kd.R_new' (Kd.R_new' (Kd.R_new' (Kd.R_new' ho0 (Kd.R_lt (rr_ HO_6))) (Kd.R_lt (rr_ HO_7))) (Kd.R_lt (rr_ HO287))) (Kd.R_lt (rr_ HO290))) (Kd.R_lt (rr_ HO295))) (below_size (bl_ HB))); have n6_ := bs_ HB hb; clear HO_6; clear HO_7; clear HO287; clear HO290; clear HO295; clear HB; have HO_6 := n0_; have HO_7 := n1_; have HO287 := n2_; have HO290 := n3_; have HO295 := n4_; have HO299 := n5_; have HB := n6_; clear n0_ n1_ n2_ n3_ n4_ n5_ n6_; (try clear hb); (try clear hb2); (try clear hk); (try clear hi); (try clear ho0)))
           go_roundg k1
           case measure => have := HK1.out; omega
           case rel => exact ⟨(y296), (t297), (wrap64 (x8_1 - 1)), (by first | rfl | (simp; done) | (simp [*]; done)), H', ⟨by have := HK1.out; omega⟩, ⟨by (with_reducible repeat (first | apply rA | apply rN | apply rD)); exact Kd.R_mono HO_6.out (fun _ hk => hk.2)⟩, ⟨by (with_reducible repeat (first | apply rA | apply rN | apply rD)); exact Kd.R_mono HO299.out (fun _ hk => hk.1.1.1.1.2)⟩, ⟨bl_ HB⟩⟩
          ·rw [if_neg c15] at H
           exact absurd H (by simp)
         ·rw [if_neg c13] at H
          have c13b0 : decide (0 ≤ t291) = false := decide_eq_false c13
          clear c13
          have H' := Aside0.mk H
          clear H
          have p281 : 0 ≤ (x8_1 : Int) := of_decide_eq_true (by first | (with_reducible assumption) | assumption)
          have q281 : x8_1 < (l0.length : Int) := of_decide_eq_true (by first | (with_reducible assumption) | assumption)
          obtain ⟨ad281, e281, hx281_0⟩ := Kd.at_int HR0.out x8_1 p281 q281
          cases e281
          replace hx281_0 := (HB.out.cell (World.block_lt_of_cell? w _ hx281_0)).trans hx281_0
          replace p281 := eq_true p281
          replace q281 := eq_true q281
          go_wp2_with (first | ((with_reducible refine gate_dst (N := 26) rfl ?_); refine Kd.R_lit (Kd.int .u32) _ 72 ?hg (N := 26) ?hd (xs := ([rd l0 x8_1] : List Int)) (inner := [.int .u32 (rd l0 x8_1)]) (ok := fun _ => True) (okp := fun _ => True) ?hr ?hp (fun _ hk => hk) trivial (Below.refl _ _) (Nat.le_refl _) (by simp) ?_; (case hd => rfl); (case hg => rfl); (case hr => first | (go_simp; done) | (go_simp; rfl)); (case hp => exact (Reps.one (show Kd.M (Kd.int .u32) _ _ _ (rd l0 x8_1) [.int .u32 (rd l0 x8_1)] from rfl) (Reps.none _ _))); intro v283 w30 ho31 hb hg_ hnew_; clear hg_ hnew_; (first | rw [← Ny282.out] at ho31 | (simp only [Int.reduceToNat] at ho31; rw [← Ny282.out] at ho31)); have n0_ := Aside0.mk (Kd.R_elder' (rr_ HO_6) (Kd.R_base ho31) hb); have n1_ := Aside0.mk (Kd.R_elder' (rr_ HO_7) (Kd.R_base ho31) hb); have n2_ := Aside0.mk (Kd.R_lower (Kd.R_new' (Kd.R_new' ho31 (Kd.R_lt (rr_ HO_6))) (Kd.R_lt (rr_ HO_7))) (below_size (bl_ HB))); have n3_ := bs_ HB hb; clear HO_6; clear HO_7; clear HB; have HO_6 := n0_; have HO_7 := n1_; have HO284 := n2_; have HB := n3_; clear n0_ n1_ n2_ n3_; clear hb ho31; obtain ⟨Ao33, co33, eo33⟩ := Kd.R_slice HO_7.out; subst eo33) | ((with_reducible refine gate_builtin (b := .append) (xs := #[.tmp 27, .tmp 28]) rfl ?_); at_builtin; refine Kd.R_append_rows (Kd.int .u32) (w0 := w) w.heap.size rfl (.tmp 27) (.tmp 28) 41 72 (.int .u32 0) 4 rfl Try.underlying41 info72 rfl (by decide) (by omega) v283 y282 x7_1 _ _ _ (fun k_ => some k_ ≠ (v276 : Value).ownBlock ∧ some k_ ≠ (.slice Ao33 x7_1.length co33 : Value).ownBlock) (fun _ => False) rfl rfl ?aO ?aR (fun _ _ h => h) (fun _ h => h.elim) ?aF ?aB ?aS ?aL ?_; (case aR => repeat (first | exact (Kd.R_reads' HO_7.out).2.2 | (with_reducible first | apply cA | apply cN | apply cD))); (case aB => exact (bl_ HB)); (case aF => exact (fun k_ hk => ⟨Kd.fresh' (Kd.R_lt (rr_ HO_6)) k_ hk, Kd.fresh' (Kd.R_lt (rr_ HO_7)) k_ hk⟩)); (case aO => exact (by (with_reducible repeat (first | apply rA | apply rN | apply rD)); exact Kd.R_mono HO284.out (fun _ hk => by first | exact ⟨hk.1.2, hk.2⟩ | (revert hk; simp only [and_imp]; intros; (repeat' apply And.intro) <;> assumption)))); (case aS => exact (below_size (bl_ HB))); (case aL => have := LMc10.out; omega); intro v286 w32 ho hb hg hat; rw [← Ny285.out] at ho; have n0_ := Aside0.mk (Kd.R_after (ok := (fun k_ => some k_ ≠ (.slice Ao33 x7_1.length co33 : Value).ownBlock)) (rr_ HO_6) hg hat); have n1_ := Aside0.mk (Kd.R_after (ok := (fun k_ => some k_ ≠ (v276 : Value).ownBlock)) (rr_ HO_7) hg hat); have n2_ := Aside0.mk (hb); have n3_ := Aside0.mk (ho); clear HO_6; clear HO_7; clear HB; clear HO284; have HO_6 := n0_; have HO_7 := n1_; have HB := n2_; have HO287 := n3_; clear n0_ n1_ n2_ n3_; clear ho hb hg hat; obtain ⟨Ao34, co34, eo34⟩ := Kd.R_slice HO287.out; subst eo34) | ((with_reducible refine gate_callee (f := 78) rfl ?_); refine goesM (some 31) Try.func78 #[.slice Ao34 y285.length co34] ?_; (with_reducible refine (r02_Norm.calls k1 _ _ y285 t288 _ ?side1 ?side2 A11.out).mono ?_); (case side1 => repeat (first | exact (Kd.R_reads' HO287.out).2.2 | (with_reducible first | apply cA | apply cN | apply cD))); (case side2 => exact (Kd.R_reads' HO287.out).2.1); rintro e w35 ⟨v289, rfl, ho0, hb⟩; refine ⟨_, rfl, ?_⟩; have n0_ := Aside0.mk (Kd.R_elder' (rr_ HO_6) (Kd.R_base ho0) hb); have n1_ := Aside0.mk (Kd.R_elder' (rr_ HO_7) (Kd.R_base ho0) hb); have n2_ := Aside0.mk (Kd.R_elder' (rr_ HO287) (Kd.R_base ho0) hb); have n3_ := Aside0.mk (Kd.R_lower (Kd.R_new' (Kd.R_new' (Kd.R_new' ho0 (Kd.R_lt (rr_ HO_6))) (Kd.R_lt (rr_ HO_7))) (Kd.R_lt (rr_ HO287))) (below_size (bl_ HB))); have n4_ := bs_ HB hb; clear HO_6; clear HO_7; clear HO287; clear HB; have HO_6 := n0_; have HO_7 := n1_; have HO287 := n2_; have HO290 := n3_; have HB := n4_; clear n0_ n1_ n2_ n3_ n4_; (try clear hb); (try clear hb2); (try clear hk); (try clear hi); (try clear ho0); obtain ⟨Ao36, co36, eo36⟩ := Kd.R_slice HO290.out; subst eo36) | ((with_reducible refine gate_callee (f := 61) rfl ?_); refine goesM (some 34) Try.func61 #[.slice Ao36 t288.length co36, .slice A1 l1.length c1] ?_; (with_reducible refine (r02_Cmp.calls k1 _ _ t288 _ _ l1 t291 _ ?side1 ?side2 ?side3 ?side4 A12.out).mono ?_); (case side1 => repeat (first | exact (Kd.R_reads' HO290.out).2.2 | (with_reducible first | apply cA | apply cN | apply cD))); (case side2 => exact (Kd.R_reads' HO290.out).2.1); (case side3 => repeat (first | exact (Kd.C_below HR1.out HB.out) | (with_reducible first | apply cA | apply cN | apply cD))); (case side4 => exact HC1.out); rintro e w' ⟨rfl, ⟨nd, rfl⟩⟩; refine ⟨_, rfl, ?_⟩))
          go_roundg k1
          case measure => have := HK1.out; omega
          case rel => exact ⟨(x6_1), (t288), (wrap64 (x8_1 - 1)), (by first | rfl | (simp; done) | (simp [*]; done)), H', ⟨by have := HK1.out; omega⟩, ⟨by (with_reducible repeat (first | apply rA | apply rN | apply rD)); exact Kd.R_mono HO_6.out (fun _ hk => hk.2)⟩, ⟨by (with_reducible repeat (first | apply rA | apply rN | apply rD)); exact Kd.R_mono HO290.out (fun _ hk => hk.1.1.2)⟩, ⟨bl_ HB⟩⟩
        ·rw [if_neg c10] at H
         exact absurd H (by simp)
       ·rw [if_neg c9] at H
        exact absurd H (by simp)
      ·rw [if_neg c8] at H
       exact absurd H (by simp)
     ·rw [if_neg c7] at H
      have c7b0 : decide (0 ≤ x8_1) = false := decide_eq_false c7
      clear c7
      obtain ⟨t278, A37, H⟩ := ob_ H
      try dsimp only at H
      simp only [Option.some.injEq, Prod.mk.injEq] at H
      obtain ⟨rfl, rfl⟩ := H
      obtain ⟨Ao38, co38, eo38⟩ := Kd.R_slice HO_6.out
      subst eo38
      go_wp2_with (first | ((with_reducible refine gate_callee (f := 78) rfl ?_); refine goesM (some 50) Try.func78 #[.slice Ao38 x6_1.length co38] ?_; (with_reducible refine (r02_Norm.calls k1 _ _ x6_1 t278 _ ?side1 ?side2 A37.out).mono ?_); (case side1 => repeat (first | exact (Kd.R_reads' HO_6.out).2.2 | (with_reducible first | apply cA | apply cN | apply cD))); (case side2 => exact (Kd.R_reads' HO_6.out).2.1); rintro e w39 ⟨v279, rfl, ho0, hb⟩; refine ⟨_, rfl, ?_⟩; have n0_ := Aside0.mk (Kd.R_elder' (rr_ HO_6) (Kd.R_base ho0) hb); have n1_ := Aside0.mk (Kd.R_elder' (rr_ HO_7) (Kd.R_base ho0) hb); have n2_ := Aside0.mk (Kd.R_lower (Kd.R_new' (Kd.R_new' ho0 (Kd.R_lt (rr_ HO_6))) (Kd.R_lt (rr_ HO_7))) (below_size (bl_ HB))); have n3_ := bs_ HB hb; clear HO_6; clear HO_7; clear HB; have HO_6 := n0_; have HO_7 := n1_; have HO280 := n2_; have HB := n3_; clear n0_ n1_ n2_ n3_; (try clear hb); (try clear hb2); (try clear hk); (try clear hi); (try clear ho0)))
      go_ret2
      exact ⟨_, _, by first | rfl | (simp [errW_none, errW_some] <;> rfl) | (simp [*, errW_none, errW_some] <;> rfl), by (with_reducible repeat (first | apply rA | apply rN | apply rD)); exact Kd.R_mono HO280.out (fun _ hk => hk.2), by (with_reducible repeat (first | apply rA | apply rN | apply rD)); exact Kd.R_mono HO_7.out (fun _ hk => hk.2), bl_ HB⟩
  ·rw [if_neg c4] at H
   exact absurd H (by simp)
 ·rw [if_neg c3] at H
  exact absurd H (by simp)

end Go.Proofs.Ytdemanikmaafeaa.Pr
-- written by this session's own program (wip/fprint.py), which widens the kit's print by floats
namespace Go.Proofs.Ytdemanikmaafeaa.Pr
open Go.RowKit Go.Proofs.YtdemanikmaafeaaW.PrintWords Go.Proofs.YtdemanikmaafeaaW.PrintLast Go.Proofs.YtdemanikmaafeaaW.PrintMore
attribute [local go_sem] max2_int min2_int max_two min_two max_three min_three max_four min_four   -- for this text's walks alone
set_option linter.unusedVariables false
set_option linter.unusedSimpArgs false

/-! ### r02_Moved: function 58 -/
def r02_Moved.j0 : Nat → List Int → Int → Int → Bool → Option (List Int)
 | 0, _, _, _, _ => none
 | k + 1, x0, x1, x5, x21 => if x21 = true then (some ([] : List Int)) else (if 0 ≤ x5 then (if x5 ≤ (x0.length : Int) then ((r02_Norm.f k (x0.drop (x5 : Int).toNat)).bind fun t301 => (if 0 ≤ (Int.tmod (wrap64 (-x1)) 32) then ((r02_Parts.f k t301 (([shl .u32 1 (Int.tmod (wrap64 (-x1)) 32)] : List Int))).bind fun bt307 => (some bt307.1)) else (none))) else (none)) else (none))
def r02_Moved.f (k : Nat) (l0 : List Int) (a1 : Int) : Option (List Int) := if a1 < 0 then (if (wrap64 (Int.tdiv (wrap64 (-a1)) 32)) ≥ (l0.length : Int) then (r02_Moved.j0 k l0 a1 (wrap64 (Int.tdiv (wrap64 (-a1)) 32)) true) else (r02_Moved.j0 k l0 a1 (wrap64 (Int.tdiv (wrap64 (-a1)) 32)) (decide (a1 < (-1099511627776))))) else (if 0 ≤ (wrap64 (Int.tdiv a1 32)) then (if (wrap64 (Int.tdiv a1 32) : Int).toNat ≤ 70368744177664 then ((some (List.replicate (wrap64 (Int.tdiv a1 32) : Int).toNat 0 : List Int)).bind fun y313 => (if y313.length + l0.length < 35184372088832 then (if 0 ≤ (Int.tmod a1 32) then ((r02_Times.f k (y313 ++ l0) (([shl .u32 1 (Int.tmod a1 32)] : List Int))).bind fun t322 => (some t322)) else (none)) else (none))) else (none)) else (none))
theorem r02_Moved.mono_l : ∀ k, (∀ y0 y1 y2 y3, LeO (r02_Moved.j0 k y0 y1 y2 y3) (r02_Moved.j0 (k + 1) y0 y1 y2 y3))
 | 0 => fun _ _ _ _ r h => by simp [r02_Moved.j0] at h
 | k + 1 => by
  have ih0 := r02_Moved.mono_l k
  ·intro y0 y1 y2 y3
   unfold r02_Moved.j0
   repeat' first
   | (with_reducible exact ih0 _ _ _ _)
   | (with_reducible exact r02_Norm.mono _ _)
   | (with_reducible exact r02_Parts.mono _ _ _)
   | (with_reducible exact r02_Times.mono _ _ _)
   | (with_reducible exact LeO.refl _)
   | (with_reducible exact LeO.none _)
   | (with_reducible refine LeO.ite ?_ ?_)
   | (with_reducible refine LeO.bind ?_ (fun _ => ?_))
   | exact ih0 _ _ _ _
   | exact r02_Norm.mono _ _
   | exact r02_Parts.mono _ _ _
   | exact r02_Times.mono _ _ _
   | exact LeO.none _
   | refine LeO.ite ?_ ?_
   | refine LeO.bind ?_ (fun _ => ?_)
theorem r02_Moved.mono : ∀ a0 a1 k, LeO (r02_Moved.f k a0 a1) (r02_Moved.f (k + 1) a0 a1) := by
 intro a0 a1 k
 have ih0 := r02_Moved.mono_l k
 unfold r02_Moved.f
 repeat' first
   | (with_reducible exact ih0 _ _ _ _)
   | (with_reducible exact r02_Norm.mono _ _)
   | (with_reducible exact r02_Parts.mono _ _ _)
   | (with_reducible exact r02_Times.mono _ _ _)
   | (with_reducible exact LeO.refl _)
   | (with_reducible exact LeO.none _)
   | (with_reducible refine LeO.ite ?_ ?_)
   | (with_reducible refine LeO.bind ?_ (fun _ => ?_))
   | exact ih0 _ _ _ _
   | exact r02_Norm.mono _ _
   | exact r02_Parts.mono _ _ _
   | exact r02_Times.mono _ _ _
   | exact LeO.none _
   | refine LeO.ite ?_ ?_
   | refine LeO.bind ?_ (fun _ => ?_)
def r02_Moved.T5 : Bool × List (List Nat × List Nat) := (true, [([], []), ([], []), ([0, 1], [0, 1]), ([2], [2]), ([], []), ([4], [4]), ([5], [5]), ([6], [6]), ([7], [7]), ([3, 8, 3], [3, 8]), ([9], [9]), ([10], [10]), ([10], [10]), ([11, 9, 0, 1, 2, 3, 4, 5, 6, 7, 8, 9, 10, 11], [11]), ([12, 13, 0, 1, 2, 3, 4, 5, 6, 7, 8, 9, 10, 11, 12, 13], [12])])
def r02_Moved.B5 : List Nat := [0, 0, 3, 7, 0, 16, 48, 112, 240, 511, 1023, 2047, 2047, 4095, 16383]
theorem r02_Moved.tab5 : rtab .any (opsOf Try.f58 5) = r02_Moved.T5 := by kernel_rfl
theorem r02_Moved.bits5 : waitsOk r02_Moved.T5.2 r02_Moved.B5 = true := by kernel_rfl
set_option maxHeartbeats 3000000 in
set_option maxRecDepth 100000 in
theorem r02_Moved.calls (k : Nat) (A0 : Option Addr) (c0 : Nat) (l0 : List Int) (a1 : Int) (r : List Int) (w : World) (hr0 : Kd.C (Kd.int .u32) w A0 l0.length l0) (hc0 : l0.length ≤ c0) (h : r02_Moved.f k l0 a1 = some r) :
  Calls Try.prog 58 #[.slice A0 l0.length c0, .int .i64 a1] w fun e w' => ∃ v0_ : Value, e = .returned (v0_) ∧ Kd.R (Kd.int .u32) 72 w' w.heap.size (fun _ => True) v0_ r ∧ Below w.heap.size w w' := by
 have HR0 := Aside0.mk hr0
 have HC0 := Aside0.mk hc0
 clear hr0 hc0
 have HB := Aside0.mk (Below.refl w.heap.size w)
 have H : (if a1 < 0 then (if (wrap64 (Int.tdiv (wrap64 (-a1)) 32)) ≥ (l0.length : Int) then (r02_Moved.j0 k l0 a1 (wrap64 (Int.tdiv (wrap64 (-a1)) 32)) true) else (r02_Moved.j0 k l0 a1 (wrap64 (Int.tdiv (wrap64 (-a1)) 32)) (decide (a1 < (-1099511627776))))) else (if 0 ≤ (wrap64 (Int.tdiv a1 32)) then (if (wrap64 (Int.tdiv a1 32) : Int).toNat ≤ 70368744177664 then ((some (List.replicate (wrap64 (Int.tdiv a1 32) : Int).toNat 0 : List Int)).bind fun y313 => (if y313.length + l0.length < 35184372088832 then (if 0 ≤ (Int.tmod a1 32) then ((r02_Times.f k (y313 ++ l0) (([shl .u32 1 (Int.tmod a1 32)] : List Int))).bind fun t322 => (some t322)) else (none)) else (none))) else (none)) else (none))) = some r := h
 clear h
 by_cases c3 : a1 < 0
 ·rw [if_pos c3] at H
  have c3b0 : decide (a1 < 0) = true := decide_eq_true c3
  clear c3
  have HC4 := Aside0.mk H
  clear H
  go_enter Try.func58, Try.ntmps58
  go_upto_region 3 with (fail)
  obtain ⟨bz5, hbz5⟩ : ∃ b_ : Bool, decide (a1 < 0) = b_ := ⟨_, rfl⟩
  (try rw [hbz5])
  go_cut [21] (fun v21 wc => ∃ (kq : Nat) (x21_3 : Bool), v21 = .bool x21_3 ∧ Aside0 (r02_Moved.j0 kq l0 a1 (wrap64 (Int.tdiv (wrap64 (-a1)) 32)) x21_3 = some r) ∧ Aside0 (kq ≤ k) ∧ Aside0 (Below w.heap.size w wc))
  case first =>
   have H := HC4.out
   clear HC4
   by_cases c6 : (wrap64 (Int.tdiv (wrap64 (-a1)) 32)) ≥ (l0.length : Int)
   ·rw [if_pos c6] at H
    have c6b0 : decide ((l0.length : Int) ≤ (wrap64 (Int.tdiv (wrap64 (-a1)) 32))) = true := decide_eq_true c6
    clear c6
    (first | rw [c6b0] | (simp only [i64_w, i32_w]; rw [c6b0]) | skip)
    have H' := Aside0.mk H
    clear H
    go_wp2
    go_meet
    case rel => exact ⟨_, (true), (by first | rfl | (simp; done) | (simp [*]; done)), H', ⟨by first | omega | exact Nat.le_refl _⟩, ⟨bl_ HB⟩⟩
   ·rw [if_neg c6] at H
    have c6b0 : decide ((l0.length : Int) ≤ (wrap64 (Int.tdiv (wrap64 (-a1)) 32))) = false := decide_eq_false c6
    clear c6
    (first | rw [c6b0] | (simp only [i64_w, i32_w]; rw [c6b0]) | skip)
    have H' := Aside0.mk H
    clear H
    go_wp2
    go_meet
    case rel => exact ⟨_, (decide (a1 < (-1099511627776))), (by first | rfl | (simp; done) | (simp [*]; done)), H', ⟨by first | omega | exact Nat.le_refl _⟩, ⟨bl_ HB⟩⟩
  case rest =>
   clear HC4
   try clear p2
   try clear c3
   try clear c3b0
   try clear c5
   try clear c6
   try clear c6b0
   try clear p6
   obtain ⟨kq, x21_3, rfl, HA, HJ3, HB⟩ := hcut
   cases kq with
   | zero => exact absurd HA.out (by simp [r02_Moved.j0])
   | succ kj3 =>
    have H := HA.out
    clear HA
    simp only [r02_Moved.j0] at H
    by_cases c7 : x21_3 = true
    ·subst c7
     have H1 : (some ([] : List Int)) = some r := by rw [if_pos rfl] at H; exact H
     clear H
     have H := H1
     clear H1
     obtain rfl := Option.some.inj H
     go_wp2
     go_ret
     exact ⟨_, by first | rfl | (simp [errW_none, errW_some] <;> rfl) | (simp [*, errW_none, errW_some] <;> rfl), by first | exact Kd.R_nil _ _ _ _ _ | exact Kd.N_nil _ _ _ _ _ | exact Kd.V_nil _ _ _ _ _ | exact Kd.Q_nil _ _ _ _ _ | exact Kd.S_nil _ _ _ _ _, bl_ HB⟩
    ·replace c7 := Bool.eq_false_iff.mpr c7
     subst c7
     have H1 : (if 0 ≤ (wrap64 (Int.tdiv (wrap64 (-a1)) 32)) then (if (wrap64 (Int.tdiv (wrap64 (-a1)) 32)) ≤ (l0.length : Int) then ((r02_Norm.f kj3 (l0.drop ((wrap64 (Int.tdiv (wrap64 (-a1)) 32)) : Int).toNat)).bind fun t301 => (if 0 ≤ (Int.tmod (wrap64 (-a1)) 32) then ((r02_Parts.f kj3 t301 (([shl .u32 1 (Int.tmod (wrap64 (-a1)) 32)] : List Int))).bind fun bt307 => (some bt307.1)) else (none))) else (none)) else (none)) = some r := by rw [if_neg (show ¬ (false = true) by decide)] at H; exact H
     clear H
     have H := H1
     clear H1
     obtain ⟨ji8, hji8⟩ : ∃ j_ : Int, (wrap64 (Int.tdiv (wrap64 (-a1)) 32)) = j_ := ⟨_, rfl⟩
     replace H : (if 0 ≤ (ji8) then (if (ji8) ≤ (l0.length : Int) then ((r02_Norm.f kj3 (l0.drop ((ji8) : Int).toNat)).bind fun t301 => (if 0 ≤ (Int.tmod (wrap64 (-a1)) 32) then ((r02_Parts.f kj3 t301 (([shl .u32 1 (Int.tmod (wrap64 (-a1)) 32)] : List Int))).bind fun bt307 => (some bt307.1)) else (none))) else (none)) else (none)) = some r := by first | (rw [hji8] at H; exact H) | (simp only [hji8] at H ⊢; exact H)
     have hji8w : (IntKind.i64.wrap (Int.tdiv (wrap64 (-a1)) 32)) = ji8 := (i64_w _).trans hji8
     by_cases c9 : 0 ≤ (ji8)
     ·rw [if_pos c9] at H
      have c9b0 := eq_true c9
      have c9b1 : decide (0 ≤ (ji8)) = true := decide_eq_true c9
      clear c9
      by_cases c10 : (ji8) ≤ (l0.length : Int)
      ·rw [if_pos c10] at H
       have c10b0 := eq_true c10
       have c10b1 : decide ((ji8) ≤ (l0.length : Int)) = true := decide_eq_true c10
       clear c10
       obtain ⟨t301, A11, H⟩ := ob_ H
       try dsimp only at H
       obtain ⟨ji12, hji12⟩ : ∃ j_ : Int, (Int.tmod (wrap64 (-a1)) 32) = j_ := ⟨_, rfl⟩
       replace H : (if 0 ≤ (ji12) then ((r02_Parts.f kj3 t301 (([shl .u32 1 (ji12)] : List Int))).bind fun bt307 => (some bt307.1)) else (none)) = some r := by first | (rw [hji12] at H; exact H) | (simp only [hji12] at H ⊢; exact H)
       (try rw [hji12] at A11)
       by_cases c13 : 0 ≤ (ji12)
       ·rw [if_pos c13] at H
        have c13b0 := eq_true c13
        have c13b1 : decide (0 ≤ (ji12)) = true := decide_eq_true c13
        clear c13
        obtain ⟨ji14, hji14⟩ : ∃ j_ : Int, (shl .u32 1 (ji12)) = j_ := ⟨_, rfl⟩
        replace H : ((r02_Parts.f kj3 t301 (([ji14] : List Int))).bind fun bt307 => (some bt307.1)) = some r := by first | (rw [hji14] at H; exact H) | (simp only [hji14] at H ⊢; exact H)
        (try rw [hji14] at A11)
        have hji14_ : (IntKind.u32.wrap (1 * 2 ^ min (ji12).toNat 32)) = ji14 := hji14
        have hji14z : (ji12) ≤ 32 → (IntKind.u32.wrap (1 * 2 ^ (ji12).toNat)) = ji14 := shl_small hji14
        have hji14u : (IntKind.u32.wrap (2 ^ min (ji12).toNat 32)) = ji14 := by have h_ := hji14_; rw [Int.one_mul] at h_; exact h_
        have hji14v : (ji12) ≤ 32 → (IntKind.u32.wrap (2 ^ (ji12).toNat)) = ji14 := fun hle_ => by have h_ := hji14z hle_; rw [Int.one_mul] at h_; exact h_
        obtain ⟨y304, hy304⟩ : ∃ y_ : List Int, y_ = (([ji14] : List Int)) := ⟨_, rfl⟩
        replace H : ((r02_Parts.f kj3 t301 y304).bind fun bt307 => (some bt307.1)) = some r := by first | (rw [hy304]; with_reducible exact H) | (have H2_ := (Option.bind_some _ _).symm.trans H; rw [hy304]; with_reducible exact H2_) | (have H2_ := (Option.bind_some _ _).symm.trans H; with_reducible exact H2_) | with_reducible exact H | (rw [hy304]; exact H) | exact H
        have Ny304 := Aside0.mk hy304
        clear hy304
        obtain ⟨⟨t307, t308⟩, A15, H⟩ := ob_ H
        try dsimp only at H
        obtain rfl := Option.some.inj H
        try go_wp2
        have n0_ := Aside0.mk (below_drew1 HB.out)
        clear HB
        have HB := n0_
        clear n0_
        obtain ⟨i017, hi017, _, hsz17, _⟩ := info_parts info72
        obtain ⟨A17, hcut17, hA17, hC17⟩ := print_drop_of (P := Try.prog) (Value.int .u32) 0 41 72 .i64 Try.underlying41 hi017 hsz17 A0 c0 l0 (ji8) (of_decide_eq_true (by first | (with_reducible assumption) | assumption)) (of_decide_eq_true (by first | (with_reducible assumption) | assumption)) HC0.out
        have HR300 := Aside0.mk (Kd.C_of_reads (h1 := fun _ => rfl) (hA17 _ (Kd.reads_of_C HR0.out)))
        have HC300 := Aside0.mk hC17
        clear hA17 hC17 hi017 hsz17
        refine start_ (n := 15) (S := fun w' => True) (ds := []) #[false, false, false, false, false, false, false, false, false, false, false, false, false, false, false] (by kernel_rfl) rfl rfl trivial (fun hHeld => ?_); refine with_tabW r02_Moved.tab5 r02_Moved.bits5 (fun HT_ HW_ => ?_)
        generalize wc.drew = w16 at HB HR300 hHeld ⊢
        refine pure_ (i := 0) (N := some 23) (v := ?_) (a' := ?_) #[true, false, false, false, false, false, false, false, false, false, false, false, false, false, false] rfl rfl (any_of HT_.out (by kernel_rfl)) (fun _ _ _ h => h) (Or.inl ⟨by rfl, ?_⟩) ?_ ?_
        rotate_left
        ·intro w'
         go_simp
         with_reducible rfl
        rotate_left
        ·simp only [Act.put, List.setIfInBounds_toArray, List.set_cons_zero, List.set_cons_succ, i64_w, i32_w]
         rfl
        refine pure_ (i := 1) (N := some 24) (v := ?_) (a' := ?_) #[true, true, false, false, false, false, false, false, false, false, false, false, false, false, false] rfl rfl (any_of HT_.out (by kernel_rfl)) (fun _ _ _ h => h) (Or.inl ⟨by rfl, ?_⟩) ?_ ?_
        rotate_left
        ·intro w'
         go_simp
         with_reducible rfl
        rotate_left
        ·simp only [Act.put, List.setIfInBounds_toArray, List.set_cons_zero, List.set_cons_succ, i64_w, i32_w]
         rfl
        refine pure_ (i := 2) (N := some 25) (v := ?_) (a' := ?_) #[true, true, true, false, false, false, false, false, false, false, false, false, false, false, false] rfl rfl (any_of HT_.out (by kernel_rfl)) (fun _ _ _ h => h) (Or.inl ⟨by rfl, ?_⟩) ?_ ?_
        rotate_left
        ·intro w'
         go_simp
         with_reducible rfl
        rotate_left
        ·simp only [Act.put, List.setIfInBounds_toArray, List.set_cons_zero, List.set_cons_succ, i64_w, i32_w]
         rfl
        refine pure_ (i := 4) (N := some 27) (v := ?_) (a' := ?_) #[true, true, true, false, true, false, false, false, false, false, false, false, false, false, false] rfl rfl (any_of HT_.out (by kernel_rfl)) (fun _ _ _ h => h) (Or.inl ⟨by rfl, ?_⟩) ?_ ?_
        rotate_left
        ·intro w'
         go_simp
         with_reducible rfl
        rotate_left
        ·simp only [Act.put, List.setIfInBounds_toArray, List.set_cons_zero, List.set_cons_succ, i64_w, i32_w]
         rfl
        refine pure_ (i := 5) (N := some 28) (v := ?_) (a' := ?_) #[true, true, true, false, true, true, false, false, false, false, false, false, false, false, false] rfl rfl (any_of HT_.out (by kernel_rfl)) (fun _ _ _ h => h) (Or.inl ⟨by rfl, ?_⟩) ?_ ?_
        rotate_left
        ·intro w'
         go_simp
         with_reducible rfl
        rotate_left
        ·simp only [Act.put, List.setIfInBounds_toArray, List.set_cons_zero, List.set_cons_succ, i64_w, i32_w]
         rfl
        refine pure_ (i := 6) (N := some 29) (v := ?_) (a' := ?_) #[true, true, true, false, true, true, true, false, false, false, false, false, false, false, false] rfl rfl (any_of HT_.out (by kernel_rfl)) (fun _ _ _ h => h) (Or.inl ⟨by rfl, ?_⟩) ?_ ?_
        rotate_left
        ·intro w'
         go_simp
         with_reducible rfl
        rotate_left
        ·simp only [Act.put, List.setIfInBounds_toArray, List.set_cons_zero, List.set_cons_succ, i64_w, i32_w]
         rfl
        refine pure_ (i := 7) (N := some 30) (v := ?_) (a' := ?_) #[true, true, true, false, true, true, true, true, false, false, false, false, false, false, false] rfl rfl (any_of HT_.out (by kernel_rfl)) (fun _ _ _ h => h) (Or.inl ⟨by rfl, ?_⟩) ?_ ?_
        rotate_left
        ·intro w'
         go_simp
         with_reducible rfl
        rotate_left
        ·simp only [Act.put, List.setIfInBounds_toArray, List.set_cons_zero, List.set_cons_succ, i64_w, i32_w]
         rfl
        refine join_ (σ := Value × Value) 6 #[true, true, true, true, true, true, true, true, true, false, false, false, false, false, false] (fun s_ => [(26, s_.1), (31, s_.2)]) (fun s_ w' => (Kd.R (Kd.int .u32) 72 w' w.heap.size (fun k_ => some k_ ≠ (s_.2 : Value).ownBlock) s_.1 t301) ∧ (Kd.R (Kd.int .u32) 72 w' w.heap.size (fun k_ => some k_ ≠ (s_.1 : Value).ownBlock) s_.2 y304) ∧ (Below w.heap.size w w')) ?_ ?_
        rotate_left
        ·intro hCont
         refine two_ (i := 3) (j := 8) (Ni := some 26) (Nj := some 31) #[true, true, true, true, true, true, true, true, false, false, false, false, false, false, false] #[true, true, true, false, true, true, true, true, true, false, false, false, false, false, false] rfl rfl rfl rfl (two_of HT_.out (by kernel_rfl)) (by decide) (by decide) (fun K hK => ?_) (fun K hK => ?_)
         ·skip
          refine goes_ Try.func78 (by kernel_rfl) rfl #[.slice A17 (l0.drop ((ji8) : Int).toNat).length (c0 - (ji8).toNat)] (by rfl) rfl rfl (by (try simp only [List.map_toArray, List.map_cons, List.map_nil]); first | done | (rw [show (l0.drop ((ji8) : Int).toNat).length = (l0.length - (ji8).toNat) from List.length_drop] <;> rfl) | (simp only [hji8]; rfl) | rfl | (simp only [List.length_drop, List.length_take]; rfl)) ?_
          with_reducible refine (r02_Norm.calls kj3 _ _ (l0.drop ((ji8) : Int).toNat) t301 _ ?side1 ?side2 A11.out).mono ?_
          (case side1 => repeat (first | exact (Kd.C_below HR300.out HB.out) | (with_reducible first | apply cA | apply cN | apply cD)))
          (case side2 => exact HC300.out)
          rintro e w18 ⟨v302, rfl, ho0, hb⟩
          refine ⟨_, rfl, ?_⟩
          have n0_ := Aside0.mk (Kd.R_lower ho0 (below_size (bl_ HB)))
          have n1_ := bs_ HB hb
          clear HB
          have HO303 := n0_
          have HB := n1_
          clear n0_ n1_
          (try clear hb)
          (try clear hb2)
          (try clear hk)
          (try clear hi)
          (try clear ho0)
          refine hK.out _ _ trivial (fun hHeld => ?_)
          clear hK K
          refine norm_ (a' := ?_) ?_ ?_
          rotate_left
          ·show Act.put _ (some 26) _ = _
           simp only [Act.put, List.setIfInBounds_toArray, List.set_cons_zero, List.set_cons_succ, i64_w, i32_w]
           rfl
          refine one_ (i := 8) (N := some 31) #[true, true, true, true, true, true, true, true, true, false, false, false, false, false, false] rfl rfl (one_of HT_.out (by kernel_rfl)) (by decide) (fun K hK => ?_)
          refine Kd.R_lit_step (Kd.int .u32) _ 72 ?hg (N := 31) ?hd (xs := ([ji14] : List Int)) (inner := [.int .u32 ji14]) (ok := fun _ => True) (okp := fun _ => True) ?hr ?hp (fun _ hk => hk) trivial (Below.refl _ _) (Nat.le_refl _) (by simp) ?_; (case hd => rfl); (case hg => rfl); (case hr => first | (go_simp; done) | (go_simp; rfl)); (case hp => exact (Reps.one (show Kd.M (Kd.int .u32) _ _ _ ji14 [.int .u32 ji14] from rfl) (Reps.none _ _)))
          intro v305 w19 ho20 hb hg_ hnew_
          clear hg_ hnew_
          (first | rw [← Ny304.out] at ho20 | (simp only [Int.reduceToNat] at ho20; rw [← Ny304.out] at ho20))
          have n0_ := Aside0.mk (Kd.R_elder' (rr_ HO303) (Kd.R_base ho20) hb)
          have n1_ := Aside0.mk (Kd.R_lower (Kd.R_new' ho20 (Kd.R_lt (rr_ HO303))) (below_size (bl_ HB)))
          have n2_ := bs_ HB hb
          clear HO303
          clear HB
          have HO303 := n0_
          have HO306 := n1_
          have HB := n2_
          clear n0_ n1_ n2_
          clear hb ho20
          refine hK.out _ _ trivial (fun hHeld => ?_)
          clear hK K
          refine norm_ (a' := ?_) ?_ ?_
          rotate_left
          ·show Act.put _ (some 31) _ = _
           simp only [Act.put, List.setIfInBounds_toArray, List.set_cons_zero, List.set_cons_succ, i64_w, i32_w]
           rfl
          exact norm_ (by simp only [putAll, Act.put, List.setIfInBounds_toArray, List.set_cons_zero, List.set_cons_succ]) (hCont (v302, v305) _ ⟨(by (with_reducible repeat (first | apply rA | apply rN | apply rD)); exact Kd.R_mono HO303.out (fun _ hk => hk.2)), (by (with_reducible repeat (first | apply rA | apply rN | apply rD)); exact Kd.R_mono HO306.out (fun _ hk => hk.2)), (bl_ HB)⟩)
         ·skip
          refine Kd.R_lit_step (Kd.int .u32) _ 72 ?hg (N := 31) ?hd (xs := ([ji14] : List Int)) (inner := [.int .u32 ji14]) (ok := fun _ => True) (okp := fun _ => True) ?hr ?hp (fun _ hk => hk) trivial (Below.refl _ _) (Nat.le_refl _) (by simp) ?_; (case hd => rfl); (case hg => rfl); (case hr => first | (go_simp; done) | (go_simp; rfl)); (case hp => exact (Reps.one (show Kd.M (Kd.int .u32) _ _ _ ji14 [.int .u32 ji14] from rfl) (Reps.none _ _)))
          intro v305 w18 ho19 hb hg_ hnew_
          clear hg_ hnew_
          (first | rw [← Ny304.out] at ho19 | (simp only [Int.reduceToNat] at ho19; rw [← Ny304.out] at ho19))
          have n0_ := Aside0.mk (Kd.R_lower ho19 (below_size (bl_ HB)))
          have n1_ := bs_ HB hb
          clear HB
          have HO306 := n0_
          have HB := n1_
          clear n0_ n1_
          clear hb ho19
          refine hK.out _ _ trivial (fun hHeld => ?_)
          clear hK K
          refine norm_ (a' := ?_) ?_ ?_
          rotate_left
          ·show Act.put _ (some 31) _ = _
           simp only [Act.put, List.setIfInBounds_toArray, List.set_cons_zero, List.set_cons_succ, i64_w, i32_w]
           rfl
          refine one_ (i := 3) (N := some 26) #[true, true, true, true, true, true, true, true, true, false, false, false, false, false, false] rfl rfl (one_of HT_.out (by kernel_rfl)) (by decide) (fun K hK => ?_)
          refine goes_ Try.func78 (by kernel_rfl) rfl #[.slice A17 (l0.drop ((ji8) : Int).toNat).length (c0 - (ji8).toNat)] (by rfl) rfl rfl (by (try simp only [List.map_toArray, List.map_cons, List.map_nil]); first | done | (rw [show (l0.drop ((ji8) : Int).toNat).length = (l0.length - (ji8).toNat) from List.length_drop] <;> rfl) | (simp only [hji8]; rfl) | rfl | (simp only [List.length_drop, List.length_take]; rfl)) ?_
          with_reducible refine (r02_Norm.calls kj3 _ _ (l0.drop ((ji8) : Int).toNat) t301 _ ?side1 ?side2 A11.out).mono ?_
          (case side1 => repeat (first | exact (Kd.C_below HR300.out HB.out) | (with_reducible first | apply cA | apply cN | apply cD)))
          (case side2 => exact HC300.out)
          rintro e w20 ⟨v302, rfl, ho0, hb⟩
          refine ⟨_, rfl, ?_⟩
          have n0_ := Aside0.mk (Kd.R_elder' (rr_ HO306) (Kd.R_base ho0) hb)
          have n1_ := Aside0.mk (Kd.R_lower (Kd.R_new' ho0 (Kd.R_lt (rr_ HO306))) (below_size (bl_ HB)))
          have n2_ := bs_ HB hb
          clear HO306
          clear HB
          have HO306 := n0_
          have HO303 := n1_
          have HB := n2_
          clear n0_ n1_ n2_
          (try clear hb)
          (try clear hb2)
          (try clear hk)
          (try clear hi)
          (try clear ho0)
          refine hK.out _ _ trivial (fun hHeld => ?_)
          clear hK K
          refine norm_ (a' := ?_) ?_ ?_
          rotate_left
          ·show Act.put _ (some 26) _ = _
           simp only [Act.put, List.setIfInBounds_toArray, List.set_cons_zero, List.set_cons_succ, i64_w, i32_w]
           rfl
          exact norm_ (by simp only [putAll, Act.put, List.setIfInBounds_toArray, List.set_cons_zero, List.set_cons_succ]) (hCont (v302, v305) _ ⟨(by (with_reducible repeat (first | apply rA | apply rN | apply rD)); exact Kd.R_mono HO303.out (fun _ hk => hk.2)), (by (with_reducible repeat (first | apply rA | apply rN | apply rD)); exact Kd.R_mono HO306.out (fun _ hk => hk.2)), (bl_ HB)⟩)
        rintro ⟨v302, v305⟩ w21 ⟨h0_, h1_, h2_⟩
        have n0_ : Aside0 (Kd.R (Kd.int .u32) 72 w21 w.heap.size (fun k_ => some k_ ≠ (v305 : Value).ownBlock) v302 t301) := ⟨h0_⟩
        have n1_ : Aside0 (Kd.R (Kd.int .u32) 72 w21 w.heap.size (fun k_ => some k_ ≠ (v302 : Value).ownBlock) v305 y304) := ⟨h1_⟩
        have n2_ : Aside0 (Below w.heap.size w w21) := ⟨h2_⟩
        clear HB
        clear h0_ h1_ h2_
        have HO303 := n0_
        have HO306 := n1_
        have HB := n2_
        clear n0_ n1_ n2_
        have hHeld := trivial
        obtain ⟨Ao22, co22, eo22⟩ := Kd.R_slice HO303.out
        (first | subst eo22 | (injection eo22 with f1_ f2_ f3_; have f4_ := f1_.symm; have f5_ := f3_.symm; clear f1_ f2_ f3_; subst f4_; subst f5_))
        obtain ⟨Ao23, co23, eo23⟩ := Kd.R_slice HO306.out
        (first | subst eo23 | (injection eo23 with f1_ f2_ f3_; have f4_ := f1_.symm; have f5_ := f3_.symm; clear f1_ f2_ f3_; subst f4_; subst f5_))
        refine norm_ (a' := ?_) ?_ ?_
        rotate_left
        ·simp only [putAll, Act.put, List.setIfInBounds_toArray, List.set_cons_zero, List.set_cons_succ]
         rfl
        refine one_ (i := 9) (N := some 32) #[true, true, true, true, true, true, true, true, true, true, false, false, false, false, false] rfl rfl (one_of HT_.out (by kernel_rfl)) (by decide) (fun K hK => ?_)
        refine goes_ Try.func77 (by kernel_rfl) rfl #[.slice Ao22 t301.length co22, .slice Ao23 y304.length co23] (by rfl) rfl rfl (by (try simp only [List.map_toArray, List.map_cons, List.map_nil]); first | done | rfl | (simp only [List.length_drop, List.length_take]; rfl)) ?_
        with_reducible refine (r02_Parts.calls kj3 _ _ t301 _ _ y304 t307 t308 _ ?side1 ?side2 ?side3 ?side4 A15.out).mono ?_
        (case side1 => repeat (first | exact (Kd.R_reads' HO303.out).2.2 | (with_reducible first | apply cA | apply cN | apply cD)))
        (case side2 => exact (Kd.R_reads' HO303.out).2.1)
        (case side3 => repeat (first | exact (Kd.R_reads' HO306.out).2.2 | (with_reducible first | apply cA | apply cN | apply cD)))
        (case side4 => exact (Kd.R_reads' HO306.out).2.1)
        rintro e w24 ⟨v309, v311, rfl, ho0, ho1, hb⟩
        refine ⟨_, rfl, ?_⟩
        have n0_ := Aside0.mk (Kd.R_mono (Kd.R_told (Kd.R_told (Kd.R_old (rr_ HO303) hb) (Kd.R_base ho0)) (Kd.R_base ho1)) (fun _ h_ => h_.1))
        have n1_ := Aside0.mk (Kd.R_mono (Kd.R_told (Kd.R_told (Kd.R_old (rr_ HO306) hb) (Kd.R_base ho0)) (Kd.R_base ho1)) (fun _ h_ => h_.1))
        have n2_ := Aside0.mk (Kd.R_lower (Kd.R_new' (Kd.R_new' ho0 (Kd.R_lt (rr_ HO303))) (Kd.R_lt (rr_ HO306))) (below_size (bl_ HB)))
        have n3_ := Aside0.mk (Kd.R_lower (Kd.R_new' (Kd.R_new' ho1 (Kd.R_lt (rr_ HO303))) (Kd.R_lt (rr_ HO306))) (below_size (bl_ HB)))
        have n4_ := bs_ HB hb
        clear HO303
        clear HO306
        clear HB
        have HO303 := n0_
        have HO306 := n1_
        have HO310 := n2_
        have HO312 := n3_
        have HB := n4_
        clear n0_ n1_ n2_ n3_ n4_
        (try clear hb)
        (try clear hb2)
        (try clear hk)
        (try clear hi)
        (try clear ho0)
        (try clear ho1)
        refine hK.out _ _ trivial (fun hHeld => ?_)
        clear hK K
        refine norm_ (a' := ?_) ?_ ?_
        rotate_left
        ·show Act.put _ (some 32) _ = _
         simp only [Act.put, List.setIfInBounds_toArray, List.set_cons_zero, List.set_cons_succ, i64_w, i32_w]
         rfl
        refine pure_ (i := 10) (N := some 22) (v := ?_) (a' := ?_) #[true, true, true, true, true, true, true, true, true, true, true, false, false, false, false] rfl rfl (any_of HT_.out (by kernel_rfl)) (fun _ _ _ h => h) (Or.inl ⟨by rfl, ?_⟩) ?_ ?_
        rotate_left
        ·intro w'
         go_simp
         with_reducible rfl
        rotate_left
        ·simp only [Act.put, List.setIfInBounds_toArray, List.set_cons_zero, List.set_cons_succ, i64_w, i32_w]
         rfl
        refine pure_ (i := 11) (N := some 33) (v := ?_) (a' := ?_) #[true, true, true, true, true, true, true, true, true, true, true, true, false, false, false] rfl rfl (any_of HT_.out (by kernel_rfl)) (fun _ _ _ h => h) (Or.inl ⟨by rfl, ?_⟩) ?_ ?_
        rotate_left
        ·intro w'
         go_simp
         with_reducible rfl
        rotate_left
        ·simp only [Act.put, List.setIfInBounds_toArray, List.set_cons_zero, List.set_cons_succ, i64_w, i32_w]
         rfl
        refine pure_ (i := 12) (N := some 34) (v := ?_) (a' := ?_) #[true, true, true, true, true, true, true, true, true, true, true, true, true, false, false] rfl rfl (any_of HT_.out (by kernel_rfl)) (fun _ _ _ h => h) (Or.inl ⟨by rfl, ?_⟩) ?_ ?_
        rotate_left
        ·intro w'
         go_simp
         with_reducible rfl
        rotate_left
        ·simp only [Act.put, List.setIfInBounds_toArray, List.set_cons_zero, List.set_cons_succ, i64_w, i32_w]
         rfl
        refine pure_ (i := 13) (N := some 6) (v := ?_) (a' := ?_) #[true, true, true, true, true, true, true, true, true, true, true, true, true, true, false] rfl rfl (any_of HT_.out (by kernel_rfl)) (fun _ _ _ h => h) (Or.inl ⟨by rfl, ?_⟩) ?_ ?_
        rotate_left
        ·intro w'
         go_simp
         with_reducible rfl
        rotate_left
        ·simp only [Act.put, List.setIfInBounds_toArray, List.set_cons_zero, List.set_cons_succ, i64_w, i32_w]
         rfl
        refine pure_ (i := 14) (N := some 7) (v := ?_) (a' := ?_) #[true, true, true, true, true, true, true, true, true, true, true, true, true, true, true] rfl rfl (any_of HT_.out (by kernel_rfl)) (fun _ _ _ h => h) (Or.inl ⟨by rfl, ?_⟩) ?_ ?_
        rotate_left
        ·intro w'
         go_simp
         with_reducible rfl
        rotate_left
        ·simp only [Act.put, List.setIfInBounds_toArray, List.set_cons_zero, List.set_cons_succ, i64_w, i32_w]
         rfl
        refine done_ (done_of HT_.out (by kernel_rfl)) ?_
        try go_wp2
        go_ret
        exact ⟨_, by first | rfl | (simp [errW_none, errW_some] <;> rfl) | (simp only [← hji8, ← hji12, ← hji14]; first | rfl | (simp [errW_none, errW_some] <;> rfl)) | (simp [*, errW_none, errW_some] <;> rfl), by (with_reducible repeat (first | apply rA | apply rN | apply rD)); exact Kd.R_mono HO310.out (fun _ hk => trivial), bl_ HB⟩
       ·rw [if_neg c13] at H
        exact absurd H (by simp)
      ·rw [if_neg c10] at H
       exact absurd H (by simp)
     ·rw [if_neg c9] at H
      exact absurd H (by simp)
 ·rw [if_neg c3] at H
  have c3b0 : decide (a1 < 0) = false := decide_eq_false c3
  (try obtain rfl : bz5 = false := hbz5.symm.trans c3b0)
  clear c3
  obtain ⟨ji25, hji25⟩ : ∃ j_ : Int, (wrap64 (Int.tdiv a1 32)) = j_ := ⟨_, rfl⟩
  replace H : (if 0 ≤ (ji25) then (if (ji25 : Int).toNat ≤ 70368744177664 then ((some (List.replicate (ji25 : Int).toNat 0 : List Int)).bind fun y313 => (if y313.length + l0.length < 35184372088832 then (if 0 ≤ (Int.tmod a1 32) then ((r02_Times.f k (y313 ++ l0) (([shl .u32 1 (Int.tmod a1 32)] : List Int))).bind fun t322 => (some t322)) else (none)) else (none))) else (none)) else (none)) = some r := by first | (rw [hji25] at H; exact H) | (simp only [hji25] at H ⊢; exact H)
  have hji25w : (IntKind.i64.wrap (Int.tdiv a1 32)) = ji25 := (i64_w _).trans hji25
  by_cases c26 : 0 ≤ (ji25)
  ·rw [if_pos c26] at H
   have c26b0 := eq_true c26
   have c26b1 : decide (0 ≤ (ji25)) = true := decide_eq_true c26
   clear c26
   by_cases c27 : (ji25 : Int).toNat ≤ 70368744177664
   ·rw [if_pos c27] at H
    have c27b0 := eq_true c27
    have c27b1 : decide ((ji25 : Int).toNat ≤ 70368744177664) = true := decide_eq_true c27
    clear c27
    obtain ⟨y313, hy313⟩ : ∃ y_ : List Int, y_ = (List.replicate (ji25 : Int).toNat 0) := ⟨_, rfl⟩
    replace H : (if y313.length + l0.length < 35184372088832 then (if 0 ≤ (Int.tmod a1 32) then ((r02_Times.f k (y313 ++ l0) (([shl .u32 1 (Int.tmod a1 32)] : List Int))).bind fun t322 => (some t322)) else (none)) else (none)) = some r := by first | (rw [hy313]; with_reducible exact H) | (have H2_ := (Option.bind_some _ _).symm.trans H; rw [hy313]; with_reducible exact H2_) | (have H2_ := (Option.bind_some _ _).symm.trans H; with_reducible exact H2_) | with_reducible exact H | (rw [hy313]; exact H) | exact H
    have Ny313 := Aside0.mk hy313
    clear hy313
    by_cases c28 : y313.length + l0.length < 35184372088832
    ·rw [if_pos c28] at H
     have LMc28 := Aside0.mk c28
     clear c28
     obtain ⟨y316, hy316⟩ : ∃ y_ : List Int, y_ = (y313 ++ l0) := ⟨_, rfl⟩
     replace H : (if 0 ≤ (Int.tmod a1 32) then ((r02_Times.f k y316 (([shl .u32 1 (Int.tmod a1 32)] : List Int))).bind fun t322 => (some t322)) else (none)) = some r := by first | (rw [hy316]; with_reducible exact H) | (have H2_ := (Option.bind_some _ _).symm.trans H; rw [hy316]; with_reducible exact H2_) | (have H2_ := (Option.bind_some _ _).symm.trans H; with_reducible exact H2_) | with_reducible exact H | (rw [hy316]; exact H) | exact H
     have Ny316 := Aside0.mk hy316
     clear hy316
     obtain ⟨ji29, hji29⟩ : ∃ j_ : Int, (Int.tmod a1 32) = j_ := ⟨_, rfl⟩
     replace H : (if 0 ≤ (ji29) then ((r02_Times.f k y316 (([shl .u32 1 (ji29)] : List Int))).bind fun t322 => (some t322)) else (none)) = some r := by first | (rw [hji29] at H; exact H) | (simp only [hji29] at H ⊢; exact H)
     by_cases c30 : 0 ≤ (ji29)
     ·rw [if_pos c30] at H
      have c30b0 := eq_true c30
      have c30b1 : decide (0 ≤ (ji29)) = true := decide_eq_true c30
      clear c30
      obtain ⟨ji31, hji31⟩ : ∃ j_ : Int, (shl .u32 1 (ji29)) = j_ := ⟨_, rfl⟩
      replace H : ((r02_Times.f k y316 (([ji31] : List Int))).bind fun t322 => (some t322)) = some r := by first | (rw [hji31] at H; exact H) | (simp only [hji31] at H ⊢; exact H)
      have hji31_ : (IntKind.u32.wrap (1 * 2 ^ min (ji29).toNat 32)) = ji31 := hji31
      have hji31z : (ji29) ≤ 32 → (IntKind.u32.wrap (1 * 2 ^ (ji29).toNat)) = ji31 := shl_small hji31
      have hji31u : (IntKind.u32.wrap (2 ^ min (ji29).toNat 32)) = ji31 := by have h_ := hji31_; rw [Int.one_mul] at h_; exact h_
      have hji31v : (ji29) ≤ 32 → (IntKind.u32.wrap (2 ^ (ji29).toNat)) = ji31 := fun hle_ => by have h_ := hji31z hle_; rw [Int.one_mul] at h_; exact h_
      obtain ⟨y319, hy319⟩ : ∃ y_ : List Int, y_ = (([ji31] : List Int)) := ⟨_, rfl⟩
      replace H : ((r02_Times.f k y316 y319).bind fun t322 => (some t322)) = some r := by first | (rw [hy319]; with_reducible exact H) | (have H2_ := (Option.bind_some _ _).symm.trans H; rw [hy319]; with_reducible exact H2_) | (have H2_ := (Option.bind_some _ _).symm.trans H; with_reducible exact H2_) | with_reducible exact H | (rw [hy319]; exact H) | exact H
      have Ny319 := Aside0.mk hy319
      clear hy319
      obtain ⟨t322, A32, H⟩ := ob_ H
      try dsimp only at H
      obtain rfl := Option.some.inj H
      go_enter Try.func58, Try.ntmps58
      go_wp2_with (first | ((with_reducible refine gate_dst (N := 38) rfl ?_); refine Kd.R_make (Kd.int .u32) _ 72 rfl (N := 38) rfl 41 _ _ rfl ji25 rfl rfl Try.underlying41 (.int .u32 0) 4 info72 rfl (by decide) (by omega) 0 (ok := fun _ => True) (okp := fun _ => True) rfl (fun _ hk => hk) trivial (of_decide_eq_true (by first | (with_reducible assumption) | assumption)) (Nat.le_trans (Nat.mul_le_mul_right _ (of_decide_eq_true (by first | (with_reducible assumption) | assumption) : ji25.toNat ≤ 70368744177664)) (by omega)) (Below.refl _ _) (Nat.le_refl _) ?_; intro v314 w33 ho34 hb hg_ hnew_; clear hg_ hnew_; (first | rw [← Ny313.out] at ho34 | (simp only [Int.reduceToNat] at ho34; rw [← Ny313.out] at ho34)); have n0_ := Aside0.mk (Kd.R_lower ho34 (below_size (bl_ HB))); have n1_ := bs_ HB hb; clear HB; have HO315 := n0_; have HB := n1_; clear n0_ n1_; clear hb ho34) | ((with_reducible refine gate_builtin (b := .append) (xs := #[.tmp 39, .tmp 40]) rfl ?_); at_builtin; refine Kd.R_append_rows (Kd.int .u32) (w0 := w) w.heap.size rfl (.tmp 39) (.tmp 40) 41 72 (.int .u32 0) 4 rfl Try.underlying41 info72 rfl (by decide) (by omega) v314 y313 l0 _ _ _ (fun _ => True) (fun _ => False) rfl rfl ?aO ?aR (fun _ _ h => h) (fun _ h => h.elim) ?aF ?aB ?aS ?aL ?_; (case aR => repeat (first | exact (Kd.C_below HR0.out HB.out) | (with_reducible first | apply cA | apply cN | apply cD))); (case aB => exact (bl_ HB)); (case aF => exact (fun _ _ => trivial)); (case aO => exact (rr_ HO315)); (case aS => exact (below_size (bl_ HB))); (case aL => have := LMc28.out; omega); intro v317 w35 ho hb hg hat; rw [← Ny316.out] at ho; have n0_ := Aside0.mk (hb); have n1_ := Aside0.mk (ho); clear HB; clear HO315; have HB := n0_; have HO318 := n1_; clear n0_ n1_; clear ho hb hg hat) | ((with_reducible refine gate_dst (N := 46) rfl ?_); refine Kd.R_lit (Kd.int .u32) _ 72 ?hg (N := 46) ?hd (xs := ([ji31] : List Int)) (inner := [.int .u32 ji31]) (ok := fun _ => True) (okp := fun _ => True) ?hr ?hp (fun _ hk => hk) trivial (Below.refl _ _) (Nat.le_refl _) (by simp) ?_; (case hd => rfl); (case hg => rfl); (case hr => first | (go_simp; done) | (go_simp; rfl)); (case hp => exact (Reps.one (show Kd.M (Kd.int .u32) _ _ _ ji31 [.int .u32 ji31] from rfl) (Reps.none _ _))); intro v320 w36 ho37 hb hg_ hnew_; clear hg_ hnew_; (first | rw [← Ny319.out] at ho37 | (simp only [Int.reduceToNat] at ho37; rw [← Ny319.out] at ho37)); have n0_ := Aside0.mk (Kd.R_elder' (rr_ HO318) (Kd.R_base ho37) hb); have n1_ := Aside0.mk (Kd.R_lower (Kd.R_new' ho37 (Kd.R_lt (rr_ HO318))) (below_size (bl_ HB))); have n2_ := bs_ HB hb; clear HO318; clear HB; have HO318 := n0_; have HO321 := n1_; have HB := n2_; clear n0_ n1_ n2_; clear hb ho37; obtain ⟨Ao38, co38, eo38⟩ := Kd.R_slice HO318.out; subst eo38; obtain ⟨Ao39, co39, eo39⟩ := Kd.R_slice HO321.out; subst eo39) | ((with_reducible refine gate_callee (f := 63) rfl ?_); refine goesM (some 47) Try.func63 #[.slice Ao38 y316.length co38, .slice Ao39 y319.length co39] ?_; (with_reducible refine (r02_Times.calls k _ _ y316 _ _ y319 t322 _ ?side1 ?side2 ?side3 ?side4 A32.out).mono ?_); (case side1 => repeat (first | exact (Kd.R_reads' HO318.out).2.2 | (with_reducible first | apply cA | apply cN | apply cD))); (case side2 => exact (Kd.R_reads' HO318.out).2.1); (case side3 => repeat (first | exact (Kd.R_reads' HO321.out).2.2 | (with_reducible first | apply cA | apply cN | apply cD))); (case side4 => exact (Kd.R_reads' HO321.out).2.1); rintro e w40 ⟨v323, rfl, ho0, hb⟩; refine ⟨_, rfl, ?_⟩; have n0_ := Aside0.mk (Kd.R_elder' (rr_ HO318) (Kd.R_base ho0) hb); have n1_ := Aside0.mk (Kd.R_elder' (rr_ HO321) (Kd.R_base ho0) hb); have n2_ := Aside0.mk (Kd.R_lower (Kd.R_new' (Kd.R_new' ho0 (Kd.R_lt (rr_ HO318))) (Kd.R_lt (rr_ HO321))) (below_size (bl_ HB))); have n3_ := bs_ HB hb; clear HO318; clear HO321; clear HB; have HO318 := n0_; have HO321 := n1_; have HO324 := n2_; have HB := n3_; clear n0_ n1_ n2_ n3_; (try clear hb); (try clear hb2); (try clear hk); (try clear hi); (try clear ho0)))
      go_ret
      exact ⟨_, by first | rfl | (simp [errW_none, errW_some] <;> rfl) | (simp only [← hji25, ← hji29, ← hji31]; first | rfl | (simp [errW_none, errW_some] <;> rfl)) | (simp [*, errW_none, errW_some] <;> rfl), by (with_reducible repeat (first | apply rA | apply rN | apply rD)); exact Kd.R_mono HO324.out (fun _ hk => trivial), bl_ HB⟩
     ·rw [if_neg c30] at H
      exact absurd H (by simp)
    ·rw [if_neg c28] at H
     exact absurd H (by simp)
   ·rw [if_neg c27] at H
    exact absurd H (by simp)
  ·rw [if_neg c26] at H
   exact absurd H (by simp)

end Go.Proofs.Ytdemanikmaafeaa.Pr
-- written by this session's own program (wip/fprint.py), which widens the kit's print by floats
namespace Go.Proofs.Ytdemanikmaafeaa.Pr
open Go.RowKit Go.Proofs.YtdemanikmaafeaaW.PrintWords Go.Proofs.YtdemanikmaafeaaW.PrintLast Go.Proofs.YtdemanikmaafeaaW.PrintMore
attribute [local go_sem] max2_int min2_int max_two min_two max_three min_three max_four min_four   -- for this text's walks alone
set_option linter.unusedVariables false
set_option linter.unusedSimpArgs false

/-! ### r02_Bit: function 88 -/
def r02_Bit.f (l0 : List Int) (a1 : Int) : Option (Bool) := if a1 < 0 then (some false) else (if (wrap64 (Int.tdiv a1 32)) ≥ (l0.length : Int) then (some false) else (if 0 ≤ (wrap64 (Int.tdiv a1 32)) then (if (wrap64 (Int.tdiv a1 32)) < (l0.length : Int) then (if 0 ≤ (Int.tmod a1 32) then (some ((Go.bits .and .u32 (shr .u32 (rd l0 (wrap64 (Int.tdiv a1 32))) (Int.tmod a1 32)) 1) == 1)) else (none)) else (none)) else (none)))
set_option maxHeartbeats 3000000 in
set_option maxRecDepth 100000 in
theorem r02_Bit.calls (A0 : Option Addr) (c0 : Nat) (l0 : List Int) (a1 : Int) (r : Bool) (w : World) (hr0 : Kd.C (Kd.int .u32) w A0 l0.length l0) (hc0 : l0.length ≤ c0) (h : r02_Bit.f l0 a1 = some r) :
  Calls Try.prog 88 #[.slice A0 l0.length c0, .int .i64 a1] w fun e w' => e = .returned (.bool r) ∧ Drawn0 w w' := by
 have HR0 := Aside0.mk hr0
 have HC0 := Aside0.mk hc0
 clear hr0 hc0
 have H : (if a1 < 0 then (some false) else (if (wrap64 (Int.tdiv a1 32)) ≥ (l0.length : Int) then (some false) else (if 0 ≤ (wrap64 (Int.tdiv a1 32)) then (if (wrap64 (Int.tdiv a1 32)) < (l0.length : Int) then (if 0 ≤ (Int.tmod a1 32) then (some ((Go.bits .and .u32 (shr .u32 (rd l0 (wrap64 (Int.tdiv a1 32))) (Int.tmod a1 32)) 1) == 1)) else (none)) else (none)) else (none)))) = some r := h
 clear h
 by_cases c3 : a1 < 0
 ·rw [if_pos c3] at H
  have c3b0 : decide (a1 < 0) = true := decide_eq_true c3
  clear c3
  obtain rfl := Option.some.inj H
  go_enter Try.func88, Try.ntmps88
  go_wp2
  go_ret
  exact ⟨by first | rfl | (simp; done) | (simp [*]; done), by repeat (first | exact Drawn0.refl _ | apply Drawn0.step)⟩
 ·rw [if_neg c3] at H
  have c3b0 : decide (a1 < 0) = false := decide_eq_false c3
  clear c3
  by_cases c4 : (wrap64 (Int.tdiv a1 32)) ≥ (l0.length : Int)
  ·rw [if_pos c4] at H
   have c4b0 : decide ((l0.length : Int) ≤ (wrap64 (Int.tdiv a1 32))) = true := decide_eq_true c4
   clear c4
   obtain rfl := Option.some.inj H
   go_enter Try.func88, Try.ntmps88
   go_wp2
   go_ret
   exact ⟨by first | rfl | (simp; done) | (simp [*]; done), by repeat (first | exact Drawn0.refl _ | apply Drawn0.step)⟩
  ·rw [if_neg c4] at H
   have c4b0 : decide ((l0.length : Int) ≤ (wrap64 (Int.tdiv a1 32))) = false := decide_eq_false c4
   clear c4
   obtain ⟨ji5, hji5⟩ : ∃ j_ : Int, (wrap64 (Int.tdiv a1 32)) = j_ := ⟨_, rfl⟩
   replace H : (if 0 ≤ (ji5) then (if (ji5) < (l0.length : Int) then (if 0 ≤ (Int.tmod a1 32) then (some ((Go.bits .and .u32 (shr .u32 (rd l0 (ji5)) (Int.tmod a1 32)) 1) == 1)) else (none)) else (none)) else (none)) = some r := by first | (rw [hji5] at H; exact H) | (simp only [hji5] at H ⊢; exact H)
   (try rw [hji5] at c4b0)
   have hji5w : (IntKind.i64.wrap (Int.tdiv a1 32)) = ji5 := (i64_w _).trans hji5
   by_cases c6 : 0 ≤ (ji5)
   ·rw [if_pos c6] at H
    have c6b0 : decide (0 ≤ (ji5)) = true := decide_eq_true c6
    clear c6
    by_cases c7 : (ji5) < (l0.length : Int)
    ·rw [if_pos c7] at H
     have c7b0 : decide ((ji5) < (l0.length : Int)) = true := decide_eq_true c7
     clear c7
     obtain ⟨ji8, hji8⟩ : ∃ j_ : Int, (Int.tmod a1 32) = j_ := ⟨_, rfl⟩
     replace H : (if 0 ≤ (ji8) then (some ((Go.bits .and .u32 (shr .u32 (rd l0 (ji5)) (ji8)) 1) == 1)) else (none)) = some r := by first | (rw [hji8] at H; exact H) | (simp only [hji8] at H ⊢; exact H)
     by_cases c9 : 0 ≤ (ji8)
     ·rw [if_pos c9] at H
      have c9b0 := eq_true c9
      have c9b1 : decide (0 ≤ (ji8)) = true := decide_eq_true c9
      clear c9
      obtain ⟨ji10, hji10⟩ : ∃ j_ : Int, (shr .u32 (rd l0 (ji5)) (ji8)) = j_ := ⟨_, rfl⟩
      replace H : (some ((Go.bits .and .u32 (ji10) 1) == 1)) = some r := by first | (rw [hji10] at H; exact H) | (simp only [hji10] at H ⊢; exact H)
      have hji10_ : ((rd l0 (ji5)) / 2 ^ min (ji8).toNat 32) = ji10 := hji10
      have hji10z : (ji8) ≤ 32 → ((rd l0 (ji5)) / 2 ^ (ji8).toNat) = ji10 := shr_small hji10
      obtain rfl := Option.some.inj H
      have p325 : 0 ≤ ((ji5) : Int) := of_decide_eq_true (by first | (with_reducible assumption) | assumption)
      have q325 : (ji5) < (l0.length : Int) := of_decide_eq_true (by first | (with_reducible assumption) | assumption)
      obtain ⟨ad325, e325, hx325_0⟩ := Kd.at_int HR0.out (ji5) p325 q325
      cases e325
      replace p325 := eq_true p325
      replace q325 := eq_true q325
      go_enter Try.func88, Try.ntmps88
      go_wp2
      go_ret
      exact ⟨by first | rfl | (simp; done) | (simp only [← hji5, ← hji8, ← hji10] <;> (first | rfl | simp)) | (simp [*]; done), by repeat (first | exact Drawn0.refl _ | apply Drawn0.step)⟩
     ·rw [if_neg c9] at H
      exact absurd H (by simp)
    ·rw [if_neg c7] at H
     exact absurd H (by simp)
   ·rw [if_neg c6] at H
    exact absurd H (by simp)

/-! ### r02_Low: function 83 -/
def r02_Low.l0 : Nat → List Int → Int → Option (Int)
 | 0, _, _ => none
 | k + 1, x0, x3 => (r02_Bit.f x0 x3).bind fun t327 => (if t327 = true then (some x3) else (r02_Low.l0 k x0 (wrap64 (x3 + 1))))
def r02_Low.f (k : Nat) (l0 : List Int) : Option (Int) := (r02_size.f k l0).bind fun t326 => (if t326 = 0 then (some 0) else (r02_Low.l0 k l0 0))
theorem r02_Low.mono_l : ∀ k, (∀ y0 y1, LeO (r02_Low.l0 k y0 y1) (r02_Low.l0 (k + 1) y0 y1))
 | 0 => fun _ _ r h => by simp [r02_Low.l0] at h
 | k + 1 => by
  have ih0 := r02_Low.mono_l k
  ·intro y0 y1
   unfold r02_Low.l0
   repeat' first
   | (with_reducible exact ih0 _ _)
   | (with_reducible exact r02_size.mono _ _)
   | (with_reducible exact LeO.refl _)
   | (with_reducible exact LeO.none _)
   | (with_reducible refine LeO.ite ?_ ?_)
   | (with_reducible refine LeO.bind ?_ (fun _ => ?_))
   | exact ih0 _ _
   | exact r02_size.mono _ _
   | exact LeO.none _
   | refine LeO.ite ?_ ?_
   | refine LeO.bind ?_ (fun _ => ?_)
theorem r02_Low.mono : ∀ a0 k, LeO (r02_Low.f k a0) (r02_Low.f (k + 1) a0) := by
 intro a0 k
 have ih0 := r02_Low.mono_l k
 unfold r02_Low.f
 repeat' first
   | (with_reducible exact ih0 _ _)
   | (with_reducible exact r02_size.mono _ _)
   | (with_reducible exact LeO.refl _)
   | (with_reducible exact LeO.none _)
   | (with_reducible refine LeO.ite ?_ ?_)
   | (with_reducible refine LeO.bind ?_ (fun _ => ?_))
   | exact ih0 _ _
   | exact r02_size.mono _ _
   | exact LeO.none _
   | refine LeO.ite ?_ ?_
   | refine LeO.bind ?_ (fun _ => ?_)
set_option maxHeartbeats 3000000 in
set_option maxRecDepth 100000 in
theorem r02_Low.calls (k : Nat) (A0 : Option Addr) (c0 : Nat) (l0 : List Int) (r : Int) (w : World) (hr0 : Kd.C (Kd.int .u32) w A0 l0.length l0) (hc0 : l0.length ≤ c0) (h : r02_Low.f k l0 = some r) :
  Calls Try.prog 83 #[.slice A0 l0.length c0] w fun e w' => e = .returned (.int .i64 r) ∧ Drawn0 w w' := by
 have HR0 := Aside0.mk hr0
 have HC0 := Aside0.mk hc0
 clear hr0 hc0
 have H : ((r02_size.f k l0).bind fun t326 => (if t326 = 0 then (some 0) else (r02_Low.l0 k l0 0))) = some r := h
 clear h
 obtain ⟨t326, A2, H⟩ := ob_ H
 try dsimp only at H
 by_cases c3 : t326 = 0
 ·rw [if_pos c3] at H
  have c3b0 : (t326 == 0) = true := beq_iff_eq.mpr c3
  have c3b1 : (t326 != 0) = false := bne_eq_false_iff_eq.mpr c3
  clear c3
  obtain rfl := Option.some.inj H
  go_enter Try.func83, Try.ntmps83
  go_wp2_with (first | ((with_reducible refine gate_callee (f := 75) rfl ?_); refine goesM (some 5) Try.func75 #[.slice A0 l0.length c0] ?_; (with_reducible refine (r02_size.calls k _ _ l0 t326 _ ?side1 ?side2 A2.out).mono ?_); (case side1 => repeat (first | exact HR0.out | (with_reducible first | apply cA | apply cN | apply cD))); (case side2 => exact HC0.out); rintro e w' ⟨rfl, ⟨nd, rfl⟩⟩; refine ⟨_, rfl, ?_⟩))
  go_ret
  exact ⟨by first | rfl | (simp; done) | (simp [*]; done), by repeat (first | exact Drawn0.refl _ | apply Drawn0.step)⟩
 ·rw [if_neg c3] at H
  have c3b0 : (t326 == 0) = false := beq_eq_false_iff_ne.mpr c3
  have c3b1 : (t326 != 0) = true := bne_iff_ne.mpr c3
  have H' := Aside0.mk H
  clear H
  go_enter Try.func83, Try.ntmps83
  go_wp2_with (first | ((with_reducible refine gate_callee (f := 75) rfl ?_); refine goesM (some 5) Try.func75 #[.slice A0 l0.length c0] ?_; (with_reducible refine (r02_size.calls k _ _ l0 t326 _ ?side1 ?side2 A2.out).mono ?_); (case side1 => repeat (first | exact HR0.out | (with_reducible first | apply cA | apply cN | apply cD))); (case side2 => exact HC0.out); rintro e w' ⟨rfl, ⟨nd, rfl⟩⟩; refine ⟨_, rfl, ?_⟩))
  go_loopg [3] k (fun kq v3 w' => ∃ (x3_1 : Int), v3 = .int .i64 x3_1 ∧ Aside0 (r02_Low.l0 kq l0 x3_1 = some r) ∧ Aside0 (kq ≤ k) ∧ Drawn0 w w')
  case atStart => exact ⟨(0), (by first | rfl | (simp; done) | (simp [*]; done)), H', ⟨Nat.le_refl _⟩, by repeat (first | exact Drawn0.refl _ | apply Drawn0.step)⟩
  case round =>
   clear H'
   try clear p2
   try clear c3
   try clear c3b0
   try clear c3b1
   obtain ⟨x3_1, rfl, HA, HK1, ⟨m1, rfl⟩⟩ := hrel
   cases gk with
   | zero => exact absurd HA.out (by simp [r02_Low.l0])
   | succ k1 =>
    have H := HA.out
    clear HA
    simp only [r02_Low.l0] at H
    obtain ⟨t327, A4, H⟩ := ob_ H
    try dsimp only at H
    by_cases c5 : t327 = true
    ·subst c5
     have H1 : (some x3_1) = some r := by rw [if_pos rfl] at H; exact H
     clear H
     have H := H1
     clear H1
     obtain rfl := Option.some.inj H
     go_wp2_with (first | ((with_reducible refine gate_callee (f := 88) rfl ?_); refine goesM (some 9) Try.func88 #[.slice A0 l0.length c0, .int .i64 x3_1] ?_; (with_reducible refine (r02_Bit.calls _ _ l0 x3_1 true _ ?side1 ?side2 A4.out).mono ?_); (case side1 => repeat (first | exact HR0.out | (with_reducible first | apply cA | apply cN | apply cD))); (case side2 => exact HC0.out); rintro e w' ⟨rfl, ⟨nd, rfl⟩⟩; refine ⟨_, rfl, ?_⟩))
     go_ret
     exact ⟨by first | rfl | (simp; done) | (simp [*]; done), by repeat (first | exact Drawn0.refl _ | apply Drawn0.step)⟩
    ·replace c5 := Bool.eq_false_iff.mpr c5
     subst c5
     have H1 : (r02_Low.l0 k1 l0 (wrap64 (x3_1 + 1))) = some r := by rw [if_neg (show ¬ (false = true) by decide)] at H; exact H
     clear H
     have H := H1
     clear H1
     have H' := Aside0.mk H
     clear H
     go_wp2_with (first | ((with_reducible refine gate_callee (f := 88) rfl ?_); refine goesM (some 9) Try.func88 #[.slice A0 l0.length c0, .int .i64 x3_1] ?_; (with_reducible refine (r02_Bit.calls _ _ l0 x3_1 false _ ?side1 ?side2 A4.out).mono ?_); (case side1 => repeat (first | exact HR0.out | (with_reducible first | apply cA | apply cN | apply cD))); (case side2 => exact HC0.out); rintro e w' ⟨rfl, ⟨nd, rfl⟩⟩; refine ⟨_, rfl, ?_⟩))
     go_roundg k1
     case measure => have := HK1.out; omega
     case rel => exact ⟨(wrap64 (x3_1 + 1)), (by first | rfl | (simp; done) | (simp [*]; done)), H', ⟨by have := HK1.out; omega⟩, by repeat (first | exact Drawn0.refl _ | apply Drawn0.step)⟩

end Go.Proofs.Ytdemanikmaafeaa.Pr
-- written by this session's own program (wip/fprint.py), which widens the kit's print by floats
namespace Go.Proofs.Ytdemanikmaafeaa.Pr
open Go.RowKit Go.Proofs.YtdemanikmaafeaaW.PrintWords Go.Proofs.YtdemanikmaafeaaW.PrintLast Go.Proofs.YtdemanikmaafeaaW.PrintMore
attribute [local go_sem] max2_int min2_int max_two min_two max_three min_three max_four min_four   -- for this text's walks alone
set_option linter.unusedVariables false
set_option linter.unusedSimpArgs false

/-! ### r03_Form: function 76 -/
def r03_Form.j0 : Nat → Bool → Int → List Int → Int → Bool → Option (Bool × List Int × Int × Bool)
 | 0, _, _, _, _, _ => none
 | k + 1, x0, x2, x8, x9, x31 => if x31 = true then (some (false, ([] : List Int), 0, false)) else ((r02_Moved.f k x8 (wrap64 (-x9))).bind fun t333 => (if (t333.length : Int) > 8192 then (some (false, ([] : List Int), 0, false)) else (some (x0, t333, wrap64 (x2 + x9), true))))
def r03_Form.f (k : Nat) (a0 : Bool) (l1 : List Int) (a2 : Int) : Option (Bool × List Int × Int × Bool) := (r02_Norm.f k l1).bind fun t329 => (if (t329.length : Int) = 0 then (some (false, ([] : List Int), 0, true)) else ((r02_Low.f k t329).bind fun t332 => (if a2 > 1048576 then (r03_Form.j0 k a0 a2 t329 t332 true) else (if (wrap64 (a2 + t332)) > 1048576 then (r03_Form.j0 k a0 a2 t329 t332 true) else (r03_Form.j0 k a0 a2 t329 t332 (decide ((wrap64 (a2 + t332)) < (-1048576))))))))
theorem r03_Form.mono_l : ∀ k, (∀ y0 y1 y2 y3 y4, LeO (r03_Form.j0 k y0 y1 y2 y3 y4) (r03_Form.j0 (k + 1) y0 y1 y2 y3 y4))
 | 0 => fun _ _ _ _ _ r h => by simp [r03_Form.j0] at h
 | k + 1 => by
  have ih0 := r03_Form.mono_l k
  ·intro y0 y1 y2 y3 y4
   unfold r03_Form.j0
   repeat' first
   | (with_reducible exact ih0 _ _ _ _ _)
   | (with_reducible exact r02_Low.mono _ _)
   | (with_reducible exact r02_Moved.mono _ _ _)
   | (with_reducible exact r02_Norm.mono _ _)
   | (with_reducible exact LeO.refl _)
   | (with_reducible exact LeO.none _)
   | (with_reducible refine LeO.ite ?_ ?_)
   | (with_reducible refine LeO.bind ?_ (fun _ => ?_))
   | exact ih0 _ _ _ _ _
   | exact r02_Low.mono _ _
   | exact r02_Moved.mono _ _ _
   | exact r02_Norm.mono _ _
   | exact LeO.none _
   | refine LeO.ite ?_ ?_
   | refine LeO.bind ?_ (fun _ => ?_)
theorem r03_Form.mono : ∀ a0 a1 a2 k, LeO (r03_Form.f k a0 a1 a2) (r03_Form.f (k + 1) a0 a1 a2) := by
 intro a0 a1 a2 k
 have ih0 := r03_Form.mono_l k
 unfold r03_Form.f
 repeat' first
   | (with_reducible exact ih0 _ _ _ _ _)
   | (with_reducible exact r02_Low.mono _ _)
   | (with_reducible exact r02_Moved.mono _ _ _)
   | (with_reducible exact r02_Norm.mono _ _)
   | (with_reducible exact LeO.refl _)
   | (with_reducible exact LeO.none _)
   | (with_reducible refine LeO.ite ?_ ?_)
   | (with_reducible refine LeO.bind ?_ (fun _ => ?_))
   | exact ih0 _ _ _ _ _
   | exact r02_Low.mono _ _
   | exact r02_Moved.mono _ _ _
   | exact r02_Norm.mono _ _
   | exact LeO.none _
   | refine LeO.ite ?_ ?_
   | refine LeO.bind ?_ (fun _ => ?_)
set_option maxHeartbeats 3000000 in
set_option maxRecDepth 100000 in
theorem r03_Form.calls (k : Nat) (a0 : Bool) (A1 : Option Addr) (c1 : Nat) (l1 : List Int) (a2 : Int) (r1 : Bool) (r2 : List Int) (r3 : Int) (r4 : Bool) (w : World) (hr1 : Kd.C (Kd.int .u32) w A1 l1.length l1) (hc1 : l1.length ≤ c1) (h : r03_Form.f k a0 l1 a2 = some (r1, r2, r3, r4)) :
  Calls Try.prog 76 #[.bool a0, .slice A1 l1.length c1, .int .i64 a2] w fun e w' => ∃ v1_ : Value, e = .returned (.tuple #[.agg #[.bool r1, v1_, .int .i64 r3], .bool r4]) ∧ Kd.R (Kd.int .u32) 72 w' w.heap.size (fun _ => True) v1_ r2 ∧ Below w.heap.size w w' := by
 have hu43 := Try.underlying43
 have HR1 := Aside0.mk hr1
 have HC1 := Aside0.mk hc1
 clear hr1 hc1
 have HB := Aside0.mk (Below.refl w.heap.size w)
 have H : ((r02_Norm.f k l1).bind fun t329 => (if (t329.length : Int) = 0 then (some (false, ([] : List Int), 0, true)) else ((r02_Low.f k t329).bind fun t332 => (if a2 > 1048576 then (r03_Form.j0 k a0 a2 t329 t332 true) else (if (wrap64 (a2 + t332)) > 1048576 then (r03_Form.j0 k a0 a2 t329 t332 true) else (r03_Form.j0 k a0 a2 t329 t332 (decide ((wrap64 (a2 + t332)) < (-1048576))))))))) = some (r1, r2, r3, r4) := h
 clear h
 obtain ⟨t329, A4, H⟩ := ob_ H
 try dsimp only at H
 by_cases c5 : (t329.length : Int) = 0
 ·rw [if_pos c5] at H
  have c5b0 : ((t329.length : Int) == 0) = true := beq_iff_eq.mpr c5
  have c5b1 : ((t329.length : Int) != 0) = false := bne_eq_false_iff_eq.mpr c5
  clear c5
  simp only [Option.some.injEq, Prod.mk.injEq] at H
  obtain ⟨rfl, rfl, rfl, rfl⟩ := H
  go_enter Try.func76, Try.ntmps76
  go_wp2_with (first | ((with_reducible refine gate_dst (N := 6) rfl ?_); refine box_event ?hg (N := 6) ?hd (cs := #[.bool false, .slice none 0 0, .int .i64 0]) (t := 43) ?hr ?_; (case hd => rfl); (case hg => rfl); (case hr => first | (go_simp; done) | (go_simp; rfl)); intro gb328 hg w6 hbox hb; have n0_ := bs_ HB hb; have n1_ := Aside0.mk (hbox); have n2_ := ge_ HB hg; have n3_ := ge_ HB hg; clear HB; have HB := n0_; have BK328 := n1_; have GW328 := n2_; have GE328 := n3_; clear n0_ n1_ n2_ n3_; clear hb hbox hg) | ((with_reducible refine gate_callee (f := 78) rfl ?_); refine goesM (some 11) Try.func78 #[.slice A1 l1.length c1] ?_; (with_reducible refine (r02_Norm.calls k _ _ l1 t329 _ ?side1 ?side2 A4.out).mono ?_); (case side1 => repeat (first | exact (Kd.C_below HR1.out HB.out) | (with_reducible first | apply cA | apply cN | apply cD))); (case side2 => exact HC1.out); rintro e w7 ⟨v330, rfl, ho0, hb⟩; refine ⟨_, rfl, ?_⟩; have n0_ := Aside0.mk (Kd.R_lower ho0 (below_size (bl_ HB))); have n1_ := kb_ BK328 hb; have n2_ := bs_ HB hb; clear BK328; clear HB; have HO331 := n0_; have BK328 := n1_; have HB := n2_; clear n0_ n1_ n2_; (try clear hb); (try clear hb2); (try clear hk); (try clear hi); (try clear ho0); obtain ⟨Ao8, co8, eo8⟩ := Kd.R_slice HO331.out; subst eo8; have hcz9_0 : w7.cell? ⟨gb328, 0, none⟩ = some (.bool false) := (blk_cell BK328.out 0).trans rfl; have hcz9_1 : w7.cell? ⟨gb328, 1, none⟩ = some (.slice none 0 0) := (blk_cell BK328.out 1).trans rfl; have hcz9_2 : w7.cell? ⟨gb328, 2, none⟩ = some (.int .i64 0) := (blk_cell BK328.out 2).trans rfl; have hfz9_0 := blk_frozen BK328.out 0; have hfz9_1 := blk_frozen BK328.out 1; have hfz9_2 := blk_frozen BK328.out 2))
  refine bodyPost_ret (results_ct rfl _ _ gb328 43 #[.bool false, .slice none 0 0, .int .i64 0] (0, 0) _ rfl (by (with_reducible repeat (first | apply bN | apply bD | apply bA)); refine blk_put (cs := #[.bool false, .slice none 0 0, .int .i64 0]) ?_ 2 _ rfl; (with_reducible repeat (first | apply bN | apply bD | apply bA)); refine blk_put (cs := #[.bool false, .slice none 0 0, .int .i64 0]) ?_ 1 _ rfl; (with_reducible repeat (first | apply bN | apply bD | apply bA)); refine blk_put (cs := #[.bool false, .slice none 0 0, .int .i64 0]) ?_ 0 _ rfl; exact bk_ BK328) Try.underlying43 rfl (by kernel_rfl)) rfl ?_
  exact ⟨_, by first | rfl | (simp [errW_none, errW_some] <;> rfl) | (simp [*, errW_none, errW_some] <;> rfl), by first | exact Kd.R_nil _ _ _ _ _ | exact Kd.N_nil _ _ _ _ _ | exact Kd.V_nil _ _ _ _ _ | exact Kd.Q_nil _ _ _ _ _ | exact Kd.S_nil _ _ _ _ _, bl_ HB⟩
 ·rw [if_neg c5] at H
  have c5b0 : ((t329.length : Int) == 0) = false := beq_eq_false_iff_ne.mpr c5
  have c5b1 : ((t329.length : Int) != 0) = true := bne_iff_ne.mpr c5
  have c5b2 : ¬ (t329 = []) := fun h_ => c5 (by rw [h_]; rfl)
  obtain ⟨t332, A10, H⟩ := ob_ H
  try dsimp only at H
  have HC11 := Aside0.mk H
  clear H
  go_enter Try.func76, Try.ntmps76
  go_upto_region 5 with (first | ((with_reducible refine gate_dst (N := 6) rfl ?_); refine box_event ?hg (N := 6) ?hd (cs := #[.bool false, .slice none 0 0, .int .i64 0]) (t := 43) ?hr ?_; (case hd => rfl); (case hg => rfl); (case hr => first | (go_simp; done) | (go_simp; rfl)); intro gb328 hg w12 hbox hb; have n0_ := bs_ HB hb; have n1_ := Aside0.mk (hbox); have n2_ := ge_ HB hg; have n3_ := ge_ HB hg; clear HB; have HB := n0_; have BK328 := n1_; have GW328 := n2_; have GE328 := n3_; clear n0_ n1_ n2_ n3_; clear hb hbox hg) | ((with_reducible refine gate_callee (f := 78) rfl ?_); refine goesM (some 11) Try.func78 #[.slice A1 l1.length c1] ?_; (with_reducible refine (r02_Norm.calls k _ _ l1 t329 _ ?side1 ?side2 A4.out).mono ?_); (case side1 => repeat (first | exact (Kd.C_below HR1.out HB.out) | (with_reducible first | apply cA | apply cN | apply cD))); (case side2 => exact HC1.out); rintro e w13 ⟨v330, rfl, ho0, hb⟩; refine ⟨_, rfl, ?_⟩; have n0_ := Aside0.mk (Kd.R_lower ho0 (below_size (bl_ HB))); have n1_ := kb_ BK328 hb; have n2_ := bs_ HB hb; clear BK328; clear HB; have HO331 := n0_; have BK328 := n1_; have HB := n2_; clear n0_ n1_ n2_; (try clear hb); (try clear hb2); (try clear hk); (try clear hi); (try clear ho0); obtain ⟨Ao14, co14, eo14⟩ := Kd.R_slice HO331.out; subst eo14) | ((with_reducible refine gate_callee (f := 83) rfl ?_); refine goesM (some 17) Try.func83 #[.slice Ao14 t329.length co14] ?_; (with_reducible refine (r02_Low.calls k _ _ t329 t332 _ ?side1 ?side2 A10.out).mono ?_); (case side1 => repeat (first | exact (Kd.R_reads' HO331.out).2.2 | (with_reducible first | apply cA | apply cN | apply cD))); (case side2 => exact (Kd.R_reads' HO331.out).2.1); rintro e w' ⟨rfl, ⟨nd, rfl⟩⟩; refine ⟨_, rfl, ?_⟩))
  (try simp only [Act.put, List.setIfInBounds_toArray, List.set_cons_zero, List.set_cons_succ])
  go_cut [31] (fun v31 wc => ∃ (kq : Nat) (x31_10 : Bool), v31 = .bool x31_10 ∧ Aside0 (r03_Form.j0 kq a0 a2 t329 t332 x31_10 = some (r1, r2, r3, r4)) ∧ Aside0 (kq ≤ k) ∧ Aside0 (Kd.R (Kd.int .u32) 72 wc w.heap.size (fun _ => True) (.slice Ao14 t329.length co14) t329) ∧ Aside0 (wc.heap[gb328]? = some (.cells #[.bool false, (.slice none 0 0), .int .i64 0] 43 (0, 0))) ∧ Aside0 (Below w.heap.size w wc))
  case first =>
   have H := HC11.out
   clear HC11
   by_cases c15 : a2 > 1048576
   ·rw [if_pos c15] at H
    have c15b0 : decide (1048576 < a2) = true := decide_eq_true c15
    clear c15
    (first | rw [c15b0] | (simp only [i64_w, i32_w]; rw [c15b0]) | skip)
    have H' := Aside0.mk H
    clear H
    go_wp2
    go_meet
    case rel => exact ⟨_, (true), (by first | rfl | (simp; done) | (simp [*]; done)), H', ⟨by first | omega | exact Nat.le_refl _⟩, ⟨rr_ HO331⟩, ⟨bk_ BK328⟩, ⟨bl_ HB⟩⟩
   ·rw [if_neg c15] at H
    have c15b0 : decide (1048576 < a2) = false := decide_eq_false c15
    clear c15
    (first | rw [c15b0] | (simp only [i64_w, i32_w]; rw [c15b0]) | skip)
    by_cases c16 : (wrap64 (a2 + t332)) > 1048576
    ·rw [if_pos c16] at H
     have c16b0 : decide (1048576 < (wrap64 (a2 + t332))) = true := decide_eq_true c16
     clear c16
     have H' := Aside0.mk H
     clear H
     go_wp2
     go_meet
     case rel => exact ⟨_, (true), (by first | rfl | (simp; done) | (simp [*]; done)), H', ⟨by first | omega | exact Nat.le_refl _⟩, ⟨rr_ HO331⟩, ⟨bk_ BK328⟩, ⟨bl_ HB⟩⟩
    ·rw [if_neg c16] at H
     have c16b0 : decide (1048576 < (wrap64 (a2 + t332))) = false := decide_eq_false c16
     clear c16
     have H' := Aside0.mk H
     clear H
     go_wp2
     go_meet
     case rel => exact ⟨_, (decide ((wrap64 (a2 + t332)) < (-1048576))), (by first | rfl | (simp; done) | (simp [*]; done)), H', ⟨by first | omega | exact Nat.le_refl _⟩, ⟨rr_ HO331⟩, ⟨bk_ BK328⟩, ⟨bl_ HB⟩⟩
  case rest =>
   clear HC11
   try clear c1
   try clear p2
   try clear c5
   try clear c5b0
   try clear c5b1
   try clear c5b2
   try clear p6
   try clear c7
   try clear c8
   try clear c15
   try clear c15b0
   try clear c16
   try clear c16b0
   try clear hcz9_0
   try clear hcz9_1
   try clear hcz9_2
   try clear hfz9_0
   try clear hfz9_1
   try clear hfz9_2
   obtain ⟨kq, x31_10, rfl, HA, HJ10, HO_8, BK328, HB⟩ := hcut
   cases kq with
   | zero => exact absurd HA.out (by simp [r03_Form.j0])
   | succ kj10 =>
    have H := HA.out
    clear HA
    simp only [r03_Form.j0] at H
    by_cases c17 : x31_10 = true
    ·subst c17
     have H1 : (some (false, ([] : List Int), 0, false)) = some (r1, r2, r3, r4) := by rw [if_pos rfl] at H; exact H
     clear H
     have H := H1
     clear H1
     simp only [Option.some.injEq, Prod.mk.injEq] at H
     obtain ⟨rfl, rfl, rfl, rfl⟩ := H
     have hcz18_0 : wc.cell? ⟨gb328, 0, none⟩ = some (.bool false) := (blk_cell BK328.out 0).trans rfl
     have hcz18_1 : wc.cell? ⟨gb328, 1, none⟩ = some (.slice none 0 0) := (blk_cell BK328.out 1).trans rfl
     have hcz18_2 : wc.cell? ⟨gb328, 2, none⟩ = some (.int .i64 0) := (blk_cell BK328.out 2).trans rfl
     have hfz18_0 := blk_frozen BK328.out 0
     have hfz18_1 := blk_frozen BK328.out 1
     have hfz18_2 := blk_frozen BK328.out 2
     go_wp2
     refine bodyPost_ret (results_ct rfl _ _ gb328 43 #[.bool false, .slice none 0 0, .int .i64 0] (0, 0) _ rfl (by (with_reducible repeat (first | apply bN | apply bD | apply bA)); refine blk_put (cs := #[.bool false, .slice none 0 0, .int .i64 0]) ?_ 2 _ rfl; (with_reducible repeat (first | apply bN | apply bD | apply bA)); refine blk_put (cs := #[.bool false, .slice none 0 0, .int .i64 0]) ?_ 1 _ rfl; (with_reducible repeat (first | apply bN | apply bD | apply bA)); refine blk_put (cs := #[.bool false, .slice none 0 0, .int .i64 0]) ?_ 0 _ rfl; exact bk_ BK328) Try.underlying43 rfl (by kernel_rfl)) rfl ?_
     exact ⟨_, by first | rfl | (simp [errW_none, errW_some] <;> rfl) | (simp [*, errW_none, errW_some] <;> rfl), by first | exact Kd.R_nil _ _ _ _ _ | exact Kd.N_nil _ _ _ _ _ | exact Kd.V_nil _ _ _ _ _ | exact Kd.Q_nil _ _ _ _ _ | exact Kd.S_nil _ _ _ _ _, bl_ HB⟩
    ·replace c17 := Bool.eq_false_iff.mpr c17
     subst c17
     have H1 : ((r02_Moved.f kj10 t329 (wrap64 (-t332))).bind fun t333 => (if (t333.length : Int) > 8192 then (some (false, ([] : List Int), 0, false)) else (some (a0, t333, wrap64 (a2 + t332), true)))) = some (r1, r2, r3, r4) := by rw [if_neg (show ¬ (false = true) by decide)] at H; exact H
     clear H
     have H := H1
     clear H1
     obtain ⟨t333, A19, H⟩ := ob_ H
     try dsimp only at H
     by_cases c20 : (t333.length : Int) > 8192
     ·rw [if_pos c20] at H
      have c20b0 : decide (8192 < (t333.length : Int)) = true := decide_eq_true c20
      have c20b1 : decide (8192 < t333.length) = true := decide_eq_true (by omega)
      clear c20
      simp only [Option.some.injEq, Prod.mk.injEq] at H
      obtain ⟨rfl, rfl, rfl, rfl⟩ := H
      go_wp2_with (first | ((with_reducible refine gate_callee (f := 58) rfl ?_); refine goesM (some 36) Try.func58 #[.slice Ao14 t329.length co14, .int .i64 (wrap64 (-t332))] ?_; (with_reducible refine (r02_Moved.calls kj10 _ _ t329 (wrap64 (-t332)) t333 _ ?side1 ?side2 A19.out).mono ?_); (case side1 => repeat (first | exact (Kd.R_reads' HO_8.out).2.2 | (with_reducible first | apply cA | apply cN | apply cD))); (case side2 => exact (Kd.R_reads' HO_8.out).2.1); rintro e w21 ⟨v334, rfl, ho0, hb⟩; refine ⟨_, rfl, ?_⟩; have n0_ := Aside0.mk (Kd.R_elder' (rr_ HO_8) (Kd.R_base ho0) hb); have n1_ := Aside0.mk (Kd.R_lower (Kd.R_new' ho0 (Kd.R_lt (rr_ HO_8))) (below_size (bl_ HB))); have n2_ := kb_ BK328 hb; have n3_ := bs_ HB hb; clear HO_8; clear BK328; clear HB; have HO_8 := n0_; have HO335 := n1_; have BK328 := n2_; have HB := n3_; clear n0_ n1_ n2_ n3_; (try clear hb); (try clear hb2); (try clear hk); (try clear hi); (try clear ho0); obtain ⟨Ao22, co22, eo22⟩ := Kd.R_slice HO335.out; subst eo22; have hcz23_0 : w21.cell? ⟨gb328, 0, none⟩ = some (.bool false) := (blk_cell BK328.out 0).trans rfl; have hcz23_1 : w21.cell? ⟨gb328, 1, none⟩ = some (.slice none 0 0) := (blk_cell BK328.out 1).trans rfl; have hcz23_2 : w21.cell? ⟨gb328, 2, none⟩ = some (.int .i64 0) := (blk_cell BK328.out 2).trans rfl; have hfz23_0 := blk_frozen BK328.out 0; have hfz23_1 := blk_frozen BK328.out 1; have hfz23_2 := blk_frozen BK328.out 2))
      refine bodyPost_ret (results_ct rfl _ _ gb328 43 #[.bool false, .slice none 0 0, .int .i64 0] (0, 0) _ rfl (by (with_reducible repeat (first | apply bN | apply bD | apply bA)); refine blk_put (cs := #[.bool false, .slice none 0 0, .int .i64 0]) ?_ 2 _ rfl; (with_reducible repeat (first | apply bN | apply bD | apply bA)); refine blk_put (cs := #[.bool false, .slice none 0 0, .int .i64 0]) ?_ 1 _ rfl; (with_reducible repeat (first | apply bN | apply bD | apply bA)); refine blk_put (cs := #[.bool false, .slice none 0 0, .int .i64 0]) ?_ 0 _ rfl; exact bk_ BK328) Try.underlying43 rfl (by kernel_rfl)) rfl ?_
      exact ⟨_, by first | rfl | (simp [errW_none, errW_some] <;> rfl) | (simp [*, errW_none, errW_some] <;> rfl), by first | exact Kd.R_nil _ _ _ _ _ | exact Kd.N_nil _ _ _ _ _ | exact Kd.V_nil _ _ _ _ _ | exact Kd.Q_nil _ _ _ _ _ | exact Kd.S_nil _ _ _ _ _, bl_ HB⟩
     ·rw [if_neg c20] at H
      have c20b0 : decide (8192 < (t333.length : Int)) = false := decide_eq_false c20
      have c20b1 : decide (8192 < t333.length) = false := decide_eq_false (by omega)
      clear c20
      simp only [Option.some.injEq, Prod.mk.injEq] at H
      obtain ⟨rfl, rfl, rfl, rfl⟩ := H
      go_wp2_with (first | ((with_reducible refine gate_callee (f := 58) rfl ?_); refine goesM (some 36) Try.func58 #[.slice Ao14 t329.length co14, .int .i64 (wrap64 (-t332))] ?_; (with_reducible refine (r02_Moved.calls kj10 _ _ t329 (wrap64 (-t332)) t333 _ ?side1 ?side2 A19.out).mono ?_); (case side1 => repeat (first | exact (Kd.R_reads' HO_8.out).2.2 | (with_reducible first | apply cA | apply cN | apply cD))); (case side2 => exact (Kd.R_reads' HO_8.out).2.1); rintro e w24 ⟨v334, rfl, ho0, hb⟩; refine ⟨_, rfl, ?_⟩; have n0_ := Aside0.mk (Kd.R_elder' (rr_ HO_8) (Kd.R_base ho0) hb); have n1_ := Aside0.mk (Kd.R_lower (Kd.R_new' ho0 (Kd.R_lt (rr_ HO_8))) (below_size (bl_ HB))); have n2_ := kb_ BK328 hb; have n3_ := bs_ HB hb; clear HO_8; clear BK328; clear HB; have HO_8 := n0_; have HO335 := n1_; have BK328 := n2_; have HB := n3_; clear n0_ n1_ n2_ n3_; (try clear hb); (try clear hb2); (try clear hk); (try clear hi); (try clear ho0); obtain ⟨Ao25, co25, eo25⟩ := Kd.R_slice HO335.out; subst eo25; have hcz26_0 : w24.cell? ⟨gb328, 0, none⟩ = some (.bool false) := (blk_cell BK328.out 0).trans rfl; have hcz26_1 : w24.cell? ⟨gb328, 1, none⟩ = some (.slice none 0 0) := (blk_cell BK328.out 1).trans rfl; have hcz26_2 : w24.cell? ⟨gb328, 2, none⟩ = some (.int .i64 0) := (blk_cell BK328.out 2).trans rfl; have hfz26_0 := blk_frozen BK328.out 0; have hfz26_1 := blk_frozen BK328.out 1; have hfz26_2 := blk_frozen BK328.out 2))
      refine bodyPost_ret (results_ct rfl _ _ gb328 43 #[.bool a0, .slice Ao25 t333.length co25, .int .i64 (wrap64 (a2 + t332))] (0, 0) _ rfl (by (with_reducible repeat (first | apply bN | apply bD | apply bA)); refine blk_put (cs := #[.bool a0, .slice Ao25 t333.length co25, .int .i64 0]) ?_ 2 _ rfl; (with_reducible repeat (first | apply bN | apply bD | apply bA)); refine blk_put (cs := #[.bool a0, .slice none 0 0, .int .i64 0]) ?_ 1 _ rfl; (with_reducible repeat (first | apply bN | apply bD | apply bA)); refine blk_put (cs := #[.bool false, .slice none 0 0, .int .i64 0]) ?_ 0 _ rfl; exact bk_ BK328) Try.underlying43 rfl (by kernel_rfl)) rfl ?_
      exact ⟨_, by first | rfl | (simp [errW_none, errW_some] <;> rfl) | (simp [*, errW_none, errW_some] <;> rfl), by (with_reducible repeat (first | apply rA | apply rN | apply rD)); exact Kd.R_mono (Kd.R_far (p := ⟨gb328, 2, none⟩) (Kd.R_far (p := ⟨gb328, 1, none⟩) (Kd.R_far (p := ⟨gb328, 0, none⟩) (Kd.R_types HO335.out BK328.out (by decide)) (fun _ hk => hk.2) (.bool a0)) (fun _ hk => hk.2) (.slice Ao25 t333.length co25)) (fun _ hk => hk.2) (.int .i64 (wrap64 (a2 + t332)))) (fun _ hk => trivial), bl_ HB⟩

/-! ### r03_Made: function 57 -/
def r03_Made.f (k : Nat) (a0_0 : Bool) (l0_1 : List Int) (a0_2 : Int) : Option (Bool × List Int × Int × Bool) := (r03_Form.f k a0_0 l0_1 a0_2).bind fun bt338 => (some (bt338.1, bt338.2.1, bt338.2.2.1, bt338.2.2.2))
theorem r03_Made.mono : ∀ a0 a1 a2 k, LeO (r03_Made.f k a0 a1 a2) (r03_Made.f (k + 1) a0 a1 a2) := by
 intro a0 a1 a2 k
 unfold r03_Made.f
 repeat' first
   | (with_reducible exact r03_Form.mono _ _ _ _)
   | (with_reducible exact LeO.refl _)
   | (with_reducible exact LeO.none _)
   | (with_reducible refine LeO.ite ?_ ?_)
   | (with_reducible refine LeO.bind ?_ (fun _ => ?_))
   | exact r03_Form.mono _ _ _ _
   | exact LeO.none _
   | refine LeO.ite ?_ ?_
   | refine LeO.bind ?_ (fun _ => ?_)
set_option maxHeartbeats 3000000 in
set_option maxRecDepth 100000 in
theorem r03_Made.calls (k : Nat) (a0_0 : Bool) (A0_1 : Option Addr) (c0_1 : Nat) (l0_1 : List Int) (a0_2 : Int) (r1 : Bool) (r2 : List Int) (r3 : Int) (r4 : Bool) (w : World) (hr0_1 : Kd.C (Kd.int .u32) w A0_1 l0_1.length l0_1) (hc0_1 : l0_1.length ≤ c0_1) (h : r03_Made.f k a0_0 l0_1 a0_2 = some (r1, r2, r3, r4)) :
  Calls Try.prog 57 #[.agg #[.bool a0_0, .slice A0_1 l0_1.length c0_1, .int .i64 a0_2]] w fun e w' => ∃ v1_ : Value, e = .returned (.tuple #[.agg #[.bool r1, v1_, .int .i64 r3], .bool r4]) ∧ Kd.R (Kd.int .u32) 72 w' w.heap.size (fun _ => True) v1_ r2 ∧ Below w.heap.size w w' := by
 have hu43 := Try.underlying43
 have HR0_1 := Aside0.mk hr0_1
 have HC0_1 := Aside0.mk hc0_1
 clear hr0_1 hc0_1
 have HB := Aside0.mk (Below.refl w.heap.size w)
 have H : ((r03_Form.f k a0_0 l0_1 a0_2).bind fun bt338 => (some (bt338.1, bt338.2.1, bt338.2.2.1, bt338.2.2.2))) = some (r1, r2, r3, r4) := h
 clear h
 obtain ⟨⟨t338, t339, t342, t343⟩, A2, H⟩ := ob_ H
 try dsimp only at H
 simp only [Option.some.injEq, Prod.mk.injEq] at H
 obtain ⟨rfl, rfl, rfl, rfl⟩ := H
 go_enter Try.func57, Try.ntmps57
 go_wp2_with (first | ((with_reducible refine gate_dst (N := 1) rfl ?_); refine box_event ?hg (N := 1) ?hd (cs := #[.bool a0_0, .slice A0_1 l0_1.length c0_1, .int .i64 a0_2]) (t := 43) ?hr ?_; (case hd => rfl); (case hg => rfl); (case hr => first | (go_simp; done) | (go_simp; rfl)); intro gb336 hg w3 hbox hb; have n0_ := bs_ HB hb; have n1_ := Aside0.mk (hbox); have n2_ := ge_ HB hg; have n3_ := ge_ HB hg; clear HB; have HB := n0_; have BK336 := n1_; have GW336 := n2_; have GE336 := n3_; clear n0_ n1_ n2_ n3_; clear hb hbox hg) | ((with_reducible refine gate_dst (N := 2) rfl ?_); refine box_event ?hg (N := 2) ?hd (cs := #[.bool false, .slice none 0 0, .int .i64 0]) (t := 43) ?hr ?_; (case hd => rfl); (case hg => rfl); (case hr => first | (go_simp; done) | (go_simp; rfl)); intro gb337 hg w4 hbox hb; have n0_ := kb_ BK336 hb; have n1_ := bs_ HB hb; have n2_ := Aside0.mk (hbox); have n3_ := ge_ HB hg; have n4_ := ge_ HB hg; have n5_ := nlt_ BK336 hg; have n6_ := ngt_ BK336 hg; clear BK336; clear HB; have BK336 := n0_; have HB := n1_; have BK337 := n2_; have GW337 := n3_; have GE337 := n4_; have NB336_337 := n5_; have NB337_336 := n6_; clear n0_ n1_ n2_ n3_ n4_ n5_ n6_; clear hb hbox hg; have hnb5 := NB336_337.out; have hnc5 := NB337_336.out; have hcz6_0 : w4.cell? ⟨gb336, 0, none⟩ = some (.bool a0_0) := (blk_cell BK336.out 0).trans rfl; have hcz6_1 : w4.cell? ⟨gb336, 1, none⟩ = some (.slice A0_1 l0_1.length c0_1) := (blk_cell BK336.out 1).trans rfl; have hcz6_2 : w4.cell? ⟨gb336, 2, none⟩ = some (.int .i64 a0_2) := (blk_cell BK336.out 2).trans rfl; have hfz6_0 := blk_frozen BK336.out 0; have hfz6_1 := blk_frozen BK336.out 1; have hfz6_2 := blk_frozen BK336.out 2) | ((with_reducible refine gate_callee (f := 76) rfl ?_); refine goesM (some 10) Try.func76 #[.bool a0_0, .slice A0_1 l0_1.length c0_1, .int .i64 a0_2] ?_; (with_reducible refine (r03_Form.calls k a0_0 _ _ l0_1 a0_2 t338 t339 t342 t343 _ ?side1 ?side2 A2.out).mono ?_); (case side1 => repeat (first | exact (Kd.C_below HR0_1.out HB.out) | (with_reducible first | apply cA | apply cN | apply cD))); (case side2 => exact HC0_1.out); rintro e w7 ⟨v340, rfl, ho0, hb⟩; refine ⟨_, rfl, ?_⟩; have n0_ := Aside0.mk (Kd.R_lower ho0 (below_size (bl_ HB))); have n1_ := kb_ BK336 hb; have n2_ := kb_ BK337 hb; have n3_ := bs_ HB hb; clear BK336; clear BK337; clear HB; have HO341 := n0_; have BK336 := n1_; have BK337 := n2_; have HB := n3_; clear n0_ n1_ n2_ n3_; (try clear hb); (try clear hb2); (try clear hk); (try clear hi); (try clear ho0); have hcz8_0 : w7.cell? ⟨gb337, 0, none⟩ = some (.bool false) := (blk_cell BK337.out 0).trans rfl; have hcz8_1 : w7.cell? ⟨gb337, 1, none⟩ = some (.slice none 0 0) := (blk_cell BK337.out 1).trans rfl; have hcz8_2 : w7.cell? ⟨gb337, 2, none⟩ = some (.int .i64 0) := (blk_cell BK337.out 2).trans rfl; have hfz8_0 := blk_frozen BK337.out 0; have hfz8_1 := blk_frozen BK337.out 1; have hfz8_2 := blk_frozen BK337.out 2; obtain ⟨Ao9, co9, eo9⟩ := Kd.R_slice HO341.out; subst eo9))
 refine bodyPost_ret (results_ct rfl _ _ gb337 43 #[.bool t338, .slice Ao9 t339.length co9, .int .i64 t342] (0, 0) _ rfl (by (with_reducible repeat (first | apply bN | apply bD | apply bA)); refine blk_put (cs := #[.bool t338, .slice Ao9 t339.length co9, .int .i64 0]) ?_ 2 _ rfl; (with_reducible repeat (first | apply bN | apply bD | apply bA)); refine blk_put (cs := #[.bool t338, .slice none 0 0, .int .i64 0]) ?_ 1 _ rfl; (with_reducible repeat (first | apply bN | apply bD | apply bA)); refine blk_put (cs := #[.bool false, .slice none 0 0, .int .i64 0]) ?_ 0 _ rfl; exact bk_ BK337) Try.underlying43 rfl (by kernel_rfl)) rfl ?_
 exact ⟨_, by first | rfl | (simp [errW_none, errW_some] <;> rfl) | (simp [*, errW_none, errW_some] <;> rfl), by (with_reducible repeat (first | apply rA | apply rN | apply rD)); exact Kd.R_mono (Kd.R_far (p := ⟨gb337, 2, none⟩) (Kd.R_far (p := ⟨gb337, 1, none⟩) (Kd.R_far (p := ⟨gb337, 0, none⟩) (Kd.R_types HO341.out BK337.out (by decide)) (fun _ hk => hk.2) (.bool t338)) (fun _ hk => hk.2) (.slice Ao9 t339.length co9)) (fun _ hk => hk.2) (.int .i64 t342)) (fun _ hk => trivial), bl_ HB⟩

/-! ### r03_told: function 59 -/
def r03_told.f (k : Nat) (a0 : Bool) (l1 : List Int) (a2 : Int) : Option (Bool × List Int × Int × Int) := (r03_Form.f k a0 l1 a2).bind fun bt345 => (if bt345.2.2.2 = true then (some (bt345.1, bt345.2.1, bt345.2.2.1, 0)) else (some (false, ([] : List Int), 0, 2)))
theorem r03_told.mono : ∀ a0 a1 a2 k, LeO (r03_told.f k a0 a1 a2) (r03_told.f (k + 1) a0 a1 a2) := by
 intro a0 a1 a2 k
 unfold r03_told.f
 repeat' first
   | (with_reducible exact r03_Form.mono _ _ _ _)
   | (with_reducible exact LeO.refl _)
   | (with_reducible exact LeO.none _)
   | (with_reducible refine LeO.ite ?_ ?_)
   | (with_reducible refine LeO.bind ?_ (fun _ => ?_))
   | exact r03_Form.mono _ _ _ _
   | exact LeO.none _
   | refine LeO.ite ?_ ?_
   | refine LeO.bind ?_ (fun _ => ?_)
set_option maxHeartbeats 3000000 in
set_option maxRecDepth 100000 in
theorem r03_told.calls (k : Nat) (a0 : Bool) (A1 : Option Addr) (c1 : Nat) (l1 : List Int) (a2 : Int) (r1 : Bool) (r2 : List Int) (r3 : Int) (r4 : Int) (w : World) (hr1 : Kd.C (Kd.int .u32) w A1 l1.length l1) (hc1 : l1.length ≤ c1) (h : r03_told.f k a0 l1 a2 = some (r1, r2, r3, r4)) :
  Calls Try.prog 59 #[.bool a0, .slice A1 l1.length c1, .int .i64 a2] w fun e w' => ∃ v1_ : Value, e = .returned (.tuple #[.agg #[.bool r1, v1_, .int .i64 r3], .int .i64 r4]) ∧ Kd.R (Kd.int .u32) 72 w' w.heap.size (fun _ => True) v1_ r2 ∧ Below w.heap.size w w' := by
 have hu43 := Try.underlying43
 have HR1 := Aside0.mk hr1
 have HC1 := Aside0.mk hc1
 clear hr1 hc1
 have HB := Aside0.mk (Below.refl w.heap.size w)
 have H : ((r03_Form.f k a0 l1 a2).bind fun bt345 => (if bt345.2.2.2 = true then (some (bt345.1, bt345.2.1, bt345.2.2.1, 0)) else (some (false, ([] : List Int), 0, 2)))) = some (r1, r2, r3, r4) := h
 clear h
 obtain ⟨⟨t345, t346, t349, t350⟩, A4, H⟩ := ob_ H
 try dsimp only at H
 by_cases c5 : t350 = true
 ·subst c5
  have H1 : (some (t345, t346, t349, 0)) = some (r1, r2, r3, r4) := by rw [if_pos rfl] at H; exact H
  clear H
  have H := H1
  clear H1
  simp only [Option.some.injEq, Prod.mk.injEq] at H
  obtain ⟨rfl, rfl, rfl, rfl⟩ := H
  go_enter Try.func59, Try.ntmps59
  go_wp2_with (first | ((with_reducible refine gate_dst (N := 6) rfl ?_); refine box_event ?hg (N := 6) ?hd (cs := #[.bool false, .slice none 0 0, .int .i64 0]) (t := 43) ?hr ?_; (case hd => rfl); (case hg => rfl); (case hr => first | (go_simp; done) | (go_simp; rfl)); intro gb344 hg w6 hbox hb; have n0_ := bs_ HB hb; have n1_ := Aside0.mk (hbox); have n2_ := ge_ HB hg; have n3_ := ge_ HB hg; clear HB; have HB := n0_; have BK344 := n1_; have GW344 := n2_; have GE344 := n3_; clear n0_ n1_ n2_ n3_; clear hb hbox hg) | ((with_reducible refine gate_callee (f := 76) rfl ?_); refine goesM (some 14) Try.func76 #[.bool a0, .slice A1 l1.length c1, .int .i64 a2] ?_; (with_reducible refine (r03_Form.calls k a0 _ _ l1 a2 t345 t346 t349 true _ ?side1 ?side2 A4.out).mono ?_); (case side1 => repeat (first | exact (Kd.C_below HR1.out HB.out) | (with_reducible first | apply cA | apply cN | apply cD))); (case side2 => exact HC1.out); rintro e w7 ⟨v347, rfl, ho0, hb⟩; refine ⟨_, rfl, ?_⟩; have n0_ := Aside0.mk (Kd.R_lower ho0 (below_size (bl_ HB))); have n1_ := kb_ BK344 hb; have n2_ := bs_ HB hb; clear BK344; clear HB; have HO348 := n0_; have BK344 := n1_; have HB := n2_; clear n0_ n1_ n2_; (try clear hb); (try clear hb2); (try clear hk); (try clear hi); (try clear ho0)) | ((with_reducible refine gate_dst (N := 8) rfl ?_); refine box_event ?hg (N := 8) ?hd (cs := #[.bool false, .slice none 0 0, .int .i64 0]) (t := 43) ?hr ?_; (case hd => rfl); (case hg => rfl); (case hr => first | (go_simp; done) | (go_simp; rfl)); intro gb351 hg w8 hbox hb; have n0_ := Aside0.mk (Kd.R_below (rr_ HO348) hb); have n1_ := kb_ BK344 hb; have n2_ := bs_ HB hb; have n3_ := Aside0.mk (hbox); have n4_ := ge_ HB hg; have n5_ := ge_ HB hg; have n6_ := nlt_ BK344 hg; have n7_ := ngt_ BK344 hg; clear HO348; clear BK344; clear HB; have HO348 := n0_; have BK344 := n1_; have HB := n2_; have BK351 := n3_; have GW351 := n4_; have GE351 := n5_; have NB344_351 := n6_; have NB351_344 := n7_; clear n0_ n1_ n2_ n3_ n4_ n5_ n6_ n7_; clear hb hbox hg; have hnb9 := NB351_344.out; have hnc9 := NB344_351.out; have hcz10_0 : w8.cell? ⟨gb351, 0, none⟩ = some (.bool false) := (blk_cell BK351.out 0).trans rfl; have hcz10_1 : w8.cell? ⟨gb351, 1, none⟩ = some (.slice none 0 0) := (blk_cell BK351.out 1).trans rfl; have hcz10_2 : w8.cell? ⟨gb351, 2, none⟩ = some (.int .i64 0) := (blk_cell BK351.out 2).trans rfl; have hfz10_0 := blk_frozen BK351.out 0; have hfz10_1 := blk_frozen BK351.out 1; have hfz10_2 := blk_frozen BK351.out 2; obtain ⟨Ao11, co11, eo11⟩ := Kd.R_slice HO348.out; subst eo11; have hcz12_0 : w8.cell? ⟨gb344, 0, none⟩ = some (.bool false) := (blk_cell BK344.out 0).trans rfl; have hcz12_1 : w8.cell? ⟨gb344, 1, none⟩ = some (.slice none 0 0) := (blk_cell BK344.out 1).trans rfl; have hcz12_2 : w8.cell? ⟨gb344, 2, none⟩ = some (.int .i64 0) := (blk_cell BK344.out 2).trans rfl; have hfz12_0 := blk_frozen BK344.out 0; have hfz12_1 := blk_frozen BK344.out 1; have hfz12_2 := blk_frozen BK344.out 2))
  refine bodyPost_ret (results_ct rfl _ _ gb344 43 #[.bool t345, .slice Ao11 t346.length co11, .int .i64 t349] (0, 0) _ rfl (by (with_reducible repeat (first | apply bN | apply bD | apply bA)); refine blk_put (cs := #[.bool t345, .slice Ao11 t346.length co11, .int .i64 0]) ?_ 2 _ rfl; (with_reducible repeat (first | apply bN | apply bD | apply bA)); refine blk_put (cs := #[.bool t345, .slice none 0 0, .int .i64 0]) ?_ 1 _ rfl; (with_reducible repeat (first | apply bN | apply bD | apply bA)); refine blk_put (cs := #[.bool false, .slice none 0 0, .int .i64 0]) ?_ 0 _ rfl; (with_reducible repeat (first | apply bN | apply bD | apply bA)); refine blk_far ?_ NB344_351.out _; (with_reducible repeat (first | apply bN | apply bD | apply bA)); refine blk_far ?_ NB344_351.out _; (with_reducible repeat (first | apply bN | apply bD | apply bA)); refine blk_far ?_ NB344_351.out _; exact bk_ BK344) Try.underlying43 rfl (by kernel_rfl)) rfl ?_
  exact ⟨_, by first | rfl | (simp [errW_none, errW_some] <;> rfl) | (simp [*, errW_none, errW_some] <;> rfl), by (with_reducible repeat (first | apply rA | apply rN | apply rD)); exact Kd.R_mono (Kd.R_far (p := ⟨gb344, 2, none⟩) (Kd.R_far (p := ⟨gb344, 1, none⟩) (Kd.R_far (p := ⟨gb344, 0, none⟩) (Kd.R_far (p := ⟨gb351, 2, none⟩) (Kd.R_far (p := ⟨gb351, 1, none⟩) (Kd.R_far (p := ⟨gb351, 0, none⟩) (Kd.R_types (Kd.R_types HO348.out BK351.out (by decide)) BK344.out (by decide)) (fun _ hk => hk.1.2) (.bool t345)) (fun _ hk => hk.1.2) (.slice Ao11 t346.length co11)) (fun _ hk => hk.1.2) (.int .i64 t349)) (fun _ hk => hk.2) (.bool t345)) (fun _ hk => hk.2) (.slice Ao11 t346.length co11)) (fun _ hk => hk.2) (.int .i64 t349)) (fun _ hk => trivial), bl_ HB⟩
 ·replace c5 := Bool.eq_false_iff.mpr c5
  subst c5
  have H1 : (some (false, ([] : List Int), 0, 2)) = some (r1, r2, r3, r4) := by rw [if_neg (show ¬ (false = true) by decide)] at H; exact H
  clear H
  have H := H1
  clear H1
  simp only [Option.some.injEq, Prod.mk.injEq] at H
  obtain ⟨rfl, rfl, rfl, rfl⟩ := H
  go_enter Try.func59, Try.ntmps59
  go_wp2_with (first | ((with_reducible refine gate_dst (N := 6) rfl ?_); refine box_event ?hg (N := 6) ?hd (cs := #[.bool false, .slice none 0 0, .int .i64 0]) (t := 43) ?hr ?_; (case hd => rfl); (case hg => rfl); (case hr => first | (go_simp; done) | (go_simp; rfl)); intro gb344 hg w13 hbox hb; have n0_ := bs_ HB hb; have n1_ := Aside0.mk (hbox); have n2_ := ge_ HB hg; have n3_ := ge_ HB hg; clear HB; have HB := n0_; have BK344 := n1_; have GW344 := n2_; have GE344 := n3_; clear n0_ n1_ n2_ n3_; clear hb hbox hg) | ((with_reducible refine gate_callee (f := 76) rfl ?_); refine goesM (some 14) Try.func76 #[.bool a0, .slice A1 l1.length c1, .int .i64 a2] ?_; (with_reducible refine (r03_Form.calls k a0 _ _ l1 a2 t345 t346 t349 false _ ?side1 ?side2 A4.out).mono ?_); (case side1 => repeat (first | exact (Kd.C_below HR1.out HB.out) | (with_reducible first | apply cA | apply cN | apply cD))); (case side2 => exact HC1.out); rintro e w14 ⟨v347, rfl, ho0, hb⟩; refine ⟨_, rfl, ?_⟩; have n0_ := Aside0.mk (Kd.R_lower ho0 (below_size (bl_ HB))); have n1_ := kb_ BK344 hb; have n2_ := bs_ HB hb; clear BK344; clear HB; have HO348 := n0_; have BK344 := n1_; have HB := n2_; clear n0_ n1_ n2_; (try clear hb); (try clear hb2); (try clear hk); (try clear hi); (try clear ho0)) | ((with_reducible refine gate_dst (N := 8) rfl ?_); refine box_event ?hg (N := 8) ?hd (cs := #[.bool false, .slice none 0 0, .int .i64 0]) (t := 43) ?hr ?_; (case hd => rfl); (case hg => rfl); (case hr => first | (go_simp; done) | (go_simp; rfl)); intro gb351 hg w15 hbox hb; have n0_ := Aside0.mk (Kd.R_below (rr_ HO348) hb); have n1_ := kb_ BK344 hb; have n2_ := bs_ HB hb; have n3_ := Aside0.mk (hbox); have n4_ := ge_ HB hg; have n5_ := ge_ HB hg; have n6_ := nlt_ BK344 hg; have n7_ := ngt_ BK344 hg; clear HO348; clear BK344; clear HB; have HO348 := n0_; have BK344 := n1_; have HB := n2_; have BK351 := n3_; have GW351 := n4_; have GE351 := n5_; have NB344_351 := n6_; have NB351_344 := n7_; clear n0_ n1_ n2_ n3_ n4_ n5_ n6_ n7_; clear hb hbox hg; have hnb16 := NB351_344.out; have hnc16 := NB344_351.out; have hcz17_0 : w15.cell? ⟨gb351, 0, none⟩ = some (.bool false) := (blk_cell BK351.out 0).trans rfl; have hcz17_1 : w15.cell? ⟨gb351, 1, none⟩ = some (.slice none 0 0) := (blk_cell BK351.out 1).trans rfl; have hcz17_2 : w15.cell? ⟨gb351, 2, none⟩ = some (.int .i64 0) := (blk_cell BK351.out 2).trans rfl; have hfz17_0 := blk_frozen BK351.out 0; have hfz17_1 := blk_frozen BK351.out 1; have hfz17_2 := blk_frozen BK351.out 2; obtain ⟨Ao18, co18, eo18⟩ := Kd.R_slice HO348.out; subst eo18; have hcz19_0 : w15.cell? ⟨gb344, 0, none⟩ = some (.bool false) := (blk_cell BK344.out 0).trans rfl; have hcz19_1 : w15.cell? ⟨gb344, 1, none⟩ = some (.slice none 0 0) := (blk_cell BK344.out 1).trans rfl; have hcz19_2 : w15.cell? ⟨gb344, 2, none⟩ = some (.int .i64 0) := (blk_cell BK344.out 2).trans rfl; have hfz19_0 := blk_frozen BK344.out 0; have hfz19_1 := blk_frozen BK344.out 1; have hfz19_2 := blk_frozen BK344.out 2))
  refine bodyPost_ret (results_ct rfl _ _ gb344 43 #[.bool false, .slice none 0 0, .int .i64 0] (0, 0) _ rfl (by (with_reducible repeat (first | apply bN | apply bD | apply bA)); refine blk_put (cs := #[.bool false, .slice none 0 0, .int .i64 0]) ?_ 2 _ rfl; (with_reducible repeat (first | apply bN | apply bD | apply bA)); refine blk_put (cs := #[.bool false, .slice none 0 0, .int .i64 0]) ?_ 1 _ rfl; (with_reducible repeat (first | apply bN | apply bD | apply bA)); refine blk_put (cs := #[.bool false, .slice none 0 0, .int .i64 0]) ?_ 0 _ rfl; (with_reducible repeat (first | apply bN | apply bD | apply bA)); refine blk_far ?_ NB344_351.out _; (with_reducible repeat (first | apply bN | apply bD | apply bA)); refine blk_far ?_ NB344_351.out _; (with_reducible repeat (first | apply bN | apply bD | apply bA)); refine blk_far ?_ NB344_351.out _; exact bk_ BK344) Try.underlying43 rfl (by kernel_rfl)) rfl ?_
  exact ⟨_, by first | rfl | (simp [errW_none, errW_some] <;> rfl) | (simp [*, errW_none, errW_some] <;> rfl), by first | exact Kd.R_nil _ _ _ _ _ | exact Kd.N_nil _ _ _ _ _ | exact Kd.V_nil _ _ _ _ _ | exact Kd.Q_nil _ _ _ _ _ | exact Kd.S_nil _ _ _ _ _, bl_ HB⟩

end Go.Proofs.Ytdemanikmaafeaa.Pr
-- written by this session's own program (wip/fprint.py), which widens the kit's print by floats
namespace Go.Proofs.Ytdemanikmaafeaa.Pr
open Go.RowKit Go.Proofs.YtdemanikmaafeaaW.PrintWords Go.Proofs.YtdemanikmaafeaaW.PrintLast Go.Proofs.YtdemanikmaafeaaW.PrintMore
attribute [local go_sem] max2_int min2_int max_two min_two max_three min_three max_four min_four   -- for this text's walks alone
set_option linter.unusedVariables false
set_option linter.unusedSimpArgs false

/-! ### r02_Plus: function 60 -/
mutual
def r02_Plus.l0 : Nat → List Int → List Int → List Int → Int → Int → Option (List Int)
 | 0, _, _, _, _, _ => none
 | k + 1, x0, x1, x5, x6, x7 => if x7 < (x0.length : Int) then (r02_Plus.j1 k x0 x1 x5 x6 x7 true) else (if x7 < (x1.length : Int) then (r02_Plus.j1 k x0 x1 x5 x6 x7 true) else (r02_Plus.j1 k x0 x1 x5 x6 x7 (decide (x6 > 0))))
def r02_Plus.j1 : Nat → List Int → List Int → List Int → Int → Int → Bool → Option (List Int)
 | 0, _, _, _, _, _, _ => none
 | k + 1, x0, x1, x5, x6, x7, x22 => if x22 = true then ((r02_at.f x0 x7).bind fun t352 => ((r02_at.f x1 x7).bind fun t353 => (if x5.length < 35184372088832 then (r02_Plus.l0 k x0 x1 (x5 ++ [(IntKind.u64.wrap ((IntKind.u64.wrap (t352 + t353)) + x6)) % 4294967296]) ((IntKind.u64.wrap ((IntKind.u64.wrap (t352 + t353)) + x6)) / 4294967296) (wrap64 (x7 + 1))) else (none)))) else ((r02_Norm.f k x5).bind fun t357 => (some t357))
end
def r02_Plus.f (k : Nat) (l0 : List Int) (l1 : List Int) : Option (List Int) := r02_Plus.l0 k l0 l1 ([] : List Int) 0 0
theorem r02_Plus.mono_l : ∀ k, (∀ y0 y1 y2 y3 y4, LeO (r02_Plus.l0 k y0 y1 y2 y3 y4) (r02_Plus.l0 (k + 1) y0 y1 y2 y3 y4)) ∧ (∀ y0 y1 y2 y3 y4 y5, LeO (r02_Plus.j1 k y0 y1 y2 y3 y4 y5) (r02_Plus.j1 (k + 1) y0 y1 y2 y3 y4 y5))
 | 0 => ⟨fun _ _ _ _ _ r h => by simp [r02_Plus.l0] at h, fun _ _ _ _ _ _ r h => by simp [r02_Plus.j1] at h⟩
 | k + 1 => by
  obtain ⟨ih0, ih1⟩ := r02_Plus.mono_l k
  refine ⟨?_, ?_⟩
  ·intro y0 y1 y2 y3 y4
   unfold r02_Plus.l0
   repeat' first
   | (with_reducible exact ih0 _ _ _ _ _)
   | (with_reducible exact ih1 _ _ _ _ _ _)
   | (with_reducible exact r02_Norm.mono _ _)
   | (with_reducible exact LeO.refl _)
   | (with_reducible exact LeO.none _)
   | (with_reducible refine LeO.ite ?_ ?_)
   | (with_reducible refine LeO.bind ?_ (fun _ => ?_))
   | exact ih0 _ _ _ _ _
   | exact ih1 _ _ _ _ _ _
   | exact r02_Norm.mono _ _
   | exact LeO.none _
   | refine LeO.ite ?_ ?_
   | refine LeO.bind ?_ (fun _ => ?_)
  ·intro y0 y1 y2 y3 y4 y5
   unfold r02_Plus.j1
   repeat' first
   | (with_reducible exact ih0 _ _ _ _ _)
   | (with_reducible exact ih1 _ _ _ _ _ _)
   | (with_reducible exact r02_Norm.mono _ _)
   | (with_reducible exact LeO.refl _)
   | (with_reducible exact LeO.none _)
   | (with_reducible refine LeO.ite ?_ ?_)
   | (with_reducible refine LeO.bind ?_ (fun _ => ?_))
   | exact ih0 _ _ _ _ _
   | exact ih1 _ _ _ _ _ _
   | exact r02_Norm.mono _ _
   | exact LeO.none _
   | refine LeO.ite ?_ ?_
   | refine LeO.bind ?_ (fun _ => ?_)
theorem r02_Plus.mono : ∀ a0 a1 k, LeO (r02_Plus.f k a0 a1) (r02_Plus.f (k + 1) a0 a1) := by
 intro a0 a1 k
 obtain ⟨ih0, ih1⟩ := r02_Plus.mono_l k
 unfold r02_Plus.f
 repeat' first
   | (with_reducible exact ih0 _ _ _ _ _)
   | (with_reducible exact ih1 _ _ _ _ _ _)
   | (with_reducible exact r02_Norm.mono _ _)
   | (with_reducible exact LeO.refl _)
   | (with_reducible exact LeO.none _)
   | (with_reducible refine LeO.ite ?_ ?_)
   | (with_reducible refine LeO.bind ?_ (fun _ => ?_))
   | exact ih0 _ _ _ _ _
   | exact ih1 _ _ _ _ _ _
   | exact r02_Norm.mono _ _
   | exact LeO.none _
   | refine LeO.ite ?_ ?_
   | refine LeO.bind ?_ (fun _ => ?_)
set_option maxHeartbeats 3000000 in
set_option maxRecDepth 100000 in
theorem r02_Plus.calls (k : Nat) (A0 : Option Addr) (c0 : Nat) (l0 : List Int) (A1 : Option Addr) (c1 : Nat) (l1 : List Int) (r : List Int) (w : World) (hr0 : Kd.C (Kd.int .u32) w A0 l0.length l0) (hc0 : l0.length ≤ c0) (hr1 : Kd.C (Kd.int .u32) w A1 l1.length l1) (hc1 : l1.length ≤ c1) (h : r02_Plus.f k l0 l1 = some r) :
  Calls Try.prog 60 #[.slice A0 l0.length c0, .slice A1 l1.length c1] w fun e w' => ∃ v0_ : Value, e = .returned (v0_) ∧ Kd.R (Kd.int .u32) 72 w' w.heap.size (fun _ => True) v0_ r ∧ Below w.heap.size w w' := by
 have HR0 := Aside0.mk hr0
 have HC0 := Aside0.mk hc0
 clear hr0 hc0
 have HR1 := Aside0.mk hr1
 have HC1 := Aside0.mk hc1
 clear hr1 hc1
 have HB := Aside0.mk (Below.refl w.heap.size w)
 have H : (r02_Plus.l0 k l0 l1 ([] : List Int) 0 0) = some r := h
 clear h
 have H' := Aside0.mk H
 clear H
 go_enter Try.func60, Try.ntmps60
 go_wp2
 go_loopg [5, 6, 7] k (fun kq v5 v6 v7 w' => ∃ (x5_1 : List Int) (x6_1 : Int) (x7_1 : Int), v6 = .int .u64 x6_1 ∧ v7 = .int .i64 x7_1 ∧ Aside0 (r02_Plus.l0 kq l0 l1 x5_1 x6_1 x7_1 = some r) ∧ Aside0 (kq ≤ k) ∧ Aside0 (Kd.R (Kd.int .u32) 72 w' w.heap.size (fun _ => True) v5 x5_1) ∧ Aside0 (Below w.heap.size w w'))
 case atStart => exact ⟨(([] : List Int)), (0), (0), (by first | rfl | (simp; done) | (simp [*]; done)), (by first | rfl | (simp; done) | (simp [*]; done)), H', ⟨Nat.le_refl _⟩, ⟨by first | exact Kd.R_nil _ _ _ _ _ | exact Kd.N_nil _ _ _ _ _ | exact Kd.V_nil _ _ _ _ _ | exact Kd.Q_nil _ _ _ _ _ | exact Kd.S_nil _ _ _ _ _⟩, ⟨bl_ HB⟩⟩
 case round =>
  clear H'
  try clear c1
  try clear p2
  obtain ⟨x5_1, x6_1, x7_1, rfl, rfl, HA, HK1, HO_5, HB⟩ := hrel
  cases gk with
  | zero => exact absurd HA.out (by simp [r02_Plus.l0])
  | succ k1 =>
   have H := HA.out
   clear HA
   simp only [r02_Plus.l0] at H
   have HC3 := Aside0.mk H
   clear H
   go_upto_region 4 with (fail)
   go_cut [22] (fun v22 wc => ∃ (kq : Nat) (x22_2 : Bool), v22 = .bool x22_2 ∧ Aside0 (r02_Plus.j1 kq l0 l1 x5_1 x6_1 x7_1 x22_2 = some r) ∧ Aside0 (kq ≤ k1) ∧ Aside0 (Kd.R (Kd.int .u32) 72 wc w.heap.size (fun _ => True) u5 x5_1) ∧ Aside0 (Below w.heap.size w wc))
   case first =>
    have H := HC3.out
    clear HC3
    by_cases c4 : x7_1 < (l0.length : Int)
    ·rw [if_pos c4] at H
     have c4b0 : decide (x7_1 < (l0.length : Int)) = true := decide_eq_true c4
     clear c4
     (first | rw [c4b0] | (simp only [i64_w, i32_w]; rw [c4b0]) | skip)
     have H' := Aside0.mk H
     clear H
     go_wp2
     go_meet
     case rel => exact ⟨_, (true), (by first | rfl | (simp; done) | (simp [*]; done)), H', ⟨by have := HK1.out; first | omega | exact Nat.le_refl _⟩, ⟨rr_ HO_5⟩, ⟨bl_ HB⟩⟩
    ·rw [if_neg c4] at H
     have c4b0 : decide (x7_1 < (l0.length : Int)) = false := decide_eq_false c4
     clear c4
     (first | rw [c4b0] | (simp only [i64_w, i32_w]; rw [c4b0]) | skip)
     by_cases c5 : x7_1 < (l1.length : Int)
     ·rw [if_pos c5] at H
      have c5b0 : decide (x7_1 < (l1.length : Int)) = true := decide_eq_true c5
      clear c5
      have H' := Aside0.mk H
      clear H
      go_wp2
      go_meet
      case rel => exact ⟨_, (true), (by first | rfl | (simp; done) | (simp [*]; done)), H', ⟨by have := HK1.out; first | omega | exact Nat.le_refl _⟩, ⟨rr_ HO_5⟩, ⟨bl_ HB⟩⟩
     ·rw [if_neg c5] at H
      have c5b0 : decide (x7_1 < (l1.length : Int)) = false := decide_eq_false c5
      clear c5
      have H' := Aside0.mk H
      clear H
      go_wp2
      go_meet
      case rel => exact ⟨_, (decide (x6_1 > 0)), (by first | rfl | (simp; done) | (simp [*]; done)), H', ⟨by have := HK1.out; first | omega | exact Nat.le_refl _⟩, ⟨rr_ HO_5⟩, ⟨bl_ HB⟩⟩
   case rest =>
    clear HC3
    try clear c1
    try clear p2
    try clear c4
    try clear c4b0
    try clear c5
    try clear c5b0
    try clear p2
    obtain ⟨kq, x22_2, rfl, HA, HJ2, HO_5, HB⟩ := hcut
    cases kq with
    | zero => exact absurd HA.out (by simp [r02_Plus.j1])
    | succ kj2 =>
     have H := HA.out
     clear HA
     simp only [r02_Plus.j1] at H
     by_cases c6 : x22_2 = true
     ·subst c6
      have H1 : ((r02_at.f l0 x7_1).bind fun t352 => ((r02_at.f l1 x7_1).bind fun t353 => (if x5_1.length < 35184372088832 then (r02_Plus.l0 kj2 l0 l1 (x5_1 ++ [(IntKind.u64.wrap ((IntKind.u64.wrap (t352 + t353)) + x6_1)) % 4294967296]) ((IntKind.u64.wrap ((IntKind.u64.wrap (t352 + t353)) + x6_1)) / 4294967296) (wrap64 (x7_1 + 1))) else (none)))) = some r := by rw [if_pos rfl] at H; exact H
      clear H
      have H := H1
      clear H1
      obtain ⟨t352, A7, H⟩ := ob_ H
      try dsimp only at H
      obtain ⟨t353, A8, H⟩ := ob_ H
      try dsimp only at H
      by_cases c9 : x5_1.length < 35184372088832
      ·rw [if_pos c9] at H
       have LMc9 := Aside0.mk c9
       clear c9
       obtain ⟨y354, hy354⟩ : ∃ y_ : List Int, y_ = (x5_1 ++ [(IntKind.u64.wrap ((IntKind.u64.wrap (t352 + t353)) + x6_1)) % 4294967296]) := ⟨_, rfl⟩
       replace H : (r02_Plus.l0 kj2 l0 l1 y354 ((IntKind.u64.wrap ((IntKind.u64.wrap (t352 + t353)) + x6_1)) / 4294967296) (wrap64 (x7_1 + 1))) = some r := by first | (rw [hy354]; with_reducible exact H) | (have H2_ := (Option.bind_some _ _).symm.trans H; rw [hy354]; with_reducible exact H2_) | (have H2_ := (Option.bind_some _ _).symm.trans H; with_reducible exact H2_) | with_reducible exact H | (rw [hy354]; exact H) | exact H
       have Ny354 := Aside0.mk hy354
       clear hy354
       have H' := Aside0.mk H
       clear H
       go_wp2_with (first | ((with_reducible refine gate_callee (f := 79) rfl ?_); refine goesM (some 27) Try.func79 #[.slice A0 l0.length c0, .int .i64 x7_1] ?_; (with_reducible refine (r02_at.calls _ _ l0 x7_1 t352 _ ?side1 ?side2 A7.out).mono ?_); (case side1 => repeat (first | exact (Kd.C_below HR0.out HB.out) | (with_reducible first | apply cA | apply cN | apply cD))); (case side2 => exact HC0.out); rintro e w' ⟨rfl, ⟨nd, rfl⟩⟩; refine ⟨_, rfl, ?_⟩) | ((with_reducible refine gate_callee (f := 79) rfl ?_); refine goesM (some 30) Try.func79 #[.slice A1 l1.length c1, .int .i64 x7_1] ?_; (with_reducible refine (r02_at.calls _ _ l1 x7_1 t353 _ ?side1 ?side2 A8.out).mono ?_); (case side1 => repeat (first | exact (Kd.C_below HR1.out (bl_ HB)) | (with_reducible first | apply cA | apply cN | apply cD))); (case side2 => exact HC1.out); rintro e w' ⟨rfl, ⟨nd, rfl⟩⟩; refine ⟨_, rfl, ?_⟩) | ((with_reducible refine gate_builtin (b := .append) (xs := #[.tmp 34, .tmp 37]) rfl ?_); (try (refine gate_guard (by rfl) ?_; dsimp only)); at_builtin; refine Kd.R_append (Kd.int .u32) (w0 := w) w.heap.size rfl (.tmp 34) (.tmp 37) 41 72 (.int .u32 0) 4 rfl Try.underlying41 info72 rfl (by decide) (by omega) u5 x5_1 ((IntKind.u64.wrap ((IntKind.u64.wrap (t352 + t353)) + x6_1)) % 4294967296) [.int .u32 ((IntKind.u64.wrap ((IntKind.u64.wrap (t352 + t353)) + x6_1)) % 4294967296)] (fun _ => True) (fun _ => False) rfl rfl ?aP (fun _ hk => hk.elim) ?aF ?aO ?aB ?aS ?aL ?_; (case aP => exact rfl); (case aB => exact (bl_ HB)); (case aF => exact (fun _ _ => trivial)); (case aO => exact (rr_ HO_5)); (case aS => exact (below_size (bl_ HB))); (case aL => have := LMc9.out; omega); intro v355 w10 ho hb hg hat; rw [← Ny354.out] at ho; have n0_ := Aside0.mk (hb); have n1_ := Aside0.mk (ho); clear HB; clear HO_5; have HB := n0_; have HO356 := n1_; clear n0_ n1_; clear ho hb hg hat))
       go_roundg kj2
       case measure => have := HK1.out; have := HJ2.out; omega
       case rel => exact ⟨(y354), ((IntKind.u64.wrap ((IntKind.u64.wrap (t352 + t353)) + x6_1)) / 4294967296), (wrap64 (x7_1 + 1)), (by first | rfl | (simp; done) | (simp [*]; done)), (by first | rfl | (simp; done) | (simp [*]; done)), H', ⟨by have := HK1.out; have := HJ2.out; omega⟩, ⟨rr_ HO356⟩, ⟨bl_ HB⟩⟩
      ·rw [if_neg c9] at H
       exact absurd H (by simp)
     ·replace c6 := Bool.eq_false_iff.mpr c6
      subst c6
      have H1 : ((r02_Norm.f kj2 x5_1).bind fun t357 => (some t357)) = some r := by rw [if_neg (show ¬ (false = true) by decide)] at H; exact H
      clear H
      have H := H1
      clear H1
      obtain ⟨t357, A11, H⟩ := ob_ H
      try dsimp only at H
      obtain rfl := Option.some.inj H
      obtain ⟨Ao12, co12, eo12⟩ := Kd.R_slice HO_5.out
      subst eo12
      go_wp2_with (first | ((with_reducible refine gate_callee (f := 78) rfl ?_); refine goesM (some 42) Try.func78 #[.slice Ao12 x5_1.length co12] ?_; (with_reducible refine (r02_Norm.calls kj2 _ _ x5_1 t357 _ ?side1 ?side2 A11.out).mono ?_); (case side1 => repeat (first | exact (Kd.R_reads' HO_5.out).2.2 | (with_reducible first | apply cA | apply cN | apply cD))); (case side2 => exact (Kd.R_reads' HO_5.out).2.1); rintro e w13 ⟨v358, rfl, ho0, hb⟩; refine ⟨_, rfl, ?_⟩; have n0_ := Aside0.mk (Kd.R_elder' (rr_ HO_5) (Kd.R_base ho0) hb); have n1_ := Aside0.mk (Kd.R_lower (Kd.R_new' ho0 (Kd.R_lt (rr_ HO_5))) (below_size (bl_ HB))); have n2_ := bs_ HB hb; clear HO_5; clear HB; have HO_5 := n0_; have HO359 := n1_; have HB := n2_; clear n0_ n1_ n2_; (try clear hb); (try clear hb2); (try clear hk); (try clear hi); (try clear ho0)))
      go_ret
      exact ⟨_, by first | rfl | (simp [errW_none, errW_some] <;> rfl) | (simp [*, errW_none, errW_some] <;> rfl), by (with_reducible repeat (first | apply rA | apply rN | apply rD)); exact Kd.R_mono HO359.out (fun _ hk => trivial), bl_ HB⟩

end Go.Proofs.Ytdemanikmaafeaa.Pr
-- written by this session's own program (wip/fprint.py), which widens the kit's print by floats
namespace Go.Proofs.Ytdemanikmaafeaa.Pr
open Go.RowKit Go.Proofs.YtdemanikmaafeaaW.PrintWords Go.Proofs.YtdemanikmaafeaaW.PrintLast Go.Proofs.YtdemanikmaafeaaW.PrintMore
attribute [local go_sem] max2_int min2_int max_two min_two max_three min_three max_four min_four   -- for this text's walks alone
set_option linter.unusedVariables false
set_option linter.unusedSimpArgs false

/-! ### r03_Add: function 35 -/
mutual
def r03_Add.j0 : Nat → Bool → Bool → List Int → Int → Bool → List Int → Int → Option (Bool × List Int × Int × Int)
 | 0, _, _, _, _, _, _, _ => none
 | k + 1, x28, x370000, x370001, x370002, x377000, x377001, x377002 => if x28 = true then (some (false, ([] : List Int), 0, 2)) else (if (x370001.length : Int) = 0 then (some (x377000, x377001, x377002, 0)) else (if (x377001.length : Int) = 0 then (some (x370000, x370001, x370002, 0)) else ((r02_Moved.f k x370001 (wrap64 (x370002 - (mn x370002 x377002)))).bind fun t377 => ((r02_Moved.f k x377001 (wrap64 (x377002 - (mn x370002 x377002)))).bind fun t380 => (if (t377.length : Int) > 8192 then (r03_Add.j1 k (mn x370002 x377002) t377 t380 true x370000 x370001 x370002 x377000 x377001 x377002) else (r03_Add.j1 k (mn x370002 x377002) t377 t380 (decide ((t380.length : Int) > 8192)) x370000 x370001 x370002 x377000 x377001 x377002))))))
def r03_Add.j1 : Nat → Int → List Int → List Int → Bool → Bool → List Int → Int → Bool → List Int → Int → Option (Bool × List Int × Int × Int)
 | 0, _, _, _, _, _, _, _, _, _, _ => none
 | k + 1, x10, x11, x12, x66, x370000, x370001, x370002, x377000, x377001, x377002 => if x66 = true then (some (false, ([] : List Int), 0, 2)) else (if (x370000 == x377000) = true then ((r02_Plus.f k x11 x12).bind fun t383 => ((r03_told.f k x370000 t383 x10).bind fun bt386 => (some (bt386.1, bt386.2.1, bt386.2.2.1, bt386.2.2.2)))) else ((r02_Cmp.f k x11 x12).bind fun t392 => (if t392 ≥ 0 then ((r02_Minus.f k x11 x12).bind fun t393 => ((r03_told.f k x370000 t393 x10).bind fun bt396 => (some (bt396.1, bt396.2.1, bt396.2.2.1, bt396.2.2.2)))) else ((r02_Minus.f k x12 x11).bind fun t402 => ((r03_told.f k x377000 t402 x10).bind fun bt405 => (some (bt405.1, bt405.2.1, bt405.2.2.1, bt405.2.2.2)))))))
end
def r03_Add.f (k : Nat) (a0_0 : Bool) (l0_1 : List Int) (a0_2 : Int) (a1_0 : Bool) (l1_1 : List Int) (a1_2 : Int) : Option (Bool × List Int × Int × Int) := (r03_Made.f k a0_0 l0_1 a0_2).bind fun bt363 => ((r03_Made.f k a1_0 l1_1 a1_2).bind fun bt370 => (if bt363.2.2.2 = true then (r03_Add.j0 k (!bt370.2.2.2) bt363.1 bt363.2.1 bt363.2.2.1 bt370.1 bt370.2.1 bt370.2.2.1) else (r03_Add.j0 k true bt363.1 bt363.2.1 bt363.2.2.1 bt370.1 bt370.2.1 bt370.2.2.1)))
theorem r03_Add.mono_l : ∀ k, (∀ y0 y1 y2 y3 y4 y5 y6, LeO (r03_Add.j0 k y0 y1 y2 y3 y4 y5 y6) (r03_Add.j0 (k + 1) y0 y1 y2 y3 y4 y5 y6)) ∧ (∀ y0 y1 y2 y3 y4 y5 y6 y7 y8 y9, LeO (r03_Add.j1 k y0 y1 y2 y3 y4 y5 y6 y7 y8 y9) (r03_Add.j1 (k + 1) y0 y1 y2 y3 y4 y5 y6 y7 y8 y9))
 | 0 => ⟨fun _ _ _ _ _ _ _ r h => by simp [r03_Add.j0] at h, fun _ _ _ _ _ _ _ _ _ _ r h => by simp [r03_Add.j1] at h⟩
 | k + 1 => by
  obtain ⟨ih0, ih1⟩ := r03_Add.mono_l k
  refine ⟨?_, ?_⟩
  ·intro y0 y1 y2 y3 y4 y5 y6
   unfold r03_Add.j0
   repeat' first
   | (with_reducible exact ih0 _ _ _ _ _ _ _)
   | (with_reducible exact ih1 _ _ _ _ _ _ _ _ _ _)
   | (with_reducible exact r02_Cmp.mono _ _ _)
   | (with_reducible exact r02_Minus.mono _ _ _)
   | (with_reducible exact r02_Moved.mono _ _ _)
   | (with_reducible exact r02_Plus.mono _ _ _)
   | (with_reducible exact r03_Made.mono _ _ _ _)
   | (with_reducible exact r03_told.mono _ _ _ _)
   | (with_reducible exact LeO.refl _)
   | (with_reducible exact LeO.none _)
   | (with_reducible refine LeO.ite ?_ ?_)
   | (with_reducible refine LeO.bind ?_ (fun _ => ?_))
   | exact ih0 _ _ _ _ _ _ _
   | exact ih1 _ _ _ _ _ _ _ _ _ _
   | exact r02_Cmp.mono _ _ _
   | exact r02_Minus.mono _ _ _
   | exact r02_Moved.mono _ _ _
   | exact r02_Plus.mono _ _ _
   | exact r03_Made.mono _ _ _ _
   | exact r03_told.mono _ _ _ _
   | exact LeO.none _
   | refine LeO.ite ?_ ?_
   | refine LeO.bind ?_ (fun _ => ?_)
  ·intro y0 y1 y2 y3 y4 y5 y6 y7 y8 y9
   unfold r03_Add.j1
   repeat' first
   | (with_reducible exact ih0 _ _ _ _ _ _ _)
   | (with_reducible exact ih1 _ _ _ _ _ _ _ _ _ _)
   | (with_reducible exact r02_Cmp.mono _ _ _)
   | (with_reducible exact r02_Minus.mono _ _ _)
   | (with_reducible exact r02_Moved.mono _ _ _)
   | (with_reducible exact r02_Plus.mono _ _ _)
   | (with_reducible exact r03_Made.mono _ _ _ _)
   | (with_reducible exact r03_told.mono _ _ _ _)
   | (with_reducible exact LeO.refl _)
   | (with_reducible exact LeO.none _)
   | (with_reducible refine LeO.ite ?_ ?_)
   | (with_reducible refine LeO.bind ?_ (fun _ => ?_))
   | exact ih0 _ _ _ _ _ _ _
   | exact ih1 _ _ _ _ _ _ _ _ _ _
   | exact r02_Cmp.mono _ _ _
   | exact r02_Minus.mono _ _ _
   | exact r02_Moved.mono _ _ _
   | exact r02_Plus.mono _ _ _
   | exact r03_Made.mono _ _ _ _
   | exact r03_told.mono _ _ _ _
   | exact LeO.none _
   | refine LeO.ite ?_ ?_
   | refine LeO.bind ?_ (fun _ => ?_)
theorem r03_Add.mono : ∀ a0 a1 a2 a3 a4 a5 k, LeO (r03_Add.f k a0 a1 a2 a3 a4 a5) (r03_Add.f (k + 1) a0 a1 a2 a3 a4 a5) := by
 intro a0 a1 a2 a3 a4 a5 k
 obtain ⟨ih0, ih1⟩ := r03_Add.mono_l k
 unfold r03_Add.f
 repeat' first
   | (with_reducible exact ih0 _ _ _ _ _ _ _)
   | (with_reducible exact ih1 _ _ _ _ _ _ _ _ _ _)
   | (with_reducible exact r02_Cmp.mono _ _ _)
   | (with_reducible exact r02_Minus.mono _ _ _)
   | (with_reducible exact r02_Moved.mono _ _ _)
   | (with_reducible exact r02_Plus.mono _ _ _)
   | (with_reducible exact r03_Made.mono _ _ _ _)
   | (with_reducible exact r03_told.mono _ _ _ _)
   | (with_reducible exact LeO.refl _)
   | (with_reducible exact LeO.none _)
   | (with_reducible refine LeO.ite ?_ ?_)
   | (with_reducible refine LeO.bind ?_ (fun _ => ?_))
   | exact ih0 _ _ _ _ _ _ _
   | exact ih1 _ _ _ _ _ _ _ _ _ _
   | exact r02_Cmp.mono _ _ _
   | exact r02_Minus.mono _ _ _
   | exact r02_Moved.mono _ _ _
   | exact r02_Plus.mono _ _ _
   | exact r03_Made.mono _ _ _ _
   | exact r03_told.mono _ _ _ _
   | exact LeO.none _
   | refine LeO.ite ?_ ?_
   | refine LeO.bind ?_ (fun _ => ?_)
def r03_Add.T15 : Bool × List (List Nat × List Nat) := (true, [([], []), ([0], [0]), ([], []), ([], []), ([2, 3], [2, 3]), ([], []), ([1, 4, 5, 4], [1, 4, 5]), ([6], [6]), ([6], [6]), ([7, 6, 0, 1, 2, 3, 4, 5, 6, 7, 8], [7]), ([8, 9, 0, 1, 2, 3, 4, 5, 6, 7, 8, 9], [8])])
def r03_Add.B15 : List Nat := [0, 1, 0, 0, 12, 0, 63, 127, 127, 511, 1023]
theorem r03_Add.tab15 : rtab .any (opsOf Try.f35 15) = r03_Add.T15 := by kernel_rfl
theorem r03_Add.bits15 : waitsOk r03_Add.T15.2 r03_Add.B15 = true := by kernel_rfl
def r03_Add.T17 : Bool × List (List Nat × List Nat) := (true, [([], []), ([0], [0]), ([], []), ([], []), ([2, 3], [2, 3]), ([], []), ([1, 4, 5, 4], [1, 4, 5]), ([6], [6]), ([6], [6]), ([7, 6, 0, 1, 2, 3, 4, 5, 6, 7, 8], [7]), ([8, 9, 0, 1, 2, 3, 4, 5, 6, 7, 8, 9], [8])])
def r03_Add.B17 : List Nat := [0, 1, 0, 0, 12, 0, 63, 127, 127, 511, 1023]
theorem r03_Add.tab17 : rtab .any (opsOf Try.f35 17) = r03_Add.T17 := by kernel_rfl
theorem r03_Add.bits17 : waitsOk r03_Add.T17.2 r03_Add.B17 = true := by kernel_rfl
def r03_Add.T18 : Bool × List (List Nat × List Nat) := (true, [([], []), ([0], [0]), ([], []), ([], []), ([2, 3], [2, 3]), ([], []), ([1, 4, 5, 4], [1, 4, 5]), ([6], [6]), ([6], [6]), ([7, 6, 0, 1, 2, 3, 4, 5, 6, 7, 8], [7]), ([8, 9, 0, 1, 2, 3, 4, 5, 6, 7, 8, 9], [8])])
def r03_Add.B18 : List Nat := [0, 1, 0, 0, 12, 0, 63, 127, 127, 511, 1023]
theorem r03_Add.tab18 : rtab .any (opsOf Try.f35 18) = r03_Add.T18 := by kernel_rfl
theorem r03_Add.bits18 : waitsOk r03_Add.T18.2 r03_Add.B18 = true := by kernel_rfl
set_option maxHeartbeats 3000000 in
set_option maxRecDepth 100000 in
theorem r03_Add.calls (k : Nat) (a0_0 : Bool) (A0_1 : Option Addr) (c0_1 : Nat) (l0_1 : List Int) (a0_2 : Int) (a1_0 : Bool) (A1_1 : Option Addr) (c1_1 : Nat) (l1_1 : List Int) (a1_2 : Int) (r1 : Bool) (r2 : List Int) (r3 : Int) (r4 : Int) (w : World) (hr0_1 : Kd.C (Kd.int .u32) w A0_1 l0_1.length l0_1) (hc0_1 : l0_1.length ≤ c0_1) (hr1_1 : Kd.C (Kd.int .u32) w A1_1 l1_1.length l1_1) (hc1_1 : l1_1.length ≤ c1_1) (h : r03_Add.f k a0_0 l0_1 a0_2 a1_0 l1_1 a1_2 = some (r1, r2, r3, r4)) :
  Calls Try.prog 35 #[.agg #[.bool a0_0, .slice A0_1 l0_1.length c0_1, .int .i64 a0_2], .agg #[.bool a1_0, .slice A1_1 l1_1.length c1_1, .int .i64 a1_2]] w fun e w' => ∃ v1_ : Value, e = .returned (.tuple #[.agg #[.bool r1, v1_, .int .i64 r3], .int .i64 r4]) ∧ Kd.R (Kd.int .u32) 72 w' w.heap.size (fun _ => True) v1_ r2 ∧ Below w.heap.size w w' := by
 have hu43 := Try.underlying43
 have HR0_1 := Aside0.mk hr0_1
 have HC0_1 := Aside0.mk hc0_1
 clear hr0_1 hc0_1
 have HR1_1 := Aside0.mk hr1_1
 have HC1_1 := Aside0.mk hc1_1
 clear hr1_1 hc1_1
 have HB := Aside0.mk (Below.refl w.heap.size w)
 have H : ((r03_Made.f k a0_0 l0_1 a0_2).bind fun bt363 => ((r03_Made.f k a1_0 l1_1 a1_2).bind fun bt370 => (if bt363.2.2.2 = true then (r03_Add.j0 k (!bt370.2.2.2) bt363.1 bt363.2.1 bt363.2.2.1 bt370.1 bt370.2.1 bt370.2.2.1) else (r03_Add.j0 k true bt363.1 bt363.2.1 bt363.2.2.1 bt370.1 bt370.2.1 bt370.2.2.1)))) = some (r1, r2, r3, r4) := h
 clear h
 obtain ⟨⟨t363, t364, t367, t368⟩, A3, H⟩ := ob_ H
 try dsimp only at H
 obtain ⟨⟨t370, t371, t374, t375⟩, A4, H⟩ := ob_ H
 try dsimp only at H
 have HC5 := Aside0.mk H
 clear H
 go_enter Try.func35, Try.ntmps35
 go_upto_region 3 with (first | ((with_reducible refine gate_dst (N := 2) rfl ?_); (try (refine gate_guard (by rfl) ?_; dsimp only)); refine box_event ?hg (N := 2) ?hd (cs := #[.bool a0_0, .slice A0_1 l0_1.length c0_1, .int .i64 a0_2]) (t := 43) ?hr ?_; (case hd => rfl); (case hg => rfl); (case hr => first | (go_simp; done) | (go_simp; rfl)); intro gb360 hg w6 hbox hb; have n0_ := bs_ HB hb; have n1_ := Aside0.mk (hbox); have n2_ := ge_ HB hg; have n3_ := ge_ HB hg; clear HB; have HB := n0_; have BK360 := n1_; have GW360 := n2_; have GE360 := n3_; clear n0_ n1_ n2_ n3_; clear hb hbox hg) | ((with_reducible refine gate_dst (N := 3) rfl ?_); (try (refine gate_guard (by rfl) ?_; dsimp only)); refine box_event ?hg (N := 3) ?hd (cs := #[.bool a1_0, .slice A1_1 l1_1.length c1_1, .int .i64 a1_2]) (t := 43) ?hr ?_; (case hd => rfl); (case hg => rfl); (case hr => first | (go_simp; done) | (go_simp; rfl)); intro gb361 hg w7 hbox hb; have n0_ := kb_ BK360 hb; have n1_ := bs_ HB hb; have n2_ := Aside0.mk (hbox); have n3_ := ge_ HB hg; have n4_ := ge_ HB hg; have n5_ := nlt_ BK360 hg; have n6_ := ngt_ BK360 hg; clear BK360; clear HB; have BK360 := n0_; have HB := n1_; have BK361 := n2_; have GW361 := n3_; have GE361 := n4_; have NB360_361 := n5_; have NB361_360 := n6_; clear n0_ n1_ n2_ n3_ n4_ n5_ n6_; clear hb hbox hg) | ((with_reducible refine gate_dst (N := 4) rfl ?_); (try (refine gate_guard (by rfl) ?_; dsimp only)); refine box_event ?hg (N := 4) ?hd (cs := #[.bool false, .slice none 0 0, .int .i64 0]) (t := 43) ?hr ?_; (case hd => rfl); (case hg => rfl); (case hr => first | (go_simp; done) | (go_simp; rfl)); intro gb362 hg w8 hbox hb; have n0_ := kb_ BK360 hb; have n1_ := kb_ BK361 hb; have n2_ := bs_ HB hb; have n3_ := Aside0.mk (hbox); have n4_ := ge_ HB hg; have n5_ := ge_ HB hg; have n6_ := nlt_ BK360 hg; have n7_ := ngt_ BK360 hg; have n8_ := nlt_ BK361 hg; have n9_ := ngt_ BK361 hg; clear BK360; clear BK361; clear HB; have BK360 := n0_; have BK361 := n1_; have HB := n2_; have BK362 := n3_; have GW362 := n4_; have GE362 := n5_; have NB360_362 := n6_; have NB362_360 := n7_; have NB361_362 := n8_; have NB362_361 := n9_; clear n0_ n1_ n2_ n3_ n4_ n5_ n6_ n7_ n8_ n9_; clear hb hbox hg; have hnb9 := NB360_361.out; have hnc9 := NB361_360.out; have hnb10 := NB360_362.out; have hnc10 := NB362_360.out; have hcz11_0 : w8.cell? ⟨gb360, 0, none⟩ = some (.bool a0_0) := (blk_cell BK360.out 0).trans rfl; have hcz11_1 : w8.cell? ⟨gb360, 1, none⟩ = some (.slice A0_1 l0_1.length c0_1) := (blk_cell BK360.out 1).trans rfl; have hcz11_2 : w8.cell? ⟨gb360, 2, none⟩ = some (.int .i64 a0_2) := (blk_cell BK360.out 2).trans rfl; have hfz11_0 := blk_frozen BK360.out 0; have hfz11_1 := blk_frozen BK360.out 1; have hfz11_2 := blk_frozen BK360.out 2) | ((with_reducible refine gate_callee (f := 57) rfl ?_); refine goesM (some 15) Try.func57 #[.agg #[.bool a0_0, .slice A0_1 l0_1.length c0_1, .int .i64 a0_2]] ?_; (with_reducible refine (r03_Made.calls k a0_0 _ _ l0_1 a0_2 t363 t364 t367 t368 _ ?side1 ?side2 A3.out).mono ?_); (case side1 => repeat (first | exact (Kd.C_below HR0_1.out HB.out) | (with_reducible first | apply cA | apply cN | apply cD))); (case side2 => exact HC0_1.out); rintro e w12 ⟨v365, rfl, ho0, hb⟩; refine ⟨_, rfl, ?_⟩; have n0_ := Aside0.mk (Kd.R_lower ho0 (below_size (bl_ HB))); have n1_ := kb_ BK360 hb; have n2_ := kb_ BK361 hb; have n3_ := kb_ BK362 hb; have n4_ := bs_ HB hb; clear BK360; clear BK361; clear BK362; clear HB; have HO366 := n0_; have BK360 := n1_; have BK361 := n2_; have BK362 := n3_; have HB := n4_; clear n0_ n1_ n2_ n3_ n4_; (try clear hb); (try clear hb2); (try clear hk); (try clear hi); (try clear ho0)) | ((with_reducible refine gate_dst (N := 6) rfl ?_); (try (refine gate_guard (by rfl) ?_; dsimp only)); refine box_event ?hg (N := 6) ?hd (cs := #[.bool false, .slice none 0 0, .int .i64 0]) (t := 43) ?hr ?_; (case hd => rfl); (case hg => rfl); (case hr => first | (go_simp; done) | (go_simp; rfl)); intro gb369 hg w13 hbox hb; have n0_ := Aside0.mk (Kd.R_below (rr_ HO366) hb); have n1_ := kb_ BK360 hb; have n2_ := kb_ BK361 hb; have n3_ := kb_ BK362 hb; have n4_ := bs_ HB hb; have n5_ := Aside0.mk (hbox); have n6_ := ge_ HB hg; have n7_ := ge_ HB hg; have n8_ := nlt_ BK360 hg; have n9_ := ngt_ BK360 hg; have n10_ := nlt_ BK361 hg; have n11_ := ngt_ BK361 hg; have n12_ := nlt_ BK362 hg; have n13_ := ngt_ BK362 hg; clear HO366; clear BK360; clear BK361; clear BK362; clear HB; have HO366 := n0_; have BK360 := n1_; have BK361 := n2_; have BK362 := n3_; have HB := n4_; have BK369 := n5_; have GW369 := n6_; have GE369 := n7_; have NB360_369 := n8_; have NB369_360 := n9_; have NB361_369 := n10_; have NB369_361 := n11_; have NB362_369 := n12_; have NB369_362 := n13_; clear n0_ n1_ n2_ n3_ n4_ n5_ n6_ n7_ n8_ n9_ n10_ n11_ n12_ n13_; clear hb hbox hg; have hnb14 := NB369_360.out; have hnc14 := NB360_369.out; have hnb15 := NB369_361.out; have hnc15 := NB361_369.out; have hnb16 := NB369_362.out; have hnc16 := NB362_369.out; have hcz17_0 : w13.cell? ⟨gb369, 0, none⟩ = some (.bool false) := (blk_cell BK369.out 0).trans rfl; have hcz17_1 : w13.cell? ⟨gb369, 1, none⟩ = some (.slice none 0 0) := (blk_cell BK369.out 1).trans rfl; have hcz17_2 : w13.cell? ⟨gb369, 2, none⟩ = some (.int .i64 0) := (blk_cell BK369.out 2).trans rfl; have hfz17_0 := blk_frozen BK369.out 0; have hfz17_1 := blk_frozen BK369.out 1; have hfz17_2 := blk_frozen BK369.out 2; obtain ⟨Ao18, co18, eo18⟩ := Kd.R_slice HO366.out; subst eo18; have hnb19 := NB361_362.out; have hnc19 := NB362_361.out; have hcz20_0 : w13.cell? ⟨gb361, 0, none⟩ = some (.bool a1_0) := (blk_cell BK361.out 0).trans rfl; have hcz20_1 : w13.cell? ⟨gb361, 1, none⟩ = some (.slice A1_1 l1_1.length c1_1) := (blk_cell BK361.out 1).trans rfl; have hcz20_2 : w13.cell? ⟨gb361, 2, none⟩ = some (.int .i64 a1_2) := (blk_cell BK361.out 2).trans rfl; have hfz20_0 := blk_frozen BK361.out 0; have hfz20_1 := blk_frozen BK361.out 1; have hfz20_2 := blk_frozen BK361.out 2) | ((with_reducible refine gate_callee (f := 57) rfl ?_); refine goesM (some 20) Try.func57 #[.agg #[.bool a1_0, .slice A1_1 l1_1.length c1_1, .int .i64 a1_2]] ?_; (with_reducible refine (r03_Made.calls k a1_0 _ _ l1_1 a1_2 t370 t371 t374 t375 _ ?side1 ?side2 A4.out).mono ?_); (case side1 => exact Kd.C_below HR1_1.out (bl_ HB)); (case side2 => exact HC1_1.out); rintro e w21 ⟨v372, rfl, ho0, hb⟩; refine ⟨_, rfl, ?_⟩; have n0_ := Aside0.mk (Kd.R_elder' (by (with_reducible repeat (first | apply rA | apply rN | apply rD)); exact (Kd.R_mono (Kd.R_far (p := ⟨gb369, 2, none⟩) (Kd.R_far (p := ⟨gb369, 1, none⟩) (Kd.R_far (p := ⟨gb369, 0, none⟩) (Kd.R_types HO366.out BK369.out (by decide)) (fun _ hk => hk.2) (.bool t363)) (fun _ hk => hk.2) (.slice Ao18 t364.length co18)) (fun _ hk => hk.2) (.int .i64 t367)) (fun _ h_ => h_.1))) (Kd.R_base ho0) hb); have n1_ := Aside0.mk (Kd.R_lower (Kd.R_new' ho0 (Kd.R_lt (by (with_reducible repeat (first | apply rA | apply rN | apply rD)); exact (Kd.R_mono (Kd.R_far (p := ⟨gb369, 2, none⟩) (Kd.R_far (p := ⟨gb369, 1, none⟩) (Kd.R_far (p := ⟨gb369, 0, none⟩) (Kd.R_types HO366.out BK369.out (by decide)) (fun _ hk => hk.2) (.bool t363)) (fun _ hk => hk.2) (.slice Ao18 t364.length co18)) (fun _ hk => hk.2) (.int .i64 t367)) (fun _ h_ => h_.1))))) (below_size (bl_ HB))); have n2_ := Aside0.mk (blk_below (g := gb360) (o := .cells #[.bool a0_0, .slice A0_1 l0_1.length c0_1, .int .i64 a0_2] 43 (0, 0)) (by (with_reducible repeat (first | apply bN | apply bD | apply bA)); refine blk_far ?_ NB360_369.out _; (with_reducible repeat (first | apply bN | apply bD | apply bA)); refine blk_far ?_ NB360_369.out _; (with_reducible repeat (first | apply bN | apply bD | apply bA)); refine blk_far ?_ NB360_369.out _; exact bk_ BK360) hb); have n3_ := Aside0.mk (blk_below (g := gb361) (o := .cells #[.bool a1_0, .slice A1_1 l1_1.length c1_1, .int .i64 a1_2] 43 (0, 0)) (by (with_reducible repeat (first | apply bN | apply bD | apply bA)); refine blk_far ?_ NB361_369.out _; (with_reducible repeat (first | apply bN | apply bD | apply bA)); refine blk_far ?_ NB361_369.out _; (with_reducible repeat (first | apply bN | apply bD | apply bA)); refine blk_far ?_ NB361_369.out _; exact bk_ BK361) hb); have n4_ := Aside0.mk (blk_below (g := gb362) (o := .cells #[.bool false, .slice none 0 0, .int .i64 0] 43 (0, 0)) (by (with_reducible repeat (first | apply bN | apply bD | apply bA)); refine blk_far ?_ NB362_369.out _; (with_reducible repeat (first | apply bN | apply bD | apply bA)); refine blk_far ?_ NB362_369.out _; (with_reducible repeat (first | apply bN | apply bD | apply bA)); refine blk_far ?_ NB362_369.out _; exact bk_ BK362) hb); have n5_ := Aside0.mk (blk_below (g := gb369) (o := .cells #[.bool t363, .slice Ao18 t364.length co18, .int .i64 t367] 43 (0, 0)) (by (with_reducible repeat (first | apply bN | apply bD | apply bA)); refine blk_put (cs := #[.bool t363, .slice Ao18 t364.length co18, .int .i64 0]) ?_ 2 _ rfl; (with_reducible repeat (first | apply bN | apply bD | apply bA)); refine blk_put (cs := #[.bool t363, .slice none 0 0, .int .i64 0]) ?_ 1 _ rfl; (with_reducible repeat (first | apply bN | apply bD | apply bA)); refine blk_put (cs := #[.bool false, .slice none 0 0, .int .i64 0]) ?_ 0 _ rfl; exact bk_ BK369) hb); have n6_ := bs_ HB hb; clear HO366; clear BK360; clear BK361; clear BK362; clear BK369; clear HB; have HO366 := n0_; have HO373 := n1_; have BK360 := n2_; have BK361 := n3_; have BK362 := n4_; have BK369 := n5_; have HB := n6_; clear n0_ n1_ n2_ n3_ n4_ n5_ n6_; (try clear hb); (try clear hb2); (try clear hk); (try clear hi); (try clear ho0)) | ((with_reducible refine gate_dst (N := 8) rfl ?_); (try (refine gate_guard (by rfl) ?_; dsimp only)); refine box_event ?hg (N := 8) ?hd (cs := #[.bool false, .slice none 0 0, .int .i64 0]) (t := 43) ?hr ?_; (case hd => rfl); (case hg => rfl); (case hr => first | (go_simp; done) | (go_simp; rfl)); intro gb376 hg w22 hbox hb; have n0_ := Aside0.mk (Kd.R_below (rr_ HO366) hb); have n1_ := Aside0.mk (Kd.R_below (rr_ HO373) hb); have n2_ := kb_ BK360 hb; have n3_ := kb_ BK361 hb; have n4_ := kb_ BK362 hb; have n5_ := kb_ BK369 hb; have n6_ := bs_ HB hb; have n7_ := Aside0.mk (hbox); have n8_ := ge_ HB hg; have n9_ := ge_ HB hg; have n10_ := nlt_ BK360 hg; have n11_ := ngt_ BK360 hg; have n12_ := nlt_ BK361 hg; have n13_ := ngt_ BK361 hg; have n14_ := nlt_ BK362 hg; have n15_ := ngt_ BK362 hg; have n16_ := nlt_ BK369 hg; have n17_ := ngt_ BK369 hg; clear HO366; clear HO373; clear BK360; clear BK361; clear BK362; clear BK369; clear HB; have HO366 := n0_; have HO373 := n1_; have BK360 := n2_; have BK361 := n3_; have BK362 := n4_; have BK369 := n5_; have HB := n6_; have BK376 := n7_; have GW376 := n8_; have GE376 := n9_; have NB360_376 := n10_; have NB376_360 := n11_; have NB361_376 := n12_; have NB376_361 := n13_; have NB362_376 := n14_; have NB376_362 := n15_; have NB369_376 := n16_; have NB376_369 := n17_; clear n0_ n1_ n2_ n3_ n4_ n5_ n6_ n7_ n8_ n9_ n10_ n11_ n12_ n13_ n14_ n15_ n16_ n17_; clear hb hbox hg; have hnb23 := NB376_360.out; have hnc23 := NB360_376.out; have hnb24 := NB376_361.out; have hnc24 := NB361_376.out; have hnb25 := NB376_362.out; have hnc25 := NB362_376.out; have hnb26 := NB376_369.out; have hnc26 := NB369_376.out; have hcz27_0 : w22.cell? ⟨gb376, 0, none⟩ = some (.bool false) := (blk_cell BK376.out 0).trans rfl; have hcz27_1 : w22.cell? ⟨gb376, 1, none⟩ = some (.slice none 0 0) := (blk_cell BK376.out 1).trans rfl; have hcz27_2 : w22.cell? ⟨gb376, 2, none⟩ = some (.int .i64 0) := (blk_cell BK376.out 2).trans rfl; have hfz27_0 := blk_frozen BK376.out 0; have hfz27_1 := blk_frozen BK376.out 1; have hfz27_2 := blk_frozen BK376.out 2; obtain ⟨Ao28, co28, eo28⟩ := Kd.R_slice HO373.out; subst eo28))
 (try simp only [Act.put, List.setIfInBounds_toArray, List.set_cons_zero, List.set_cons_succ])
 go_cut [28] (fun v28 wc => ∃ (kq : Nat) (x28_4 : Bool), v28 = .bool x28_4 ∧ Aside0 (r03_Add.j0 kq x28_4 t363 t364 t367 t370 t371 t374 = some (r1, r2, r3, r4)) ∧ Aside0 (kq ≤ k) ∧ Aside0 (Kd.R (Kd.int .u32) 72 wc w.heap.size (fun k_ => some k_ ≠ ((.slice Ao28 t371.length co28) : Value).ownBlock) (.slice Ao18 t364.length co18) t364) ∧ Aside0 (Kd.R (Kd.int .u32) 72 wc w.heap.size (fun k_ => some k_ ≠ ((.slice Ao18 t364.length co18) : Value).ownBlock) (.slice Ao28 t371.length co28) t371) ∧ Aside0 (wc.heap[gb360]? = some (.cells #[.bool a0_0, (.slice A0_1 l0_1.length c0_1), .int .i64 a0_2] 43 (0, 0))) ∧ Aside0 (wc.heap[gb361]? = some (.cells #[.bool a1_0, (.slice A1_1 l1_1.length c1_1), .int .i64 a1_2] 43 (0, 0))) ∧ Aside0 (wc.heap[gb362]? = some (.cells #[.bool false, (.slice none 0 0), .int .i64 0] 43 (0, 0))) ∧ Aside0 (wc.heap[gb369]? = some (.cells #[.bool t363, (.slice Ao18 t364.length co18), .int .i64 t367] 43 (0, 0))) ∧ Aside0 (wc.heap[gb376]? = some (.cells #[.bool t370, (.slice Ao28 t371.length co28), .int .i64 t374] 43 (0, 0))) ∧ Aside0 (Below w.heap.size w wc))
 case first =>
  have H := HC5.out
  clear HC5
  by_cases c29 : t368 = true
  ·subst c29
   have H1 : (r03_Add.j0 k (!t375) t363 t364 t367 t370 t371 t374) = some (r1, r2, r3, r4) := by rw [if_pos rfl] at H; exact H
   clear H
   have H := H1
   clear H1
   have H' := Aside0.mk H
   clear H
   go_wp2
   go_meet
   case rel => exact ⟨_, (!t375), (by first | rfl | (simp; done) | (simp [*]; done)), H', ⟨by first | omega | exact Nat.le_refl _⟩, ⟨by (with_reducible repeat (first | apply rA | apply rN | apply rD)); exact Kd.R_mono (Kd.R_far (p := ⟨gb376, 2, none⟩) (Kd.R_far (p := ⟨gb376, 1, none⟩) (Kd.R_far (p := ⟨gb376, 0, none⟩) (Kd.R_types HO366.out BK376.out (by decide)) (fun _ hk => hk.2) (.bool t370)) (fun _ hk => hk.2) (.slice Ao28 t371.length co28)) (fun _ hk => hk.2) (.int .i64 t374)) (fun _ hk => hk.1.2)⟩, ⟨by (with_reducible repeat (first | apply rA | apply rN | apply rD)); exact Kd.R_mono (Kd.R_far (p := ⟨gb376, 2, none⟩) (Kd.R_far (p := ⟨gb376, 1, none⟩) (Kd.R_far (p := ⟨gb376, 0, none⟩) (Kd.R_types HO373.out BK376.out (by decide)) (fun _ hk => hk.2) (.bool t370)) (fun _ hk => hk.2) (.slice Ao28 t371.length co28)) (fun _ hk => hk.2) (.int .i64 t374)) (fun _ hk => hk.1.2)⟩, ⟨by (with_reducible repeat (first | apply bN | apply bD | apply bA)); refine blk_far ?_ NB360_376.out _; (with_reducible repeat (first | apply bN | apply bD | apply bA)); refine blk_far ?_ NB360_376.out _; (with_reducible repeat (first | apply bN | apply bD | apply bA)); refine blk_far ?_ NB360_376.out _; exact bk_ BK360⟩, ⟨by (with_reducible repeat (first | apply bN | apply bD | apply bA)); refine blk_far ?_ NB361_376.out _; (with_reducible repeat (first | apply bN | apply bD | apply bA)); refine blk_far ?_ NB361_376.out _; (with_reducible repeat (first | apply bN | apply bD | apply bA)); refine blk_far ?_ NB361_376.out _; exact bk_ BK361⟩, ⟨by (with_reducible repeat (first | apply bN | apply bD | apply bA)); refine blk_far ?_ NB362_376.out _; (with_reducible repeat (first | apply bN | apply bD | apply bA)); refine blk_far ?_ NB362_376.out _; (with_reducible repeat (first | apply bN | apply bD | apply bA)); refine blk_far ?_ NB362_376.out _; exact bk_ BK362⟩, ⟨by (with_reducible repeat (first | apply bN | apply bD | apply bA)); refine blk_far ?_ NB369_376.out _; (with_reducible repeat (first | apply bN | apply bD | apply bA)); refine blk_far ?_ NB369_376.out _; (with_reducible repeat (first | apply bN | apply bD | apply bA)); refine blk_far ?_ NB369_376.out _; exact bk_ BK369⟩, ⟨by (with_reducible repeat (first | apply bN | apply bD | apply bA)); refine blk_put (cs := #[.bool t370, .slice Ao28 t371.length co28, .int .i64 0]) ?_ 2 _ rfl; (with_reducible repeat (first | apply bN | apply bD | apply bA)); refine blk_put (cs := #[.bool t370, .slice none 0 0, .int .i64 0]) ?_ 1 _ rfl; (with_reducible repeat (first | apply bN | apply bD | apply bA)); refine blk_put (cs := #[.bool false, .slice none 0 0, .int .i64 0]) ?_ 0 _ rfl; exact bk_ BK376⟩, ⟨bl_ HB⟩⟩
  ·replace c29 := Bool.eq_false_iff.mpr c29
   subst c29
   have H1 : (r03_Add.j0 k true t363 t364 t367 t370 t371 t374) = some (r1, r2, r3, r4) := by rw [if_neg (show ¬ (false = true) by decide)] at H; exact H
   clear H
   have H := H1
   clear H1
   have H' := Aside0.mk H
   clear H
   go_wp2
   go_meet
   case rel => exact ⟨_, (true), (by first | rfl | (simp; done) | (simp [*]; done)), H', ⟨by first | omega | exact Nat.le_refl _⟩, ⟨by (with_reducible repeat (first | apply rA | apply rN | apply rD)); exact Kd.R_mono (Kd.R_far (p := ⟨gb376, 2, none⟩) (Kd.R_far (p := ⟨gb376, 1, none⟩) (Kd.R_far (p := ⟨gb376, 0, none⟩) (Kd.R_types HO366.out BK376.out (by decide)) (fun _ hk => hk.2) (.bool t370)) (fun _ hk => hk.2) (.slice Ao28 t371.length co28)) (fun _ hk => hk.2) (.int .i64 t374)) (fun _ hk => hk.1.2)⟩, ⟨by (with_reducible repeat (first | apply rA | apply rN | apply rD)); exact Kd.R_mono (Kd.R_far (p := ⟨gb376, 2, none⟩) (Kd.R_far (p := ⟨gb376, 1, none⟩) (Kd.R_far (p := ⟨gb376, 0, none⟩) (Kd.R_types HO373.out BK376.out (by decide)) (fun _ hk => hk.2) (.bool t370)) (fun _ hk => hk.2) (.slice Ao28 t371.length co28)) (fun _ hk => hk.2) (.int .i64 t374)) (fun _ hk => hk.1.2)⟩, ⟨by (with_reducible repeat (first | apply bN | apply bD | apply bA)); refine blk_far ?_ NB360_376.out _; (with_reducible repeat (first | apply bN | apply bD | apply bA)); refine blk_far ?_ NB360_376.out _; (with_reducible repeat (first | apply bN | apply bD | apply bA)); refine blk_far ?_ NB360_376.out _; exact bk_ BK360⟩, ⟨by (with_reducible repeat (first | apply bN | apply bD | apply bA)); refine blk_far ?_ NB361_376.out _; (with_reducible repeat (first | apply bN | apply bD | apply bA)); refine blk_far ?_ NB361_376.out _; (with_reducible repeat (first | apply bN | apply bD | apply bA)); refine blk_far ?_ NB361_376.out _; exact bk_ BK361⟩, ⟨by (with_reducible repeat (first | apply bN | apply bD | apply bA)); refine blk_far ?_ NB362_376.out _; (with_reducible repeat (first | apply bN | apply bD | apply bA)); refine blk_far ?_ NB362_376.out _; (with_reducible repeat (first | apply bN | apply bD | apply bA)); refine blk_far ?_ NB362_376.out _; exact bk_ BK362⟩, ⟨by (with_reducible repeat (first | apply bN | apply bD | apply bA)); refine blk_far ?_ NB369_376.out _; (with_reducible repeat (first | apply bN | apply bD | apply bA)); refine blk_far ?_ NB369_376.out _; (with_reducible repeat (first | apply bN | apply bD | apply bA)); refine blk_far ?_ NB369_376.out _; exact bk_ BK369⟩, ⟨by (with_reducible repeat (first | apply bN | apply bD | apply bA)); refine blk_put (cs := #[.bool t370, .slice Ao28 t371.length co28, .int .i64 0]) ?_ 2 _ rfl; (with_reducible repeat (first | apply bN | apply bD | apply bA)); refine blk_put (cs := #[.bool t370, .slice none 0 0, .int .i64 0]) ?_ 1 _ rfl; (with_reducible repeat (first | apply bN | apply bD | apply bA)); refine blk_put (cs := #[.bool false, .slice none 0 0, .int .i64 0]) ?_ 0 _ rfl; exact bk_ BK376⟩, ⟨bl_ HB⟩⟩
 case rest =>
  clear HC5
  try clear c1
  try clear c2
  try clear p2
  try clear c3
  try clear c5
  try clear c9
  try clear c10
  try clear c14
  try clear c15
  try clear c16
  try clear c19
  try clear c23
  try clear c24
  try clear c25
  try clear c26
  try clear c29
  try clear hcz11_0
  try clear hcz11_1
  try clear hcz11_2
  try clear hcz17_0
  try clear hcz17_1
  try clear hcz17_2
  try clear hcz20_0
  try clear hcz20_1
  try clear hcz20_2
  try clear hcz27_0
  try clear hcz27_1
  try clear hcz27_2
  try clear hfz11_0
  try clear hfz11_1
  try clear hfz11_2
  try clear hfz17_0
  try clear hfz17_1
  try clear hfz17_2
  try clear hfz20_0
  try clear hfz20_1
  try clear hfz20_2
  try clear hfz27_0
  try clear hfz27_1
  try clear hfz27_2
  obtain ⟨kq, x28_4, rfl, HA, HJ4, HO_370001, HO_377001, BK360, BK361, BK362, BK369, BK376, HB⟩ := hcut
  cases kq with
  | zero => exact absurd HA.out (by simp [r03_Add.j0])
  | succ kj4 =>
   have H := HA.out
   clear HA
   simp only [r03_Add.j0] at H
   by_cases c30 : x28_4 = true
   ·subst c30
    have H1 : (some (false, ([] : List Int), 0, 2)) = some (r1, r2, r3, r4) := by rw [if_pos rfl] at H; exact H
    clear H
    have H := H1
    clear H1
    simp only [Option.some.injEq, Prod.mk.injEq] at H
    obtain ⟨rfl, rfl, rfl, rfl⟩ := H
    have hnb31 := NB362_360.out
    have hnc31 := NB360_362.out
    have hnb32 := NB362_361.out
    have hnc32 := NB361_362.out
    have hnb33 := NB362_369.out
    have hnc33 := NB369_362.out
    have hnb34 := NB362_376.out
    have hnc34 := NB376_362.out
    have hcz35_0 : wc.cell? ⟨gb362, 0, none⟩ = some (.bool false) := (blk_cell BK362.out 0).trans rfl
    have hcz35_1 : wc.cell? ⟨gb362, 1, none⟩ = some (.slice none 0 0) := (blk_cell BK362.out 1).trans rfl
    have hcz35_2 : wc.cell? ⟨gb362, 2, none⟩ = some (.int .i64 0) := (blk_cell BK362.out 2).trans rfl
    have hfz35_0 := blk_frozen BK362.out 0
    have hfz35_1 := blk_frozen BK362.out 1
    have hfz35_2 := blk_frozen BK362.out 2
    go_wp2
    refine bodyPost_ret (results_ct rfl _ _ gb362 43 #[.bool false, .slice none 0 0, .int .i64 0] (0, 0) _ rfl (by (with_reducible repeat (first | apply bN | apply bD | apply bA)); refine blk_put (cs := #[.bool false, .slice none 0 0, .int .i64 0]) ?_ 2 _ rfl; (with_reducible repeat (first | apply bN | apply bD | apply bA)); refine blk_put (cs := #[.bool false, .slice none 0 0, .int .i64 0]) ?_ 1 _ rfl; (with_reducible repeat (first | apply bN | apply bD | apply bA)); refine blk_put (cs := #[.bool false, .slice none 0 0, .int .i64 0]) ?_ 0 _ rfl; exact bk_ BK362) Try.underlying43 rfl (by kernel_rfl)) rfl ?_
    exact ⟨_, by first | rfl | (simp [errW_none, errW_some] <;> rfl) | (simp [*, errW_none, errW_some] <;> rfl), by first | exact Kd.R_nil _ _ _ _ _ | exact Kd.N_nil _ _ _ _ _ | exact Kd.V_nil _ _ _ _ _ | exact Kd.Q_nil _ _ _ _ _ | exact Kd.S_nil _ _ _ _ _, bl_ HB⟩
   ·replace c30 := Bool.eq_false_iff.mpr c30
    subst c30
    have H1 : (if (t364.length : Int) = 0 then (some (t370, t371, t374, 0)) else (if (t371.length : Int) = 0 then (some (t363, t364, t367, 0)) else ((r02_Moved.f kj4 t364 (wrap64 (t367 - (mn t367 t374)))).bind fun t377 => ((r02_Moved.f kj4 t371 (wrap64 (t374 - (mn t367 t374)))).bind fun t380 => (if (t377.length : Int) > 8192 then (r03_Add.j1 kj4 (mn t367 t374) t377 t380 true t363 t364 t367 t370 t371 t374) else (r03_Add.j1 kj4 (mn t367 t374) t377 t380 (decide ((t380.length : Int) > 8192)) t363 t364 t367 t370 t371 t374)))))) = some (r1, r2, r3, r4) := by rw [if_neg (show ¬ (false = true) by decide)] at H; exact H
    clear H
    have H := H1
    clear H1
    by_cases c36 : (t364.length : Int) = 0
    ·rw [if_pos c36] at H
     have c36b0 : ((t364.length : Int) == 0) = true := beq_iff_eq.mpr c36
     have c36b1 : ((t364.length : Int) != 0) = false := bne_eq_false_iff_eq.mpr c36
     clear c36
     simp only [Option.some.injEq, Prod.mk.injEq] at H
     obtain ⟨rfl, rfl, rfl, rfl⟩ := H
     have hnb37 := NB369_360.out
     have hnc37 := NB360_369.out
     have hnb38 := NB369_361.out
     have hnc38 := NB361_369.out
     have hnb39 := NB369_362.out
     have hnc39 := NB362_369.out
     have hnb40 := NB369_376.out
     have hnc40 := NB376_369.out
     have hcz41_0 : wc.cell? ⟨gb369, 0, none⟩ = some (.bool t363) := (blk_cell BK369.out 0).trans rfl
     have hcz41_1 : wc.cell? ⟨gb369, 1, none⟩ = some (.slice Ao18 t364.length co18) := (blk_cell BK369.out 1).trans rfl
     have hcz41_2 : wc.cell? ⟨gb369, 2, none⟩ = some (.int .i64 t367) := (blk_cell BK369.out 2).trans rfl
     have hfz41_0 := blk_frozen BK369.out 0
     have hfz41_1 := blk_frozen BK369.out 1
     have hfz41_2 := blk_frozen BK369.out 2
     have hnb42 := NB376_360.out
     have hnc42 := NB360_376.out
     have hnb43 := NB376_361.out
     have hnc43 := NB361_376.out
     have hnb44 := NB376_362.out
     have hnc44 := NB362_376.out
     have hcz45_0 : wc.cell? ⟨gb376, 0, none⟩ = some (.bool t370) := (blk_cell BK376.out 0).trans rfl
     have hcz45_1 : wc.cell? ⟨gb376, 1, none⟩ = some (.slice Ao28 t371.length co28) := (blk_cell BK376.out 1).trans rfl
     have hcz45_2 : wc.cell? ⟨gb376, 2, none⟩ = some (.int .i64 t374) := (blk_cell BK376.out 2).trans rfl
     have hfz45_0 := blk_frozen BK376.out 0
     have hfz45_1 := blk_frozen BK376.out 1
     have hfz45_2 := blk_frozen BK376.out 2
     have hnb46 := NB362_360.out
     have hnc46 := NB360_362.out
     have hnb47 := NB362_361.out
     have hnc47 := NB361_362.out
     have hcz48_0 : wc.cell? ⟨gb362, 0, none⟩ = some (.bool false) := (blk_cell BK362.out 0).trans rfl
     have hcz48_1 : wc.cell? ⟨gb362, 1, none⟩ = some (.slice none 0 0) := (blk_cell BK362.out 1).trans rfl
     have hcz48_2 : wc.cell? ⟨gb362, 2, none⟩ = some (.int .i64 0) := (blk_cell BK362.out 2).trans rfl
     have hfz48_0 := blk_frozen BK362.out 0
     have hfz48_1 := blk_frozen BK362.out 1
     have hfz48_2 := blk_frozen BK362.out 2
     go_wp2
     refine bodyPost_ret (results_ct rfl _ _ gb362 43 #[.bool t370, .slice Ao28 t371.length co28, .int .i64 t374] (0, 0) _ rfl (by (with_reducible repeat (first | apply bN | apply bD | apply bA)); refine blk_put (cs := #[.bool t370, .slice Ao28 t371.length co28, .int .i64 0]) ?_ 2 _ rfl; (with_reducible repeat (first | apply bN | apply bD | apply bA)); refine blk_put (cs := #[.bool t370, .slice none 0 0, .int .i64 0]) ?_ 1 _ rfl; (with_reducible repeat (first | apply bN | apply bD | apply bA)); refine blk_put (cs := #[.bool false, .slice none 0 0, .int .i64 0]) ?_ 0 _ rfl; exact bk_ BK362) Try.underlying43 rfl (by kernel_rfl)) rfl ?_
     exact ⟨_, by first | rfl | (simp [errW_none, errW_some] <;> rfl) | (simp [*, errW_none, errW_some] <;> rfl), by (with_reducible repeat (first | apply rA | apply rN | apply rD)); exact Kd.R_mono (Kd.R_far (p := ⟨gb362, 2, none⟩) (Kd.R_far (p := ⟨gb362, 1, none⟩) (Kd.R_far (p := ⟨gb362, 0, none⟩) (Kd.R_types HO_377001.out BK362.out (by decide)) (fun _ hk => hk.2) (.bool t370)) (fun _ hk => hk.2) (.slice Ao28 t371.length co28)) (fun _ hk => hk.2) (.int .i64 t374)) (fun _ hk => trivial), bl_ HB⟩
    ·rw [if_neg c36] at H
     have c36b0 : ((t364.length : Int) == 0) = false := beq_eq_false_iff_ne.mpr c36
     have c36b1 : ((t364.length : Int) != 0) = true := bne_iff_ne.mpr c36
     have c36b2 : ¬ (t364 = []) := fun h_ => c36 (by rw [h_]; rfl)
     by_cases c49 : (t371.length : Int) = 0
     ·rw [if_pos c49] at H
      have c49b0 : ((t371.length : Int) == 0) = true := beq_iff_eq.mpr c49
      have c49b1 : ((t371.length : Int) != 0) = false := bne_eq_false_iff_eq.mpr c49
      clear c49
      simp only [Option.some.injEq, Prod.mk.injEq] at H
      obtain ⟨rfl, rfl, rfl, rfl⟩ := H
      have hnb50 := NB369_360.out
      have hnc50 := NB360_369.out
      have hnb51 := NB369_361.out
      have hnc51 := NB361_369.out
      have hnb52 := NB369_362.out
      have hnc52 := NB362_369.out
      have hnb53 := NB369_376.out
      have hnc53 := NB376_369.out
      have hcz54_0 : wc.cell? ⟨gb369, 0, none⟩ = some (.bool t363) := (blk_cell BK369.out 0).trans rfl
      have hcz54_1 : wc.cell? ⟨gb369, 1, none⟩ = some (.slice Ao18 t364.length co18) := (blk_cell BK369.out 1).trans rfl
      have hcz54_2 : wc.cell? ⟨gb369, 2, none⟩ = some (.int .i64 t367) := (blk_cell BK369.out 2).trans rfl
      have hfz54_0 := blk_frozen BK369.out 0
      have hfz54_1 := blk_frozen BK369.out 1
      have hfz54_2 := blk_frozen BK369.out 2
      have hnb55 := NB376_360.out
      have hnc55 := NB360_376.out
      have hnb56 := NB376_361.out
      have hnc56 := NB361_376.out
      have hnb57 := NB376_362.out
      have hnc57 := NB362_376.out
      have hcz58_0 : wc.cell? ⟨gb376, 0, none⟩ = some (.bool t370) := (blk_cell BK376.out 0).trans rfl
      have hcz58_1 : wc.cell? ⟨gb376, 1, none⟩ = some (.slice Ao28 t371.length co28) := (blk_cell BK376.out 1).trans rfl
      have hcz58_2 : wc.cell? ⟨gb376, 2, none⟩ = some (.int .i64 t374) := (blk_cell BK376.out 2).trans rfl
      have hfz58_0 := blk_frozen BK376.out 0
      have hfz58_1 := blk_frozen BK376.out 1
      have hfz58_2 := blk_frozen BK376.out 2
      have hnb59 := NB362_360.out
      have hnc59 := NB360_362.out
      have hnb60 := NB362_361.out
      have hnc60 := NB361_362.out
      have hcz61_0 : wc.cell? ⟨gb362, 0, none⟩ = some (.bool false) := (blk_cell BK362.out 0).trans rfl
      have hcz61_1 : wc.cell? ⟨gb362, 1, none⟩ = some (.slice none 0 0) := (blk_cell BK362.out 1).trans rfl
      have hcz61_2 : wc.cell? ⟨gb362, 2, none⟩ = some (.int .i64 0) := (blk_cell BK362.out 2).trans rfl
      have hfz61_0 := blk_frozen BK362.out 0
      have hfz61_1 := blk_frozen BK362.out 1
      have hfz61_2 := blk_frozen BK362.out 2
      go_wp2
      refine bodyPost_ret (results_ct rfl _ _ gb362 43 #[.bool t363, .slice Ao18 t364.length co18, .int .i64 t367] (0, 0) _ rfl (by (with_reducible repeat (first | apply bN | apply bD | apply bA)); refine blk_put (cs := #[.bool t363, .slice Ao18 t364.length co18, .int .i64 0]) ?_ 2 _ rfl; (with_reducible repeat (first | apply bN | apply bD | apply bA)); refine blk_put (cs := #[.bool t363, .slice none 0 0, .int .i64 0]) ?_ 1 _ rfl; (with_reducible repeat (first | apply bN | apply bD | apply bA)); refine blk_put (cs := #[.bool false, .slice none 0 0, .int .i64 0]) ?_ 0 _ rfl; exact bk_ BK362) Try.underlying43 rfl (by kernel_rfl)) rfl ?_
      exact ⟨_, by first | rfl | (simp [errW_none, errW_some] <;> rfl) | (simp [*, errW_none, errW_some] <;> rfl), by (with_reducible repeat (first | apply rA | apply rN | apply rD)); exact Kd.R_mono (Kd.R_far (p := ⟨gb362, 2, none⟩) (Kd.R_far (p := ⟨gb362, 1, none⟩) (Kd.R_far (p := ⟨gb362, 0, none⟩) (Kd.R_types HO_370001.out BK362.out (by decide)) (fun _ hk => hk.2) (.bool t363)) (fun _ hk => hk.2) (.slice Ao18 t364.length co18)) (fun _ hk => hk.2) (.int .i64 t367)) (fun _ hk => trivial), bl_ HB⟩
     ·rw [if_neg c49] at H
      have c49b0 : ((t371.length : Int) == 0) = false := beq_eq_false_iff_ne.mpr c49
      have c49b1 : ((t371.length : Int) != 0) = true := bne_iff_ne.mpr c49
      have c49b2 : ¬ (t371 = []) := fun h_ => c49 (by rw [h_]; rfl)
      obtain ⟨ji62, hji62⟩ : ∃ j_ : Int, (mn t367 t374) = j_ := ⟨_, rfl⟩
      replace H : ((r02_Moved.f kj4 t364 (wrap64 (t367 - (ji62)))).bind fun t377 => ((r02_Moved.f kj4 t371 (wrap64 (t374 - (ji62)))).bind fun t380 => (if (t377.length : Int) > 8192 then (r03_Add.j1 kj4 ji62 t377 t380 true t363 t364 t367 t370 t371 t374) else (r03_Add.j1 kj4 ji62 t377 t380 (decide ((t380.length : Int) > 8192)) t363 t364 t367 t370 t371 t374)))) = some (r1, r2, r3, r4) := by first | (rw [hji62] at H; exact H) | (simp only [hji62] at H ⊢; exact H)
      have hji62_ : (if t374 < t367 then t374 else t367) = ji62 := hji62
      obtain ⟨t377, A63, H⟩ := ob_ H
      try dsimp only at H
      obtain ⟨t380, A64, H⟩ := ob_ H
      try dsimp only at H
      have HC65 := Aside0.mk H
      clear H
      have hnb66 := NB369_360.out
      have hnc66 := NB360_369.out
      have hnb67 := NB369_361.out
      have hnc67 := NB361_369.out
      have hnb68 := NB369_362.out
      have hnc68 := NB362_369.out
      have hnb69 := NB369_376.out
      have hnc69 := NB376_369.out
      have hcz70_0 : wc.cell? ⟨gb369, 0, none⟩ = some (.bool t363) := (blk_cell BK369.out 0).trans rfl
      have hcz70_1 : wc.cell? ⟨gb369, 1, none⟩ = some (.slice Ao18 t364.length co18) := (blk_cell BK369.out 1).trans rfl
      have hcz70_2 : wc.cell? ⟨gb369, 2, none⟩ = some (.int .i64 t367) := (blk_cell BK369.out 2).trans rfl
      have hfz70_0 := blk_frozen BK369.out 0
      have hfz70_1 := blk_frozen BK369.out 1
      have hfz70_2 := blk_frozen BK369.out 2
      have hnb71 := NB376_360.out
      have hnc71 := NB360_376.out
      have hnb72 := NB376_361.out
      have hnc72 := NB361_376.out
      have hnb73 := NB376_362.out
      have hnc73 := NB362_376.out
      have hcz74_0 : wc.cell? ⟨gb376, 0, none⟩ = some (.bool t370) := (blk_cell BK376.out 0).trans rfl
      have hcz74_1 : wc.cell? ⟨gb376, 1, none⟩ = some (.slice Ao28 t371.length co28) := (blk_cell BK376.out 1).trans rfl
      have hcz74_2 : wc.cell? ⟨gb376, 2, none⟩ = some (.int .i64 t374) := (blk_cell BK376.out 2).trans rfl
      have hfz74_0 := blk_frozen BK376.out 0
      have hfz74_1 := blk_frozen BK376.out 1
      have hfz74_2 := blk_frozen BK376.out 2
      go_upto_region 12 with (first | ((with_reducible refine gate_callee (f := 58) rfl ?_); refine goesL_ (some 51) rfl rfl Try.func58 (by kernel_rfl) rfl #[.slice Ao18 t364.length co18, .int .i64 (wrap64 (t367 - (ji62)))] rfl (by (try simp only [List.map_toArray, List.map_cons, List.map_nil]); first | done | (simp only [hji62]; rfl) | rfl | (simp only [List.length_drop, List.length_take]; rfl)) ?_; (with_reducible refine (r02_Moved.calls kj4 _ _ t364 (wrap64 (t367 - (ji62))) t377 _ ?side1 ?side2 A63.out).mono ?_); (case side1 => repeat (first | exact (Kd.R_reads' HO_370001.out).2.2 | (with_reducible first | apply cA | apply cN | apply cD))); (case side2 => exact (Kd.R_reads' HO_370001.out).2.1); rintro e w75 ⟨v378, rfl, ho0, hb⟩; refine ⟨_, rfl, ?_⟩; have n0_ := Aside0.mk (Kd.R_elder' (rr_ HO_370001) (Kd.R_base ho0) hb); have n1_ := Aside0.mk (Kd.R_elder' (rr_ HO_377001) (Kd.R_base ho0) hb); have n2_ := Aside0.mk (Kd.R_lower (Kd.R_new' (Kd.R_new' ho0 (Kd.R_lt (rr_ HO_370001))) (Kd.R_lt (rr_ HO_377001))) (below_size (bl_ HB))); have n3_ := kb_ BK360 hb; have n4_ := kb_ BK361 hb; have n5_ := kb_ BK362 hb; have n6_ := kb_ BK369 hb; have n7_ := kb_ BK376 hb; have n8_ := bs_ HB hb; clear HO_370001; clear HO_377001; clear BK360; clear BK361; clear BK362; clear BK369; clear BK376; clear HB; have HO_370001 := n0_; have HO_377001 := n1_; have HO379 := n2_; have BK360 := n3_; have BK361 := n4_; have BK362 := n5_; have BK369 := n6_; have BK376 := n7_; have HB := n8_; clear n0_ n1_ n2_ n3_ n4_ n5_ n6_ n7_ n8_; (try clear hb); (try clear hb2); (try clear hk); (try clear hi); (try clear ho0); have hcz76_0 : w75.cell? ⟨gb376, 0, none⟩ = some (.bool t370) := (blk_cell BK376.out 0).trans rfl; have hcz76_1 : w75.cell? ⟨gb376, 1, none⟩ = some (.slice Ao28 t371.length co28) := (blk_cell BK376.out 1).trans rfl; have hcz76_2 : w75.cell? ⟨gb376, 2, none⟩ = some (.int .i64 t374) := (blk_cell BK376.out 2).trans rfl; have hfz76_0 := blk_frozen BK376.out 0; have hfz76_1 := blk_frozen BK376.out 1; have hfz76_2 := blk_frozen BK376.out 2) | ((with_reducible refine gate_callee (f := 58) rfl ?_); refine goesL_ (some 58) rfl rfl Try.func58 (by kernel_rfl) rfl #[.slice Ao28 t371.length co28, .int .i64 (wrap64 (t374 - (ji62)))] rfl (by (try simp only [List.map_toArray, List.map_cons, List.map_nil]); first | done | (simp only [hji62]; rfl) | rfl | (simp only [List.length_drop, List.length_take]; rfl)) ?_; (with_reducible refine (r02_Moved.calls kj4 _ _ t371 (wrap64 (t374 - (ji62))) t380 _ ?side1 ?side2 A64.out).mono ?_); (case side1 => repeat (first | exact (Kd.R_reads' HO_377001.out).2.2 | (with_reducible first | apply cA | apply cN | apply cD))); (case side2 => exact (Kd.R_reads' HO_377001.out).2.1); rintro e w77 ⟨v381, rfl, ho0, hb⟩; refine ⟨_, rfl, ?_⟩; have n0_ := Aside0.mk (Kd.R_elder' (rr_ HO_370001) (Kd.R_base ho0) hb); have n1_ := Aside0.mk (Kd.R_elder' (rr_ HO_377001) (Kd.R_base ho0) hb); have n2_ := Aside0.mk (Kd.R_elder' (rr_ HO379) (Kd.R_base ho0) hb); have n3_ := Aside0.mk (Kd.R_lower (Kd.R_new' (Kd.R_new' (Kd.R_new' ho0 (Kd.R_lt (rr_ HO_370001))) (Kd.R_lt (rr_ HO_377001))) (Kd.R_lt (rr_ HO379))) (below_size (bl_ HB))); have n4_ := kb_ BK360 hb; have n5_ := kb_ BK361 hb; have n6_ := kb_ BK362 hb; have n7_ := kb_ BK369 hb; have n8_ := kb_ BK376 hb; have n9_ := bs_ HB hb; clear HO_370001; clear HO_377001; clear HO379; clear BK360; clear BK361; clear BK362; clear BK369; clear BK376; clear HB; have HO_370001 := n0_; have HO_377001 := n1_; have HO379 := n2_; have HO382 := n3_; have BK360 := n4_; have BK361 := n5_; have BK362 := n6_; have BK369 := n7_; have BK376 := n8_; have HB := n9_; clear n0_ n1_ n2_ n3_ n4_ n5_ n6_ n7_ n8_ n9_; (try clear hb); (try clear hb2); (try clear hk); (try clear hi); (try clear ho0)))
      (try simp only [Act.put, List.setIfInBounds_toArray, List.set_cons_zero, List.set_cons_succ])
      go_cut [66] (fun v66 wc => ∃ (kq : Nat) (x66_64 : Bool), v66 = .bool x66_64 ∧ Aside0 (r03_Add.j1 kq ji62 t377 t380 x66_64 t363 t364 t367 t370 t371 t374 = some (r1, r2, r3, r4)) ∧ Aside0 (kq ≤ kj4) ∧ Aside0 (Kd.R (Kd.int .u32) 72 wc w.heap.size (fun k_ => some k_ ≠ (v381 : Value).ownBlock ∧ some k_ ≠ ((.slice Ao18 t364.length co18) : Value).ownBlock ∧ some k_ ≠ ((.slice Ao28 t371.length co28) : Value).ownBlock) v378 t377) ∧ Aside0 (Kd.R (Kd.int .u32) 72 wc w.heap.size (fun k_ => some k_ ≠ (v378 : Value).ownBlock ∧ some k_ ≠ ((.slice Ao18 t364.length co18) : Value).ownBlock ∧ some k_ ≠ ((.slice Ao28 t371.length co28) : Value).ownBlock) v381 t380) ∧ Aside0 (Kd.R (Kd.int .u32) 72 wc w.heap.size (fun k_ => some k_ ≠ (v378 : Value).ownBlock ∧ some k_ ≠ (v381 : Value).ownBlock ∧ some k_ ≠ ((.slice Ao28 t371.length co28) : Value).ownBlock) (.slice Ao18 t364.length co18) t364) ∧ Aside0 (Kd.R (Kd.int .u32) 72 wc w.heap.size (fun k_ => some k_ ≠ (v378 : Value).ownBlock ∧ some k_ ≠ (v381 : Value).ownBlock ∧ some k_ ≠ ((.slice Ao18 t364.length co18) : Value).ownBlock) (.slice Ao28 t371.length co28) t371) ∧ Aside0 (wc.heap[gb360]? = some (.cells #[.bool a0_0, (.slice A0_1 l0_1.length c0_1), .int .i64 a0_2] 43 (0, 0))) ∧ Aside0 (wc.heap[gb361]? = some (.cells #[.bool a1_0, (.slice A1_1 l1_1.length c1_1), .int .i64 a1_2] 43 (0, 0))) ∧ Aside0 (wc.heap[gb362]? = some (.cells #[.bool false, (.slice none 0 0), .int .i64 0] 43 (0, 0))) ∧ Aside0 (wc.heap[gb369]? = some (.cells #[.bool t363, (.slice Ao18 t364.length co18), .int .i64 t367] 43 (0, 0))) ∧ Aside0 (wc.heap[gb376]? = some (.cells #[.bool t370, (.slice Ao28 t371.length co28), .int .i64 t374] 43 (0, 0))) ∧ Aside0 (Below w.heap.size w wc))
      case first =>
       have H := HC65.out
       clear HC65
       by_cases c78 : (t377.length : Int) > 8192
       ·rw [if_pos c78] at H
        have c78b0 : decide (8192 < (t377.length : Int)) = true := decide_eq_true c78
        have c78b1 : decide (8192 < t377.length) = true := decide_eq_true (by omega)
        clear c78
        (first | rw [c78b0] | (simp only [i64_w, i32_w]; rw [c78b0]) | skip)
        have H' := Aside0.mk H
        clear H
        obtain ⟨Ao79, co79, eo79⟩ := Kd.R_slice HO379.out
        subst eo79
        go_wp2
        go_meet
        case rel => exact ⟨_, (true), (by first | rfl | (simp; done) | (simp [*]; done)), H', ⟨by have := HJ4.out; first | omega | exact Nat.le_refl _⟩, ⟨by (with_reducible repeat (first | apply rA | apply rN | apply rD)); exact Kd.R_mono HO379.out (fun _ hk => by first | exact ⟨hk.2, ⟨hk.1.1.2, hk.1.2⟩⟩ | (revert hk; simp only [and_imp]; intros; (repeat' apply And.intro) <;> assumption))⟩, ⟨by (with_reducible repeat (first | apply rA | apply rN | apply rD)); exact Kd.R_mono HO382.out (fun _ hk => by first | exact ⟨hk.2, ⟨hk.1.1.2, hk.1.2⟩⟩ | (revert hk; simp only [and_imp]; intros; (repeat' apply And.intro) <;> assumption))⟩, ⟨by (with_reducible repeat (first | apply rA | apply rN | apply rD)); exact Kd.R_mono HO_370001.out (fun _ hk => by first | exact ⟨hk.1.2, ⟨hk.2, hk.1.1⟩⟩ | (revert hk; simp only [and_imp]; intros; (repeat' apply And.intro) <;> assumption))⟩, ⟨by (with_reducible repeat (first | apply rA | apply rN | apply rD)); exact Kd.R_mono HO_377001.out (fun _ hk => by first | exact ⟨hk.1.2, ⟨hk.2, hk.1.1⟩⟩ | (revert hk; simp only [and_imp]; intros; (repeat' apply And.intro) <;> assumption))⟩, ⟨bk_ BK360⟩, ⟨bk_ BK361⟩, ⟨bk_ BK362⟩, ⟨bk_ BK369⟩, ⟨bk_ BK376⟩, ⟨bl_ HB⟩⟩
       ·rw [if_neg c78] at H
        have c78b0 : decide (8192 < (t377.length : Int)) = false := decide_eq_false c78
        have c78b1 : decide (8192 < t377.length) = false := decide_eq_false (by omega)
        clear c78
        (first | rw [c78b0] | (simp only [i64_w, i32_w]; rw [c78b0]) | skip)
        have H' := Aside0.mk H
        clear H
        obtain ⟨Ao80, co80, eo80⟩ := Kd.R_slice HO379.out
        subst eo80
        obtain ⟨Ao81, co81, eo81⟩ := Kd.R_slice HO382.out
        subst eo81
        go_wp2
        go_meet
        case rel => exact ⟨_, (decide ((t380.length : Int) > 8192)), (by first | rfl | (simp; done) | (simp [*]; done)), H', ⟨by have := HJ4.out; first | omega | exact Nat.le_refl _⟩, ⟨by (with_reducible repeat (first | apply rA | apply rN | apply rD)); exact Kd.R_mono HO379.out (fun _ hk => by first | exact ⟨hk.2, ⟨hk.1.1.2, hk.1.2⟩⟩ | (revert hk; simp only [and_imp]; intros; (repeat' apply And.intro) <;> assumption))⟩, ⟨by (with_reducible repeat (first | apply rA | apply rN | apply rD)); exact Kd.R_mono HO382.out (fun _ hk => by first | exact ⟨hk.2, ⟨hk.1.1.2, hk.1.2⟩⟩ | (revert hk; simp only [and_imp]; intros; (repeat' apply And.intro) <;> assumption))⟩, ⟨by (with_reducible repeat (first | apply rA | apply rN | apply rD)); exact Kd.R_mono HO_370001.out (fun _ hk => by first | exact ⟨hk.1.2, ⟨hk.2, hk.1.1⟩⟩ | (revert hk; simp only [and_imp]; intros; (repeat' apply And.intro) <;> assumption))⟩, ⟨by (with_reducible repeat (first | apply rA | apply rN | apply rD)); exact Kd.R_mono HO_377001.out (fun _ hk => by first | exact ⟨hk.1.2, ⟨hk.2, hk.1.1⟩⟩ | (revert hk; simp only [and_imp]; intros; (repeat' apply And.intro) <;> assumption))⟩, ⟨bk_ BK360⟩, ⟨bk_ BK361⟩, ⟨bk_ BK362⟩, ⟨bk_ BK369⟩, ⟨bk_ BK376⟩, ⟨bl_ HB⟩⟩
      case rest =>
       clear HC65
       try clear c1
       try clear c2
       try clear p2
       try clear c3
       try clear c4
       try clear c5
       try clear c6
       try clear p6
       try clear c7
       try clear c9
       try clear c10
       try clear c14
       try clear c15
       try clear c16
       try clear c19
       try clear c23
       try clear c24
       try clear c25
       try clear c26
       try clear c29
       try clear c30
       try clear c31
       try clear c32
       try clear c33
       try clear c34
       try clear c35
       try clear c36
       try clear c36b0
       try clear c36b1
       try clear c36b2
       try clear c37
       try clear c38
       try clear c39
       try clear c40
       try clear c42
       try clear c43
       try clear c44
       try clear c46
       try clear c47
       try clear c49
       try clear c49b0
       try clear c49b1
       try clear c49b2
       try clear c50
       try clear c51
       try clear c52
       try clear c53
       try clear c55
       try clear c56
       try clear c57
       try clear c58
       try clear c59
       try clear c60
       try clear p64
       try clear c66
       try clear c67
       try clear c68
       try clear c69
       try clear c71
       try clear c72
       try clear c73
       try clear c78
       try clear c78b0
       try clear c78b1
       try clear hcz11_0
       try clear hcz11_1
       try clear hcz11_2
       try clear hcz17_0
       try clear hcz17_1
       try clear hcz17_2
       try clear hcz20_0
       try clear hcz20_1
       try clear hcz20_2
       try clear hcz27_0
       try clear hcz27_1
       try clear hcz27_2
       try clear hcz35_0
       try clear hcz35_1
       try clear hcz35_2
       try clear hcz41_0
       try clear hcz41_1
       try clear hcz41_2
       try clear hcz45_0
       try clear hcz45_1
       try clear hcz45_2
       try clear hcz48_0
       try clear hcz48_1
       try clear hcz48_2
       try clear hcz54_0
       try clear hcz54_1
       try clear hcz54_2
       try clear hcz58_0
       try clear hcz58_1
       try clear hcz58_2
       try clear hcz61_0
       try clear hcz61_1
       try clear hcz61_2
       try clear hcz70_0
       try clear hcz70_1
       try clear hcz70_2
       try clear hcz74_0
       try clear hcz74_1
       try clear hcz74_2
       try clear hcz76_0
       try clear hcz76_1
       try clear hcz76_2
       try clear hfz11_0
       try clear hfz11_1
       try clear hfz11_2
       try clear hfz17_0
       try clear hfz17_1
       try clear hfz17_2
       try clear hfz20_0
       try clear hfz20_1
       try clear hfz20_2
       try clear hfz27_0
       try clear hfz27_1
       try clear hfz27_2
       try clear hfz35_0
       try clear hfz35_1
       try clear hfz35_2
       try clear hfz41_0
       try clear hfz41_1
       try clear hfz41_2
       try clear hfz45_0
       try clear hfz45_1
       try clear hfz45_2
       try clear hfz48_0
       try clear hfz48_1
       try clear hfz48_2
       try clear hfz54_0
       try clear hfz54_1
       try clear hfz54_2
       try clear hfz58_0
       try clear hfz58_1
       try clear hfz58_2
       try clear hfz61_0
       try clear hfz61_1
       try clear hfz61_2
       try clear hfz70_0
       try clear hfz70_1
       try clear hfz70_2
       try clear hfz74_0
       try clear hfz74_1
       try clear hfz74_2
       try clear hfz76_0
       try clear hfz76_1
       try clear hfz76_2
       try clear p2
       obtain ⟨kq, x66_64, rfl, HA, HJ64, HO_11, HO_12, HO_370001, HO_377001, BK360, BK361, BK362, BK369, BK376, HB⟩ := hcut
       cases kq with
       | zero => exact absurd HA.out (by simp [r03_Add.j1])
       | succ kj64 =>
        have H := HA.out
        clear HA
        simp only [r03_Add.j1] at H
        by_cases c82 : x66_64 = true
        ·subst c82
         have H1 : (some (false, ([] : List Int), 0, 2)) = some (r1, r2, r3, r4) := by rw [if_pos rfl] at H; exact H
         clear H
         have H := H1
         clear H1
         simp only [Option.some.injEq, Prod.mk.injEq] at H
         obtain ⟨rfl, rfl, rfl, rfl⟩ := H
         have hnb83 := NB362_360.out
         have hnc83 := NB360_362.out
         have hnb84 := NB362_361.out
         have hnc84 := NB361_362.out
         have hnb85 := NB362_369.out
         have hnc85 := NB369_362.out
         have hnb86 := NB362_376.out
         have hnc86 := NB376_362.out
         have hcz87_0 : wc.cell? ⟨gb362, 0, none⟩ = some (.bool false) := (blk_cell BK362.out 0).trans rfl
         have hcz87_1 : wc.cell? ⟨gb362, 1, none⟩ = some (.slice none 0 0) := (blk_cell BK362.out 1).trans rfl
         have hcz87_2 : wc.cell? ⟨gb362, 2, none⟩ = some (.int .i64 0) := (blk_cell BK362.out 2).trans rfl
         have hfz87_0 := blk_frozen BK362.out 0
         have hfz87_1 := blk_frozen BK362.out 1
         have hfz87_2 := blk_frozen BK362.out 2
         go_wp2
         refine bodyPost_ret (results_ct rfl _ _ gb362 43 #[.bool false, .slice none 0 0, .int .i64 0] (0, 0) _ rfl (by (with_reducible repeat (first | apply bN | apply bD | apply bA)); refine blk_put (cs := #[.bool false, .slice none 0 0, .int .i64 0]) ?_ 2 _ rfl; (with_reducible repeat (first | apply bN | apply bD | apply bA)); refine blk_put (cs := #[.bool false, .slice none 0 0, .int .i64 0]) ?_ 1 _ rfl; (with_reducible repeat (first | apply bN | apply bD | apply bA)); refine blk_put (cs := #[.bool false, .slice none 0 0, .int .i64 0]) ?_ 0 _ rfl; exact bk_ BK362) Try.underlying43 rfl (by kernel_rfl)) rfl ?_
         exact ⟨_, by first | rfl | (simp [errW_none, errW_some] <;> rfl) | (simp only [← hji62]; first | rfl | (simp [errW_none, errW_some] <;> rfl)) | (simp [*, errW_none, errW_some] <;> rfl), by first | exact Kd.R_nil _ _ _ _ _ | exact Kd.N_nil _ _ _ _ _ | exact Kd.V_nil _ _ _ _ _ | exact Kd.Q_nil _ _ _ _ _ | exact Kd.S_nil _ _ _ _ _, bl_ HB⟩
        ·replace c82 := Bool.eq_false_iff.mpr c82
         subst c82
         have H1 : (if (t363 == t370) = true then ((r02_Plus.f kj64 t377 t380).bind fun t383 => ((r03_told.f kj64 t363 t383 ji62).bind fun bt386 => (some (bt386.1, bt386.2.1, bt386.2.2.1, bt386.2.2.2)))) else ((r02_Cmp.f kj64 t377 t380).bind fun t392 => (if t392 ≥ 0 then ((r02_Minus.f kj64 t377 t380).bind fun t393 => ((r03_told.f kj64 t363 t393 ji62).bind fun bt396 => (some (bt396.1, bt396.2.1, bt396.2.2.1, bt396.2.2.2)))) else ((r02_Minus.f kj64 t380 t377).bind fun t402 => ((r03_told.f kj64 t370 t402 ji62).bind fun bt405 => (some (bt405.1, bt405.2.1, bt405.2.2.1, bt405.2.2.2))))))) = some (r1, r2, r3, r4) := by rw [if_neg (show ¬ (false = true) by decide)] at H; exact H
         clear H
         have H := H1
         clear H1
         by_cases c88 : (t363 == t370) = true
         ·rw [if_pos c88] at H
          have c88b0 : (t363 == t370) = true := c88
          (try (have c88b1 : decide (t363 = t370) = true := by simpa using c88))
          (try (have c88b2 : (t363 == t370) = true := by simpa using c88))
          clear c88
          obtain ⟨t383, A89, H⟩ := ob_ H
          try dsimp only at H
          obtain ⟨⟨t386, t387, t390, t391⟩, A90, H⟩ := ob_ H
          try dsimp only at H
          simp only [Option.some.injEq, Prod.mk.injEq] at H
          obtain ⟨rfl, rfl, rfl, rfl⟩ := H
          have hnb91 := NB369_360.out
          have hnc91 := NB360_369.out
          have hnb92 := NB369_361.out
          have hnc92 := NB361_369.out
          have hnb93 := NB369_362.out
          have hnc93 := NB362_369.out
          have hnb94 := NB369_376.out
          have hnc94 := NB376_369.out
          have hcz95_0 : wc.cell? ⟨gb369, 0, none⟩ = some (.bool t363) := (blk_cell BK369.out 0).trans rfl
          have hcz95_1 : wc.cell? ⟨gb369, 1, none⟩ = some (.slice Ao18 t364.length co18) := (blk_cell BK369.out 1).trans rfl
          have hcz95_2 : wc.cell? ⟨gb369, 2, none⟩ = some (.int .i64 t367) := (blk_cell BK369.out 2).trans rfl
          have hfz95_0 := blk_frozen BK369.out 0
          have hfz95_1 := blk_frozen BK369.out 1
          have hfz95_2 := blk_frozen BK369.out 2
          have hnb96 := NB376_360.out
          have hnc96 := NB360_376.out
          have hnb97 := NB376_361.out
          have hnc97 := NB361_376.out
          have hnb98 := NB376_362.out
          have hnc98 := NB362_376.out
          have hcz99_0 : wc.cell? ⟨gb376, 0, none⟩ = some (.bool t370) := (blk_cell BK376.out 0).trans rfl
          have hcz99_1 : wc.cell? ⟨gb376, 1, none⟩ = some (.slice Ao28 t371.length co28) := (blk_cell BK376.out 1).trans rfl
          have hcz99_2 : wc.cell? ⟨gb376, 2, none⟩ = some (.int .i64 t374) := (blk_cell BK376.out 2).trans rfl
          have hfz99_0 := blk_frozen BK376.out 0
          have hfz99_1 := blk_frozen BK376.out 1
          have hfz99_2 := blk_frozen BK376.out 2
          try go_wp2
          have n0_ := Aside0.mk (Kd.R_drew HO_11.out)
          have n1_ := Aside0.mk (Kd.R_drew HO_12.out)
          have n2_ := Aside0.mk (Kd.R_drew HO_370001.out)
          have n3_ := Aside0.mk (Kd.R_drew HO_377001.out)
          have n4_ := Aside0.mk (blk_drew BK360.out)
          have n5_ := Aside0.mk (blk_drew BK361.out)
          have n6_ := Aside0.mk (blk_drew BK362.out)
          have n7_ := Aside0.mk (blk_drew BK369.out)
          have n8_ := Aside0.mk (blk_drew BK376.out)
          have n9_ := Aside0.mk (below_drew1 HB.out)
          clear HO_11
          clear HO_12
          clear HO_370001
          clear HO_377001
          clear BK360
          clear BK361
          clear BK362
          clear BK369
          clear BK376
          clear HB
          have HO_11 := n0_
          have HO_12 := n1_
          have HO_370001 := n2_
          have HO_377001 := n3_
          have BK360 := n4_
          have BK361 := n5_
          have BK362 := n6_
          have BK369 := n7_
          have BK376 := n8_
          have HB := n9_
          clear n0_ n1_ n2_ n3_ n4_ n5_ n6_ n7_ n8_ n9_
          obtain ⟨Ao101, co101, eo101⟩ := Kd.R_slice HO_11.out
          (first | subst eo101 | (injection eo101 with f1_ f2_ f3_; have f4_ := f1_.symm; have f5_ := f3_.symm; clear f1_ f2_ f3_; subst f4_; subst f5_))
          obtain ⟨Ao102, co102, eo102⟩ := Kd.R_slice HO_12.out
          (first | subst eo102 | (injection eo102 with f1_ f2_ f3_; have f4_ := f1_.symm; have f5_ := f3_.symm; clear f1_ f2_ f3_; subst f4_; subst f5_))
          refine start_ (n := 11) (S := fun w' => w'.cell? ⟨gb369, 0, none⟩ = some (.bool t363) ∧ w'.cell? ⟨gb369, 1, none⟩ = some (.slice Ao18 t364.length co18) ∧ w'.cell? ⟨gb369, 2, none⟩ = some (.int .i64 t367)) (ds := []) #[false, false, false, false, false, false, false, false, false, false, false] (by kernel_rfl) rfl rfl ⟨(blk_cell BK369.out 0).trans rfl, (blk_cell BK369.out 1).trans rfl, (blk_cell BK369.out 2).trans rfl⟩ (fun hHeld => ?_); refine with_tabW r03_Add.tab15 r03_Add.bits15 (fun HT_ HW_ => ?_)
          generalize wc.drew = w100 at HO_11 HO_12 HO_370001 HO_377001 BK360 BK361 BK362 BK369 BK376 HB hHeld ⊢
          refine pure_ (i := 0) (N := some 73) (v := ?_) (a' := ?_) #[true, false, false, false, false, false, false, false, false, false, false] rfl rfl (any_of HT_.out (by kernel_rfl)) (fun _ _ _ h => h) (Or.inl ⟨by rfl, ?_⟩) ?_ ?_
          rotate_left
          ·intro w'
           go_simp
           with_reducible rfl
          rotate_left
          ·simp only [Act.put, List.setIfInBounds_toArray, List.set_cons_zero, List.set_cons_succ, i64_w, i32_w]
           rfl
          refine pure_ (i := 2) (N := some 75) (v := ?_) (a' := ?_) #[true, false, true, false, false, false, false, false, false, false, false] rfl rfl (any_of HT_.out (by kernel_rfl)) (fun _ _ _ h => h) (Or.inl ⟨by rfl, ?_⟩) ?_ ?_
          rotate_left
          ·intro w'
           go_simp
           with_reducible rfl
          rotate_left
          ·simp only [Act.put, List.setIfInBounds_toArray, List.set_cons_zero, List.set_cons_succ, i64_w, i32_w]
           rfl
          refine pure_ (i := 3) (N := some 76) (v := ?_) (a' := ?_) #[true, false, true, true, false, false, false, false, false, false, false] rfl rfl (any_of HT_.out (by kernel_rfl)) (fun _ _ _ h => h) (Or.inl ⟨by rfl, ?_⟩) ?_ ?_
          rotate_left
          ·intro w'
           go_simp
           with_reducible rfl
          rotate_left
          ·simp only [Act.put, List.setIfInBounds_toArray, List.set_cons_zero, List.set_cons_succ, i64_w, i32_w]
           rfl
          refine pure_ (i := 5) (N := some 78) (v := ?_) (a' := ?_) #[true, false, true, true, false, true, false, false, false, false, false] rfl rfl (any_of HT_.out (by kernel_rfl)) (fun _ _ _ h => h) (Or.inl ⟨by rfl, ?_⟩) ?_ ?_
          rotate_left
          ·intro w'
           go_simp
           with_reducible rfl
          rotate_left
          ·simp only [Act.put, List.setIfInBounds_toArray, List.set_cons_zero, List.set_cons_succ, i64_w, i32_w]
           rfl
          refine take_ (i := 1) (N := some 74) (v := ?_) (a' := ?_) #[true, true, true, true, false, true, false, false, false, false, false] rfl rfl (take_ofW HT_.out HW_.out (by kernel_rfl)) (fun _ _ _ h => h) (Or.inl ⟨by rfl, ?_⟩) hHeld ?_ ?_
          rotate_left
          ·rintro w' ⟨s0, s1, s2⟩
           go_simp
           with_reducible rfl
          rotate_left
          ·simp only [Act.put, List.setIfInBounds_toArray, List.set_cons_zero, List.set_cons_succ, i64_w, i32_w]
           rfl
          refine one_ (i := 4) (N := some 77) #[true, true, true, true, true, true, false, false, false, false, false] rfl rfl (one_of HT_.out (by kernel_rfl)) (by decide) (fun K hK => ?_)
          refine goes_ Try.func60 (by kernel_rfl) rfl #[.slice Ao101 t377.length co101, .slice Ao102 t380.length co102] (by rfl) rfl rfl (by (try simp only [List.map_toArray, List.map_cons, List.map_nil]); first | done | rfl | (simp only [List.length_drop, List.length_take]; rfl)) ?_
          with_reducible refine (r02_Plus.calls kj64 _ _ t377 _ _ t380 t383 _ ?side1 ?side2 ?side3 ?side4 A89.out).mono ?_
          (case side1 => repeat (first | exact (Kd.R_reads' HO_11.out).2.2 | (with_reducible first | apply cA | apply cN | apply cD)))
          (case side2 => exact (Kd.R_reads' HO_11.out).2.1)
          (case side3 => repeat (first | exact (Kd.R_reads' HO_12.out).2.2 | (with_reducible first | apply cA | apply cN | apply cD)))
          (case side4 => exact (Kd.R_reads' HO_12.out).2.1)
          rintro e w103 ⟨v384, rfl, ho0, hb⟩
          refine ⟨_, rfl, ?_⟩
          have n0_ := Aside0.mk (Kd.R_elder' (rr_ HO_11) (Kd.R_base ho0) hb)
          have n1_ := Aside0.mk (Kd.R_elder' (rr_ HO_12) (Kd.R_base ho0) hb)
          have n2_ := Aside0.mk (Kd.R_elder' (rr_ HO_370001) (Kd.R_base ho0) hb)
          have n3_ := Aside0.mk (Kd.R_elder' (rr_ HO_377001) (Kd.R_base ho0) hb)
          have n4_ := Aside0.mk (Kd.R_lower (Kd.R_new' (Kd.R_new' (Kd.R_new' (Kd.R_new' ho0 (Kd.R_lt (rr_ HO_11))) (Kd.R_lt (rr_ HO_12))) (Kd.R_lt (rr_ HO_370001))) (Kd.R_lt (rr_ HO_377001))) (below_size (bl_ HB)))
          have n5_ := kb_ BK360 hb
          have n6_ := kb_ BK361 hb
          have n7_ := kb_ BK362 hb
          have n8_ := kb_ BK369 hb
          have n9_ := kb_ BK376 hb
          have n10_ := bs_ HB hb
          clear HO_11
          clear HO_12
          clear HO_370001
          clear HO_377001
          clear BK360
          clear BK361
          clear BK362
          clear BK369
          clear BK376
          clear HB
          have HO_11 := n0_
          have HO_12 := n1_
          have HO_370001 := n2_
          have HO_377001 := n3_
          have HO385 := n4_
          have BK360 := n5_
          have BK361 := n6_
          have BK362 := n7_
          have BK369 := n8_
          have BK376 := n9_
          have HB := n10_
          clear n0_ n1_ n2_ n3_ n4_ n5_ n6_ n7_ n8_ n9_ n10_
          (try clear hb)
          (try clear hb2)
          (try clear hk)
          (try clear hi)
          (try clear ho0)
          obtain ⟨Ao104, co104, eo104⟩ := Kd.R_slice HO385.out
          (first | subst eo104 | (injection eo104 with f1_ f2_ f3_; have f4_ := f1_.symm; have f5_ := f3_.symm; clear f1_ f2_ f3_; subst f4_; subst f5_))
          refine hK.out _ _ ⟨(blk_cell BK369.out 0).trans rfl, (blk_cell BK369.out 1).trans rfl, (blk_cell BK369.out 2).trans rfl⟩ (fun hHeld => ?_)
          clear hK K
          refine norm_ (a' := ?_) ?_ ?_
          rotate_left
          ·show Act.put _ (some 77) _ = _
           simp only [Act.put, List.setIfInBounds_toArray, List.set_cons_zero, List.set_cons_succ, i64_w, i32_w]
           rfl
          refine one_ (i := 6) (N := some 79) #[true, true, true, true, true, true, true, false, false, false, false] rfl rfl (one_of HT_.out (by kernel_rfl)) (by decide) (fun K hK => ?_)
          refine goes_ Try.func59 (by kernel_rfl) rfl #[.bool t363, .slice Ao104 t383.length co104, .int .i64 ji62] (by rfl) rfl rfl (by (try simp only [List.map_toArray, List.map_cons, List.map_nil]); first | done | (simp only [hji62]; rfl) | rfl | (simp only [List.length_drop, List.length_take]; rfl)) ?_
          with_reducible refine (r03_told.calls kj64 t363 _ _ t383 ji62 t386 t387 t390 t391 _ ?side1 ?side2 A90.out).mono ?_
          (case side1 => repeat (first | exact (Kd.R_reads' HO385.out).2.2 | (with_reducible first | apply cA | apply cN | apply cD)))
          (case side2 => exact (Kd.R_reads' HO385.out).2.1)
          rintro e w105 ⟨v388, rfl, ho0, hb⟩
          refine ⟨_, rfl, ?_⟩
          have n0_ := Aside0.mk (Kd.R_elder' (rr_ HO_11) (Kd.R_base ho0) hb)
          have n1_ := Aside0.mk (Kd.R_elder' (rr_ HO_12) (Kd.R_base ho0) hb)
          have n2_ := Aside0.mk (Kd.R_elder' (rr_ HO_370001) (Kd.R_base ho0) hb)
          have n3_ := Aside0.mk (Kd.R_elder' (rr_ HO_377001) (Kd.R_base ho0) hb)
          have n4_ := Aside0.mk (Kd.R_elder' (rr_ HO385) (Kd.R_base ho0) hb)
          have n5_ := Aside0.mk (Kd.R_lower (Kd.R_new' (Kd.R_new' (Kd.R_new' (Kd.R_new' (Kd.R_new' ho0 (Kd.R_lt (rr_ HO_11))) (Kd.R_lt (rr_ HO_12))) (Kd.R_lt (rr_ HO_370001))) (Kd.R_lt (rr_ HO_377001))) (Kd.R_lt (rr_ HO385))) (below_size (bl_ HB)))
          have n6_ := kb_ BK360 hb
          have n7_ := kb_ BK361 hb
          have n8_ := kb_ BK362 hb
          have n9_ := kb_ BK369 hb
          have n10_ := kb_ BK376 hb
          have n11_ := bs_ HB hb
          clear HO_11
          clear HO_12
          clear HO_370001
          clear HO_377001
          clear HO385
          clear BK360
          clear BK361
          clear BK362
          clear BK369
          clear BK376
          clear HB
          have HO_11 := n0_
          have HO_12 := n1_
          have HO_370001 := n2_
          have HO_377001 := n3_
          have HO385 := n4_
          have HO389 := n5_
          have BK360 := n6_
          have BK361 := n7_
          have BK362 := n8_
          have BK369 := n9_
          have BK376 := n10_
          have HB := n11_
          clear n0_ n1_ n2_ n3_ n4_ n5_ n6_ n7_ n8_ n9_ n10_ n11_
          (try clear hb)
          (try clear hb2)
          (try clear hk)
          (try clear hi)
          (try clear ho0)
          obtain ⟨Ao107, co107, eo107⟩ := Kd.R_slice HO389.out
          (first | subst eo107 | (injection eo107 with f1_ f2_ f3_; have f4_ := f1_.symm; have f5_ := f3_.symm; clear f1_ f2_ f3_; subst f4_; subst f5_))
          refine hK.out _ _ ⟨(blk_cell BK369.out 0).trans rfl, (blk_cell BK369.out 1).trans rfl, (blk_cell BK369.out 2).trans rfl⟩ (fun hHeld => ?_)
          clear hK K
          refine norm_ (a' := ?_) ?_ ?_
          rotate_left
          ·show Act.put _ (some 79) _ = _
           simp only [Act.put, List.setIfInBounds_toArray, List.set_cons_zero, List.set_cons_succ, i64_w, i32_w]
           rfl
          refine pure_ (i := 7) (N := some 80) (v := ?_) (a' := ?_) #[true, true, true, true, true, true, true, true, false, false, false] rfl rfl (any_of HT_.out (by kernel_rfl)) (fun _ _ _ h => h) (Or.inl ⟨by rfl, ?_⟩) ?_ ?_
          rotate_left
          ·intro w'
           go_simp
           with_reducible rfl
          rotate_left
          ·simp only [Act.put, List.setIfInBounds_toArray, List.set_cons_zero, List.set_cons_succ, i64_w, i32_w]
           rfl
          refine pure_ (i := 8) (N := some 81) (v := ?_) (a' := ?_) #[true, true, true, true, true, true, true, true, true, false, false] rfl rfl (any_of HT_.out (by kernel_rfl)) (fun _ _ _ h => h) (Or.inl ⟨by rfl, ?_⟩) ?_ ?_
          rotate_left
          ·intro w'
           go_simp
           with_reducible rfl
          rotate_left
          ·simp only [Act.put, List.setIfInBounds_toArray, List.set_cons_zero, List.set_cons_succ, i64_w, i32_w]
           rfl
          refine one_ (i := 9) (N := none) #[true, true, true, true, true, true, true, true, true, true, false] rfl rfl (one_of HT_.out (by kernel_rfl)) (by decide) (fun K hK => ?_)
          have hs106 : w105.cell? ⟨gb362, 0, none⟩ = some (.bool false) := (blk_cell BK362.out 0).trans rfl
          have hfs106 := blk_frozen BK362.out 0
          have hns106_0 := NB360_362.out
          have hns106_1 := NB361_362.out
          have hns106_3 := NB369_362.out
          have hns106_4 := NB376_362.out
          have hms106_0 := NB362_360.out
          have hms106_1 := NB362_361.out
          have hms106_3 := NB362_369.out
          have hms106_4 := NB362_376.out
          have hs108 : w105.cell? ⟨gb362, 1, none⟩ = some (.slice none 0 0) := (blk_cell BK362.out 1).trans rfl
          have hfs108 := blk_frozen BK362.out 1
          have hns108_0 := NB360_362.out
          have hns108_1 := NB361_362.out
          have hns108_3 := NB369_362.out
          have hns108_4 := NB376_362.out
          have hms108_0 := NB362_360.out
          have hms108_1 := NB362_361.out
          have hms108_3 := NB362_369.out
          have hms108_4 := NB362_376.out
          have hs109 : w105.cell? ⟨gb362, 2, none⟩ = some (.int .i64 0) := (blk_cell BK362.out 2).trans rfl
          have hfs109 := blk_frozen BK362.out 2
          have hns109_0 := NB360_362.out
          have hns109_1 := NB361_362.out
          have hns109_3 := NB369_362.out
          have hns109_4 := NB376_362.out
          have hms109_0 := NB362_360.out
          have hms109_1 := NB362_361.out
          have hms109_3 := NB362_369.out
          have hms109_4 := NB362_376.out
          refine skip_ (w1 := ?_) (by rfl) rfl ?_ ?_
          rotate_left
          ·go_simp
           rfl
          refine hK.out _ _ ⟨((cell_far (p := ⟨gb362, _, none⟩) NB369_362.out _).trans (((cell_far (p := ⟨gb362, _, none⟩) NB369_362.out _).trans (((cell_far (p := ⟨gb362, _, none⟩) NB369_362.out _).trans (hHeld.1)))))), ((cell_far (p := ⟨gb362, _, none⟩) NB369_362.out _).trans (((cell_far (p := ⟨gb362, _, none⟩) NB369_362.out _).trans (((cell_far (p := ⟨gb362, _, none⟩) NB369_362.out _).trans (hHeld.2.1)))))), ((cell_far (p := ⟨gb362, _, none⟩) NB369_362.out _).trans (((cell_far (p := ⟨gb362, _, none⟩) NB369_362.out _).trans (((cell_far (p := ⟨gb362, _, none⟩) NB369_362.out _).trans (hHeld.2.2))))))⟩ (fun hHeld => ?_)
          clear hK K
          refine pure_ (i := 10) (N := some 5) (v := ?_) (a' := ?_) #[true, true, true, true, true, true, true, true, true, true, true] rfl rfl (any_of HT_.out (by kernel_rfl)) (fun _ _ _ h => h) (Or.inl ⟨by rfl, ?_⟩) ?_ ?_
          rotate_left
          ·intro w'
           go_simp
           with_reducible rfl
          rotate_left
          ·simp only [Act.put, List.setIfInBounds_toArray, List.set_cons_zero, List.set_cons_succ, i64_w, i32_w]
           rfl
          refine done_ (done_of HT_.out (by kernel_rfl)) ?_
          try go_wp2
          refine bodyPost_ret (results_ct rfl _ _ gb362 43 #[.bool t386, .slice Ao107 t387.length co107, .int .i64 t390] (0, 0) _ rfl (by (with_reducible repeat (first | apply bN | apply bD | apply bA)); refine blk_put (cs := #[.bool t386, .slice Ao107 t387.length co107, .int .i64 0]) ?_ 2 _ rfl; (with_reducible repeat (first | apply bN | apply bD | apply bA)); refine blk_put (cs := #[.bool t386, .slice none 0 0, .int .i64 0]) ?_ 1 _ rfl; (with_reducible repeat (first | apply bN | apply bD | apply bA)); refine blk_put (cs := #[.bool false, .slice none 0 0, .int .i64 0]) ?_ 0 _ rfl; exact bk_ BK362) Try.underlying43 rfl (by kernel_rfl)) rfl ?_
          exact ⟨_, by first | rfl | (simp [errW_none, errW_some] <;> rfl) | (simp only [← hji62]; first | rfl | (simp [errW_none, errW_some] <;> rfl)) | (simp [*, errW_none, errW_some] <;> rfl), by (with_reducible repeat (first | apply rA | apply rN | apply rD)); exact Kd.R_mono (Kd.R_far (p := ⟨gb362, 2, none⟩) (Kd.R_far (p := ⟨gb362, 1, none⟩) (Kd.R_far (p := ⟨gb362, 0, none⟩) (Kd.R_types HO389.out BK362.out (by decide)) (fun _ hk => hk.2) (.bool t386)) (fun _ hk => hk.2) (.slice Ao107 t387.length co107)) (fun _ hk => hk.2) (.int .i64 t390)) (fun _ hk => trivial), bl_ HB⟩
         ·rw [if_neg c88] at H
          have c88b0 : (t363 == t370) = false := by simpa using c88
          (try (have c88b1 : decide (t363 = t370) = false := by simpa using c88))
          (try (have c88b2 : (t363 == t370) = false := by simpa using c88))
          (try (have c88b3 : ¬ (t363 = t370) := by simpa using c88))
          clear c88
          obtain ⟨t392, A110, H⟩ := ob_ H
          try dsimp only at H
          by_cases c111 : t392 ≥ 0
          ·rw [if_pos c111] at H
           have c111b0 : decide (0 ≤ t392) = true := decide_eq_true c111
           clear c111
           obtain ⟨t393, A112, H⟩ := ob_ H
           try dsimp only at H
           obtain ⟨⟨t396, t397, t400, t401⟩, A113, H⟩ := ob_ H
           try dsimp only at H
           simp only [Option.some.injEq, Prod.mk.injEq] at H
           obtain ⟨rfl, rfl, rfl, rfl⟩ := H
           have hnb114 := NB369_360.out
           have hnc114 := NB360_369.out
           have hnb115 := NB369_361.out
           have hnc115 := NB361_369.out
           have hnb116 := NB369_362.out
           have hnc116 := NB362_369.out
           have hnb117 := NB369_376.out
           have hnc117 := NB376_369.out
           have hcz118_0 : wc.cell? ⟨gb369, 0, none⟩ = some (.bool t363) := (blk_cell BK369.out 0).trans rfl
           have hcz118_1 : wc.cell? ⟨gb369, 1, none⟩ = some (.slice Ao18 t364.length co18) := (blk_cell BK369.out 1).trans rfl
           have hcz118_2 : wc.cell? ⟨gb369, 2, none⟩ = some (.int .i64 t367) := (blk_cell BK369.out 2).trans rfl
           have hfz118_0 := blk_frozen BK369.out 0
           have hfz118_1 := blk_frozen BK369.out 1
           have hfz118_2 := blk_frozen BK369.out 2
           have hnb119 := NB376_360.out
           have hnc119 := NB360_376.out
           have hnb120 := NB376_361.out
           have hnc120 := NB361_376.out
           have hnb121 := NB376_362.out
           have hnc121 := NB362_376.out
           have hcz122_0 : wc.cell? ⟨gb376, 0, none⟩ = some (.bool t370) := (blk_cell BK376.out 0).trans rfl
           have hcz122_1 : wc.cell? ⟨gb376, 1, none⟩ = some (.slice Ao28 t371.length co28) := (blk_cell BK376.out 1).trans rfl
           have hcz122_2 : wc.cell? ⟨gb376, 2, none⟩ = some (.int .i64 t374) := (blk_cell BK376.out 2).trans rfl
           have hfz122_0 := blk_frozen BK376.out 0
           have hfz122_1 := blk_frozen BK376.out 1
           have hfz122_2 := blk_frozen BK376.out 2
           obtain ⟨Ao123, co123, eo123⟩ := Kd.R_slice HO_11.out
           subst eo123
           obtain ⟨Ao124, co124, eo124⟩ := Kd.R_slice HO_12.out
           subst eo124
           try go_wp2_with (first | ((with_reducible refine gate_callee (f := 61) rfl ?_); refine goesM (some 84) Try.func61 #[.slice Ao123 t377.length co123, .slice Ao124 t380.length co124] ?_; (with_reducible refine (r02_Cmp.calls kj64 _ _ t377 _ _ t380 t392 _ ?side1 ?side2 ?side3 ?side4 A110.out).mono ?_); (case side1 => repeat (first | exact (Kd.R_reads' HO_11.out).2.2 | (with_reducible first | apply cA | apply cN | apply cD))); (case side2 => exact (Kd.R_reads' HO_11.out).2.1); (case side3 => repeat (first | exact (Kd.R_reads' HO_12.out).2.2 | (with_reducible first | apply cA | apply cN | apply cD))); (case side4 => exact (Kd.R_reads' HO_12.out).2.1); rintro e w' ⟨rfl, ⟨nd, rfl⟩⟩; refine ⟨_, rfl, ?_⟩; (try (rw [drewN_self wc]; generalize hq_ : World.drewN wc _ = wc; have n0_ : Aside0 (Kd.R (Kd.int .u32) 72 wc w.heap.size (fun k_ => some k_ ≠ (.slice Ao124 t380.length co124 : Value).ownBlock ∧ some k_ ≠ (.slice Ao18 t364.length co18 : Value).ownBlock ∧ some k_ ≠ (.slice Ao28 t371.length co28 : Value).ownBlock) (.slice Ao123 t377.length co123) t377) := ⟨by rw [← hq_]; exact (rr_ HO_11)⟩; have n1_ : Aside0 (Kd.R (Kd.int .u32) 72 wc w.heap.size (fun k_ => some k_ ≠ (.slice Ao123 t377.length co123 : Value).ownBlock ∧ some k_ ≠ (.slice Ao18 t364.length co18 : Value).ownBlock ∧ some k_ ≠ (.slice Ao28 t371.length co28 : Value).ownBlock) (.slice Ao124 t380.length co124) t380) := ⟨by rw [← hq_]; exact (rr_ HO_12)⟩; have n2_ : Aside0 (Kd.R (Kd.int .u32) 72 wc w.heap.size (fun k_ => some k_ ≠ (.slice Ao123 t377.length co123 : Value).ownBlock ∧ some k_ ≠ (.slice Ao124 t380.length co124 : Value).ownBlock ∧ some k_ ≠ (.slice Ao28 t371.length co28 : Value).ownBlock) (.slice Ao18 t364.length co18) t364) := ⟨by rw [← hq_]; exact (rr_ HO_370001)⟩; have n3_ : Aside0 (Kd.R (Kd.int .u32) 72 wc w.heap.size (fun k_ => some k_ ≠ (.slice Ao123 t377.length co123 : Value).ownBlock ∧ some k_ ≠ (.slice Ao124 t380.length co124 : Value).ownBlock ∧ some k_ ≠ (.slice Ao18 t364.length co18 : Value).ownBlock) (.slice Ao28 t371.length co28) t371) := ⟨by rw [← hq_]; exact (rr_ HO_377001)⟩; have n4_ : Aside0 (wc.heap[gb360]? = some (.cells #[.bool a0_0, .slice A0_1 l0_1.length c0_1, .int .i64 a0_2] 43 (0, 0))) := ⟨by rw [← hq_]; exact (bk_ BK360)⟩; have n5_ : Aside0 (wc.heap[gb361]? = some (.cells #[.bool a1_0, .slice A1_1 l1_1.length c1_1, .int .i64 a1_2] 43 (0, 0))) := ⟨by rw [← hq_]; exact (bk_ BK361)⟩; have n6_ : Aside0 (wc.heap[gb362]? = some (.cells #[.bool false, .slice none 0 0, .int .i64 0] 43 (0, 0))) := ⟨by rw [← hq_]; exact (bk_ BK362)⟩; have n7_ : Aside0 (wc.heap[gb369]? = some (.cells #[.bool t363, .slice Ao18 t364.length co18, .int .i64 t367] 43 (0, 0))) := ⟨by rw [← hq_]; exact (bk_ BK369)⟩; have n8_ : Aside0 (wc.heap[gb376]? = some (.cells #[.bool t370, .slice Ao28 t371.length co28, .int .i64 t374] 43 (0, 0))) := ⟨by rw [← hq_]; exact (bk_ BK376)⟩; have n9_ : Aside0 (Below w.heap.size w wc) := ⟨by rw [← hq_]; exact (bl_ HB)⟩; clear HO_11 HO_12 HO_370001 HO_377001 BK360 BK361 BK362 BK369 BK376 HB hq_; have HO_11 := n0_; have HO_12 := n1_; have HO_370001 := n2_; have HO_377001 := n3_; have BK360 := n4_; have BK361 := n5_; have BK362 := n6_; have BK369 := n7_; have BK376 := n8_; have HB := n9_; clear n0_ n1_ n2_ n3_ n4_ n5_ n6_ n7_ n8_ n9_))))
           have n0_ := Aside0.mk (Kd.R_drew HO_11.out)
           have n1_ := Aside0.mk (Kd.R_drew HO_12.out)
           have n2_ := Aside0.mk (Kd.R_drew HO_370001.out)
           have n3_ := Aside0.mk (Kd.R_drew HO_377001.out)
           have n4_ := Aside0.mk (blk_drew BK360.out)
           have n5_ := Aside0.mk (blk_drew BK361.out)
           have n6_ := Aside0.mk (blk_drew BK362.out)
           have n7_ := Aside0.mk (blk_drew BK369.out)
           have n8_ := Aside0.mk (blk_drew BK376.out)
           have n9_ := Aside0.mk (below_drew1 HB.out)
           clear HO_11
           clear HO_12
           clear HO_370001
           clear HO_377001
           clear BK360
           clear BK361
           clear BK362
           clear BK369
           clear BK376
           clear HB
           have HO_11 := n0_
           have HO_12 := n1_
           have HO_370001 := n2_
           have HO_377001 := n3_
           have BK360 := n4_
           have BK361 := n5_
           have BK362 := n6_
           have BK369 := n7_
           have BK376 := n8_
           have HB := n9_
           clear n0_ n1_ n2_ n3_ n4_ n5_ n6_ n7_ n8_ n9_
           refine start_ (n := 11) (S := fun w' => w'.cell? ⟨gb369, 0, none⟩ = some (.bool t363) ∧ w'.cell? ⟨gb369, 1, none⟩ = some (.slice Ao18 t364.length co18) ∧ w'.cell? ⟨gb369, 2, none⟩ = some (.int .i64 t367)) (ds := []) #[false, false, false, false, false, false, false, false, false, false, false] (by kernel_rfl) rfl rfl ⟨(blk_cell BK369.out 0).trans rfl, (blk_cell BK369.out 1).trans rfl, (blk_cell BK369.out 2).trans rfl⟩ (fun hHeld => ?_); refine with_tabW r03_Add.tab17 r03_Add.bits17 (fun HT_ HW_ => ?_)
           generalize wc.drew = w125 at HO_11 HO_12 HO_370001 HO_377001 BK360 BK361 BK362 BK369 BK376 HB hHeld ⊢
           refine pure_ (i := 0) (N := some 86) (v := ?_) (a' := ?_) #[true, false, false, false, false, false, false, false, false, false, false] rfl rfl (any_of HT_.out (by kernel_rfl)) (fun _ _ _ h => h) (Or.inl ⟨by rfl, ?_⟩) ?_ ?_
           rotate_left
           ·intro w'
            go_simp
            with_reducible rfl
           rotate_left
           ·simp only [Act.put, List.setIfInBounds_toArray, List.set_cons_zero, List.set_cons_succ, i64_w, i32_w]
            rfl
           refine pure_ (i := 2) (N := some 88) (v := ?_) (a' := ?_) #[true, false, true, false, false, false, false, false, false, false, false] rfl rfl (any_of HT_.out (by kernel_rfl)) (fun _ _ _ h => h) (Or.inl ⟨by rfl, ?_⟩) ?_ ?_
           rotate_left
           ·intro w'
            go_simp
            with_reducible rfl
           rotate_left
           ·simp only [Act.put, List.setIfInBounds_toArray, List.set_cons_zero, List.set_cons_succ, i64_w, i32_w]
            rfl
           refine pure_ (i := 3) (N := some 89) (v := ?_) (a' := ?_) #[true, false, true, true, false, false, false, false, false, false, false] rfl rfl (any_of HT_.out (by kernel_rfl)) (fun _ _ _ h => h) (Or.inl ⟨by rfl, ?_⟩) ?_ ?_
           rotate_left
           ·intro w'
            go_simp
            with_reducible rfl
           rotate_left
           ·simp only [Act.put, List.setIfInBounds_toArray, List.set_cons_zero, List.set_cons_succ, i64_w, i32_w]
            rfl
           refine pure_ (i := 5) (N := some 91) (v := ?_) (a' := ?_) #[true, false, true, true, false, true, false, false, false, false, false] rfl rfl (any_of HT_.out (by kernel_rfl)) (fun _ _ _ h => h) (Or.inl ⟨by rfl, ?_⟩) ?_ ?_
           rotate_left
           ·intro w'
            go_simp
            with_reducible rfl
           rotate_left
           ·simp only [Act.put, List.setIfInBounds_toArray, List.set_cons_zero, List.set_cons_succ, i64_w, i32_w]
            rfl
           refine take_ (i := 1) (N := some 87) (v := ?_) (a' := ?_) #[true, true, true, true, false, true, false, false, false, false, false] rfl rfl (take_ofW HT_.out HW_.out (by kernel_rfl)) (fun _ _ _ h => h) (Or.inl ⟨by rfl, ?_⟩) hHeld ?_ ?_
           rotate_left
           ·rintro w' ⟨s0, s1, s2⟩
            go_simp
            with_reducible rfl
           rotate_left
           ·simp only [Act.put, List.setIfInBounds_toArray, List.set_cons_zero, List.set_cons_succ, i64_w, i32_w]
            rfl
           refine one_ (i := 4) (N := some 90) #[true, true, true, true, true, true, false, false, false, false, false] rfl rfl (one_of HT_.out (by kernel_rfl)) (by decide) (fun K hK => ?_)
           refine goes_ Try.func62 (by kernel_rfl) rfl #[.slice Ao123 t377.length co123, .slice Ao124 t380.length co124] (by rfl) rfl rfl (by (try simp only [List.map_toArray, List.map_cons, List.map_nil]); first | done | rfl | (simp only [List.length_drop, List.length_take]; rfl)) ?_
           with_reducible refine (r02_Minus.calls kj64 _ _ t377 _ _ t380 t393 _ ?side1 ?side2 ?side3 ?side4 A112.out).mono ?_
           (case side1 => repeat (first | exact (Kd.R_reads' HO_11.out).2.2 | (with_reducible first | apply cA | apply cN | apply cD)))
           (case side2 => exact (Kd.R_reads' HO_11.out).2.1)
           (case side3 => repeat (first | exact (Kd.R_reads' HO_12.out).2.2 | (with_reducible first | apply cA | apply cN | apply cD)))
           (case side4 => exact (Kd.R_reads' HO_12.out).2.1)
           rintro e w126 ⟨v394, rfl, ho0, hb⟩
           refine ⟨_, rfl, ?_⟩
           have n0_ := Aside0.mk (Kd.R_elder' (rr_ HO_11) (Kd.R_base ho0) hb)
           have n1_ := Aside0.mk (Kd.R_elder' (rr_ HO_12) (Kd.R_base ho0) hb)
           have n2_ := Aside0.mk (Kd.R_elder' (rr_ HO_370001) (Kd.R_base ho0) hb)
           have n3_ := Aside0.mk (Kd.R_elder' (rr_ HO_377001) (Kd.R_base ho0) hb)
           have n4_ := Aside0.mk (Kd.R_lower (Kd.R_new' (Kd.R_new' (Kd.R_new' (Kd.R_new' ho0 (Kd.R_lt (rr_ HO_11))) (Kd.R_lt (rr_ HO_12))) (Kd.R_lt (rr_ HO_370001))) (Kd.R_lt (rr_ HO_377001))) (below_size (bl_ HB)))
           have n5_ := kb_ BK360 hb
           have n6_ := kb_ BK361 hb
           have n7_ := kb_ BK362 hb
           have n8_ := kb_ BK369 hb
           have n9_ := kb_ BK376 hb
           have n10_ := bs_ HB hb
           clear HO_11
           clear HO_12
           clear HO_370001
           clear HO_377001
           clear BK360
           clear BK361
           clear BK362
           clear BK369
           clear BK376
           clear HB
           have HO_11 := n0_
           have HO_12 := n1_
           have HO_370001 := n2_
           have HO_377001 := n3_
           have HO395 := n4_
           have BK360 := n5_
           have BK361 := n6_
           have BK362 := n7_
           have BK369 := n8_
           have BK376 := n9_
           have HB := n10_
           clear n0_ n1_ n2_ n3_ n4_ n5_ n6_ n7_ n8_ n9_ n10_
           (try clear hb)
           (try clear hb2)
           (try clear hk)
           (try clear hi)
           (try clear ho0)
           obtain ⟨Ao127, co127, eo127⟩ := Kd.R_slice HO395.out
           (first | subst eo127 | (injection eo127 with f1_ f2_ f3_; have f4_ := f1_.symm; have f5_ := f3_.symm; clear f1_ f2_ f3_; subst f4_; subst f5_))
           refine hK.out _ _ ⟨(blk_cell BK369.out 0).trans rfl, (blk_cell BK369.out 1).trans rfl, (blk_cell BK369.out 2).trans rfl⟩ (fun hHeld => ?_)
           clear hK K
           refine norm_ (a' := ?_) ?_ ?_
           rotate_left
           ·show Act.put _ (some 90) _ = _
            simp only [Act.put, List.setIfInBounds_toArray, List.set_cons_zero, List.set_cons_succ, i64_w, i32_w]
            rfl
           refine one_ (i := 6) (N := some 92) #[true, true, true, true, true, true, true, false, false, false, false] rfl rfl (one_of HT_.out (by kernel_rfl)) (by decide) (fun K hK => ?_)
           refine goes_ Try.func59 (by kernel_rfl) rfl #[.bool t363, .slice Ao127 t393.length co127, .int .i64 ji62] (by rfl) rfl rfl (by (try simp only [List.map_toArray, List.map_cons, List.map_nil]); first | done | (simp only [hji62]; rfl) | rfl | (simp only [List.length_drop, List.length_take]; rfl)) ?_
           with_reducible refine (r03_told.calls kj64 t363 _ _ t393 ji62 t396 t397 t400 t401 _ ?side1 ?side2 A113.out).mono ?_
           (case side1 => repeat (first | exact (Kd.R_reads' HO395.out).2.2 | (with_reducible first | apply cA | apply cN | apply cD)))
           (case side2 => exact (Kd.R_reads' HO395.out).2.1)
           rintro e w128 ⟨v398, rfl, ho0, hb⟩
           refine ⟨_, rfl, ?_⟩
           have n0_ := Aside0.mk (Kd.R_elder' (rr_ HO_11) (Kd.R_base ho0) hb)
           have n1_ := Aside0.mk (Kd.R_elder' (rr_ HO_12) (Kd.R_base ho0) hb)
           have n2_ := Aside0.mk (Kd.R_elder' (rr_ HO_370001) (Kd.R_base ho0) hb)
           have n3_ := Aside0.mk (Kd.R_elder' (rr_ HO_377001) (Kd.R_base ho0) hb)
           have n4_ := Aside0.mk (Kd.R_elder' (rr_ HO395) (Kd.R_base ho0) hb)
           have n5_ := Aside0.mk (Kd.R_lower (Kd.R_new' (Kd.R_new' (Kd.R_new' (Kd.R_new' (Kd.R_new' ho0 (Kd.R_lt (rr_ HO_11))) (Kd.R_lt (rr_ HO_12))) (Kd.R_lt (rr_ HO_370001))) (Kd.R_lt (rr_ HO_377001))) (Kd.R_lt (rr_ HO395))) (below_size (bl_ HB)))
           have n6_ := kb_ BK360 hb
           have n7_ := kb_ BK361 hb
           have n8_ := kb_ BK362 hb
           have n9_ := kb_ BK369 hb
           have n10_ := kb_ BK376 hb
           have n11_ := bs_ HB hb
           clear HO_11
           clear HO_12
           clear HO_370001
           clear HO_377001
           clear HO395
           clear BK360
           clear BK361
           clear BK362
           clear BK369
           clear BK376
           clear HB
           have HO_11 := n0_
           have HO_12 := n1_
           have HO_370001 := n2_
           have HO_377001 := n3_
           have HO395 := n4_
           have HO399 := n5_
           have BK360 := n6_
           have BK361 := n7_
           have BK362 := n8_
           have BK369 := n9_
           have BK376 := n10_
           have HB := n11_
           clear n0_ n1_ n2_ n3_ n4_ n5_ n6_ n7_ n8_ n9_ n10_ n11_
           (try clear hb)
           (try clear hb2)
           (try clear hk)
           (try clear hi)
           (try clear ho0)
           obtain ⟨Ao130, co130, eo130⟩ := Kd.R_slice HO399.out
           (first | subst eo130 | (injection eo130 with f1_ f2_ f3_; have f4_ := f1_.symm; have f5_ := f3_.symm; clear f1_ f2_ f3_; subst f4_; subst f5_))
           refine hK.out _ _ ⟨(blk_cell BK369.out 0).trans rfl, (blk_cell BK369.out 1).trans rfl, (blk_cell BK369.out 2).trans rfl⟩ (fun hHeld => ?_)
           clear hK K
           refine norm_ (a' := ?_) ?_ ?_
           rotate_left
           ·show Act.put _ (some 92) _ = _
            simp only [Act.put, List.setIfInBounds_toArray, List.set_cons_zero, List.set_cons_succ, i64_w, i32_w]
            rfl
           refine pure_ (i := 7) (N := some 93) (v := ?_) (a' := ?_) #[true, true, true, true, true, true, true, true, false, false, false] rfl rfl (any_of HT_.out (by kernel_rfl)) (fun _ _ _ h => h) (Or.inl ⟨by rfl, ?_⟩) ?_ ?_
           rotate_left
           ·intro w'
            go_simp
            with_reducible rfl
           rotate_left
           ·simp only [Act.put, List.setIfInBounds_toArray, List.set_cons_zero, List.set_cons_succ, i64_w, i32_w]
            rfl
           refine pure_ (i := 8) (N := some 94) (v := ?_) (a' := ?_) #[true, true, true, true, true, true, true, true, true, false, false] rfl rfl (any_of HT_.out (by kernel_rfl)) (fun _ _ _ h => h) (Or.inl ⟨by rfl, ?_⟩) ?_ ?_
           rotate_left
           ·intro w'
            go_simp
            with_reducible rfl
           rotate_left
           ·simp only [Act.put, List.setIfInBounds_toArray, List.set_cons_zero, List.set_cons_succ, i64_w, i32_w]
            rfl
           refine one_ (i := 9) (N := none) #[true, true, true, true, true, true, true, true, true, true, false] rfl rfl (one_of HT_.out (by kernel_rfl)) (by decide) (fun K hK => ?_)
           have hs129 : w128.cell? ⟨gb362, 0, none⟩ = some (.bool false) := (blk_cell BK362.out 0).trans rfl
           have hfs129 := blk_frozen BK362.out 0
           have hns129_0 := NB360_362.out
           have hns129_1 := NB361_362.out
           have hns129_3 := NB369_362.out
           have hns129_4 := NB376_362.out
           have hms129_0 := NB362_360.out
           have hms129_1 := NB362_361.out
           have hms129_3 := NB362_369.out
           have hms129_4 := NB362_376.out
           have hs131 : w128.cell? ⟨gb362, 1, none⟩ = some (.slice none 0 0) := (blk_cell BK362.out 1).trans rfl
           have hfs131 := blk_frozen BK362.out 1
           have hns131_0 := NB360_362.out
           have hns131_1 := NB361_362.out
           have hns131_3 := NB369_362.out
           have hns131_4 := NB376_362.out
           have hms131_0 := NB362_360.out
           have hms131_1 := NB362_361.out
           have hms131_3 := NB362_369.out
           have hms131_4 := NB362_376.out
           have hs132 : w128.cell? ⟨gb362, 2, none⟩ = some (.int .i64 0) := (blk_cell BK362.out 2).trans rfl
           have hfs132 := blk_frozen BK362.out 2
           have hns132_0 := NB360_362.out
           have hns132_1 := NB361_362.out
           have hns132_3 := NB369_362.out
           have hns132_4 := NB376_362.out
           have hms132_0 := NB362_360.out
           have hms132_1 := NB362_361.out
           have hms132_3 := NB362_369.out
           have hms132_4 := NB362_376.out
           refine skip_ (w1 := ?_) (by rfl) rfl ?_ ?_
           rotate_left
           ·go_simp
            rfl
           refine hK.out _ _ ⟨((cell_far (p := ⟨gb362, _, none⟩) NB369_362.out _).trans (((cell_far (p := ⟨gb362, _, none⟩) NB369_362.out _).trans (((cell_far (p := ⟨gb362, _, none⟩) NB369_362.out _).trans (hHeld.1)))))), ((cell_far (p := ⟨gb362, _, none⟩) NB369_362.out _).trans (((cell_far (p := ⟨gb362, _, none⟩) NB369_362.out _).trans (((cell_far (p := ⟨gb362, _, none⟩) NB369_362.out _).trans (hHeld.2.1)))))), ((cell_far (p := ⟨gb362, _, none⟩) NB369_362.out _).trans (((cell_far (p := ⟨gb362, _, none⟩) NB369_362.out _).trans (((cell_far (p := ⟨gb362, _, none⟩) NB369_362.out _).trans (hHeld.2.2))))))⟩ (fun hHeld => ?_)
           clear hK K
           refine pure_ (i := 10) (N := some 5) (v := ?_) (a' := ?_) #[true, true, true, true, true, true, true, true, true, true, true] rfl rfl (any_of HT_.out (by kernel_rfl)) (fun _ _ _ h => h) (Or.inl ⟨by rfl, ?_⟩) ?_ ?_
           rotate_left
           ·intro w'
            go_simp
            with_reducible rfl
           rotate_left
           ·simp only [Act.put, List.setIfInBounds_toArray, List.set_cons_zero, List.set_cons_succ, i64_w, i32_w]
            rfl
           refine done_ (done_of HT_.out (by kernel_rfl)) ?_
           try go_wp2
           refine bodyPost_ret (results_ct rfl _ _ gb362 43 #[.bool t396, .slice Ao130 t397.length co130, .int .i64 t400] (0, 0) _ rfl (by (with_reducible repeat (first | apply bN | apply bD | apply bA)); refine blk_put (cs := #[.bool t396, .slice Ao130 t397.length co130, .int .i64 0]) ?_ 2 _ rfl; (with_reducible repeat (first | apply bN | apply bD | apply bA)); refine blk_put (cs := #[.bool t396, .slice none 0 0, .int .i64 0]) ?_ 1 _ rfl; (with_reducible repeat (first | apply bN | apply bD | apply bA)); refine blk_put (cs := #[.bool false, .slice none 0 0, .int .i64 0]) ?_ 0 _ rfl; exact bk_ BK362) Try.underlying43 rfl (by kernel_rfl)) rfl ?_
           exact ⟨_, by first | rfl | (simp [errW_none, errW_some] <;> rfl) | (simp only [← hji62]; first | rfl | (simp [errW_none, errW_some] <;> rfl)) | (simp [*, errW_none, errW_some] <;> rfl), by (with_reducible repeat (first | apply rA | apply rN | apply rD)); exact Kd.R_mono (Kd.R_far (p := ⟨gb362, 2, none⟩) (Kd.R_far (p := ⟨gb362, 1, none⟩) (Kd.R_far (p := ⟨gb362, 0, none⟩) (Kd.R_types HO399.out BK362.out (by decide)) (fun _ hk => hk.2) (.bool t396)) (fun _ hk => hk.2) (.slice Ao130 t397.length co130)) (fun _ hk => hk.2) (.int .i64 t400)) (fun _ hk => trivial), bl_ HB⟩
          ·rw [if_neg c111] at H
           have c111b0 : decide (0 ≤ t392) = false := decide_eq_false c111
           clear c111
           obtain ⟨t402, A133, H⟩ := ob_ H
           try dsimp only at H
           obtain ⟨⟨t405, t406, t409, t410⟩, A134, H⟩ := ob_ H
           try dsimp only at H
           simp only [Option.some.injEq, Prod.mk.injEq] at H
           obtain ⟨rfl, rfl, rfl, rfl⟩ := H
           have hnb135 := NB369_360.out
           have hnc135 := NB360_369.out
           have hnb136 := NB369_361.out
           have hnc136 := NB361_369.out
           have hnb137 := NB369_362.out
           have hnc137 := NB362_369.out
           have hnb138 := NB369_376.out
           have hnc138 := NB376_369.out
           have hcz139_0 : wc.cell? ⟨gb369, 0, none⟩ = some (.bool t363) := (blk_cell BK369.out 0).trans rfl
           have hcz139_1 : wc.cell? ⟨gb369, 1, none⟩ = some (.slice Ao18 t364.length co18) := (blk_cell BK369.out 1).trans rfl
           have hcz139_2 : wc.cell? ⟨gb369, 2, none⟩ = some (.int .i64 t367) := (blk_cell BK369.out 2).trans rfl
           have hfz139_0 := blk_frozen BK369.out 0
           have hfz139_1 := blk_frozen BK369.out 1
           have hfz139_2 := blk_frozen BK369.out 2
           have hnb140 := NB376_360.out
           have hnc140 := NB360_376.out
           have hnb141 := NB376_361.out
           have hnc141 := NB361_376.out
           have hnb142 := NB376_362.out
           have hnc142 := NB362_376.out
           have hcz143_0 : wc.cell? ⟨gb376, 0, none⟩ = some (.bool t370) := (blk_cell BK376.out 0).trans rfl
           have hcz143_1 : wc.cell? ⟨gb376, 1, none⟩ = some (.slice Ao28 t371.length co28) := (blk_cell BK376.out 1).trans rfl
           have hcz143_2 : wc.cell? ⟨gb376, 2, none⟩ = some (.int .i64 t374) := (blk_cell BK376.out 2).trans rfl
           have hfz143_0 := blk_frozen BK376.out 0
           have hfz143_1 := blk_frozen BK376.out 1
           have hfz143_2 := blk_frozen BK376.out 2
           obtain ⟨Ao144, co144, eo144⟩ := Kd.R_slice HO_11.out
           subst eo144
           obtain ⟨Ao145, co145, eo145⟩ := Kd.R_slice HO_12.out
           subst eo145
           try go_wp2_with (first | ((with_reducible refine gate_callee (f := 61) rfl ?_); refine goesM (some 84) Try.func61 #[.slice Ao144 t377.length co144, .slice Ao145 t380.length co145] ?_; (with_reducible refine (r02_Cmp.calls kj64 _ _ t377 _ _ t380 t392 _ ?side1 ?side2 ?side3 ?side4 A110.out).mono ?_); (case side1 => repeat (first | exact (Kd.R_reads' HO_11.out).2.2 | (with_reducible first | apply cA | apply cN | apply cD))); (case side2 => exact (Kd.R_reads' HO_11.out).2.1); (case side3 => repeat (first | exact (Kd.R_reads' HO_12.out).2.2 | (with_reducible first | apply cA | apply cN | apply cD))); (case side4 => exact (Kd.R_reads' HO_12.out).2.1); rintro e w' ⟨rfl, ⟨nd, rfl⟩⟩; refine ⟨_, rfl, ?_⟩; (try (rw [drewN_self wc]; generalize hq_ : World.drewN wc _ = wc; have n0_ : Aside0 (Kd.R (Kd.int .u32) 72 wc w.heap.size (fun k_ => some k_ ≠ (.slice Ao145 t380.length co145 : Value).ownBlock ∧ some k_ ≠ (.slice Ao18 t364.length co18 : Value).ownBlock ∧ some k_ ≠ (.slice Ao28 t371.length co28 : Value).ownBlock) (.slice Ao144 t377.length co144) t377) := ⟨by rw [← hq_]; exact (rr_ HO_11)⟩; have n1_ : Aside0 (Kd.R (Kd.int .u32) 72 wc w.heap.size (fun k_ => some k_ ≠ (.slice Ao144 t377.length co144 : Value).ownBlock ∧ some k_ ≠ (.slice Ao18 t364.length co18 : Value).ownBlock ∧ some k_ ≠ (.slice Ao28 t371.length co28 : Value).ownBlock) (.slice Ao145 t380.length co145) t380) := ⟨by rw [← hq_]; exact (rr_ HO_12)⟩; have n2_ : Aside0 (Kd.R (Kd.int .u32) 72 wc w.heap.size (fun k_ => some k_ ≠ (.slice Ao144 t377.length co144 : Value).ownBlock ∧ some k_ ≠ (.slice Ao145 t380.length co145 : Value).ownBlock ∧ some k_ ≠ (.slice Ao28 t371.length co28 : Value).ownBlock) (.slice Ao18 t364.length co18) t364) := ⟨by rw [← hq_]; exact (rr_ HO_370001)⟩; have n3_ : Aside0 (Kd.R (Kd.int .u32) 72 wc w.heap.size (fun k_ => some k_ ≠ (.slice Ao144 t377.length co144 : Value).ownBlock ∧ some k_ ≠ (.slice Ao145 t380.length co145 : Value).ownBlock ∧ some k_ ≠ (.slice Ao18 t364.length co18 : Value).ownBlock) (.slice Ao28 t371.length co28) t371) := ⟨by rw [← hq_]; exact (rr_ HO_377001)⟩; have n4_ : Aside0 (wc.heap[gb360]? = some (.cells #[.bool a0_0, .slice A0_1 l0_1.length c0_1, .int .i64 a0_2] 43 (0, 0))) := ⟨by rw [← hq_]; exact (bk_ BK360)⟩; have n5_ : Aside0 (wc.heap[gb361]? = some (.cells #[.bool a1_0, .slice A1_1 l1_1.length c1_1, .int .i64 a1_2] 43 (0, 0))) := ⟨by rw [← hq_]; exact (bk_ BK361)⟩; have n6_ : Aside0 (wc.heap[gb362]? = some (.cells #[.bool false, .slice none 0 0, .int .i64 0] 43 (0, 0))) := ⟨by rw [← hq_]; exact (bk_ BK362)⟩; have n7_ : Aside0 (wc.heap[gb369]? = some (.cells #[.bool t363, .slice Ao18 t364.length co18, .int .i64 t367] 43 (0, 0))) := ⟨by rw [← hq_]; exact (bk_ BK369)⟩; have n8_ : Aside0 (wc.heap[gb376]? = some (.cells #[.bool t370, .slice Ao28 t371.length co28, .int .i64 t374] 43 (0, 0))) := ⟨by rw [← hq_]; exact (bk_ BK376)⟩; have n9_ : Aside0 (Below w.heap.size w wc) := ⟨by rw [← hq_]; exact (bl_ HB)⟩; clear HO_11 HO_12 HO_370001 HO_377001 BK360 BK361 BK362 BK369 BK376 HB hq_; have HO_11 := n0_; have HO_12 := n1_; have HO_370001 := n2_; have HO_377001 := n3_; have BK360 := n4_; have BK361 := n5_; have BK362 := n6_; have BK369 := n7_; have BK376 := n8_; have HB := n9_; clear n0_ n1_ n2_ n3_ n4_ n5_ n6_ n7_ n8_ n9_))))
           have n0_ := Aside0.mk (Kd.R_drew HO_11.out)
           have n1_ := Aside0.mk (Kd.R_drew HO_12.out)
           have n2_ := Aside0.mk (Kd.R_drew HO_370001.out)
           have n3_ := Aside0.mk (Kd.R_drew HO_377001.out)
           have n4_ := Aside0.mk (blk_drew BK360.out)
           have n5_ := Aside0.mk (blk_drew BK361.out)
           have n6_ := Aside0.mk (blk_drew BK362.out)
           have n7_ := Aside0.mk (blk_drew BK369.out)
           have n8_ := Aside0.mk (blk_drew BK376.out)
           have n9_ := Aside0.mk (below_drew1 HB.out)
           clear HO_11
           clear HO_12
           clear HO_370001
           clear HO_377001
           clear BK360
           clear BK361
           clear BK362
           clear BK369
           clear BK376
           clear HB
           have HO_11 := n0_
           have HO_12 := n1_
           have HO_370001 := n2_
           have HO_377001 := n3_
           have BK360 := n4_
           have BK361 := n5_
           have BK362 := n6_
           have BK369 := n7_
           have BK376 := n8_
           have HB := n9_
           clear n0_ n1_ n2_ n3_ n4_ n5_ n6_ n7_ n8_ n9_
           refine start_ (n := 11) (S := fun w' => w'.cell? ⟨gb376, 0, none⟩ = some (.bool t370) ∧ w'.cell? ⟨gb376, 1, none⟩ = some (.slice Ao28 t371.length co28) ∧ w'.cell? ⟨gb376, 2, none⟩ = some (.int .i64 t374)) (ds := []) #[false, false, false, false, false, false, false, false, false, false, false] (by kernel_rfl) rfl rfl ⟨(blk_cell BK376.out 0).trans rfl, (blk_cell BK376.out 1).trans rfl, (blk_cell BK376.out 2).trans rfl⟩ (fun hHeld => ?_); refine with_tabW r03_Add.tab18 r03_Add.bits18 (fun HT_ HW_ => ?_)
           generalize wc.drew = w146 at HO_11 HO_12 HO_370001 HO_377001 BK360 BK361 BK362 BK369 BK376 HB hHeld ⊢
           refine pure_ (i := 0) (N := some 95) (v := ?_) (a' := ?_) #[true, false, false, false, false, false, false, false, false, false, false] rfl rfl (any_of HT_.out (by kernel_rfl)) (fun _ _ _ h => h) (Or.inl ⟨by rfl, ?_⟩) ?_ ?_
           rotate_left
           ·intro w'
            go_simp
            with_reducible rfl
           rotate_left
           ·simp only [Act.put, List.setIfInBounds_toArray, List.set_cons_zero, List.set_cons_succ, i64_w, i32_w]
            rfl
           refine pure_ (i := 2) (N := some 97) (v := ?_) (a' := ?_) #[true, false, true, false, false, false, false, false, false, false, false] rfl rfl (any_of HT_.out (by kernel_rfl)) (fun _ _ _ h => h) (Or.inl ⟨by rfl, ?_⟩) ?_ ?_
           rotate_left
           ·intro w'
            go_simp
            with_reducible rfl
           rotate_left
           ·simp only [Act.put, List.setIfInBounds_toArray, List.set_cons_zero, List.set_cons_succ, i64_w, i32_w]
            rfl
           refine pure_ (i := 3) (N := some 98) (v := ?_) (a' := ?_) #[true, false, true, true, false, false, false, false, false, false, false] rfl rfl (any_of HT_.out (by kernel_rfl)) (fun _ _ _ h => h) (Or.inl ⟨by rfl, ?_⟩) ?_ ?_
           rotate_left
           ·intro w'
            go_simp
            with_reducible rfl
           rotate_left
           ·simp only [Act.put, List.setIfInBounds_toArray, List.set_cons_zero, List.set_cons_succ, i64_w, i32_w]
            rfl
           refine pure_ (i := 5) (N := some 100) (v := ?_) (a' := ?_) #[true, false, true, true, false, true, false, false, false, false, false] rfl rfl (any_of HT_.out (by kernel_rfl)) (fun _ _ _ h => h) (Or.inl ⟨by rfl, ?_⟩) ?_ ?_
           rotate_left
           ·intro w'
            go_simp
            with_reducible rfl
           rotate_left
           ·simp only [Act.put, List.setIfInBounds_toArray, List.set_cons_zero, List.set_cons_succ, i64_w, i32_w]
            rfl
           refine take_ (i := 1) (N := some 96) (v := ?_) (a' := ?_) #[true, true, true, true, false, true, false, false, false, false, false] rfl rfl (take_ofW HT_.out HW_.out (by kernel_rfl)) (fun _ _ _ h => h) (Or.inl ⟨by rfl, ?_⟩) hHeld ?_ ?_
           rotate_left
           ·rintro w' ⟨s0, s1, s2⟩
            go_simp
            with_reducible rfl
           rotate_left
           ·simp only [Act.put, List.setIfInBounds_toArray, List.set_cons_zero, List.set_cons_succ, i64_w, i32_w]
            rfl
           refine one_ (i := 4) (N := some 99) #[true, true, true, true, true, true, false, false, false, false, false] rfl rfl (one_of HT_.out (by kernel_rfl)) (by decide) (fun K hK => ?_)
           refine goes_ Try.func62 (by kernel_rfl) rfl #[.slice Ao145 t380.length co145, .slice Ao144 t377.length co144] (by rfl) rfl rfl (by (try simp only [List.map_toArray, List.map_cons, List.map_nil]); first | done | rfl | (simp only [List.length_drop, List.length_take]; rfl)) ?_
           with_reducible refine (r02_Minus.calls kj64 _ _ t380 _ _ t377 t402 _ ?side1 ?side2 ?side3 ?side4 A133.out).mono ?_
           (case side1 => repeat (first | exact (Kd.R_reads' HO_12.out).2.2 | (with_reducible first | apply cA | apply cN | apply cD)))
           (case side2 => exact (Kd.R_reads' HO_12.out).2.1)
           (case side3 => repeat (first | exact (Kd.R_reads' HO_11.out).2.2 | (with_reducible first | apply cA | apply cN | apply cD)))
           (case side4 => exact (Kd.R_reads' HO_11.out).2.1)
           rintro e w147 ⟨v403, rfl, ho0, hb⟩
           refine ⟨_, rfl, ?_⟩
           have n0_ := Aside0.mk (Kd.R_elder' (rr_ HO_11) (Kd.R_base ho0) hb)
           have n1_ := Aside0.mk (Kd.R_elder' (rr_ HO_12) (Kd.R_base ho0) hb)
           have n2_ := Aside0.mk (Kd.R_elder' (rr_ HO_370001) (Kd.R_base ho0) hb)
           have n3_ := Aside0.mk (Kd.R_elder' (rr_ HO_377001) (Kd.R_base ho0) hb)
           have n4_ := Aside0.mk (Kd.R_lower (Kd.R_new' (Kd.R_new' (Kd.R_new' (Kd.R_new' ho0 (Kd.R_lt (rr_ HO_11))) (Kd.R_lt (rr_ HO_12))) (Kd.R_lt (rr_ HO_370001))) (Kd.R_lt (rr_ HO_377001))) (below_size (bl_ HB)))
           have n5_ := kb_ BK360 hb
           have n6_ := kb_ BK361 hb
           have n7_ := kb_ BK362 hb
           have n8_ := kb_ BK369 hb
           have n9_ := kb_ BK376 hb
           have n10_ := bs_ HB hb
           clear HO_11
           clear HO_12
           clear HO_370001
           clear HO_377001
           clear BK360
           clear BK361
           clear BK362
           clear BK369
           clear BK376
           clear HB
           have HO_11 := n0_
           have HO_12 := n1_
           have HO_370001 := n2_
           have HO_377001 := n3_
           have HO404 := n4_
           have BK360 := n5_
           have BK361 := n6_
           have BK362 := n7_
           have BK369 := n8_
           have BK376 := n9_
           have HB := n10_
           clear n0_ n1_ n2_ n3_ n4_ n5_ n6_ n7_ n8_ n9_ n10_
           (try clear hb)
           (try clear hb2)
           (try clear hk)
           (try clear hi)
           (try clear ho0)
           obtain ⟨Ao148, co148, eo148⟩ := Kd.R_slice HO404.out
           (first | subst eo148 | (injection eo148 with f1_ f2_ f3_; have f4_ := f1_.symm; have f5_ := f3_.symm; clear f1_ f2_ f3_; subst f4_; subst f5_))
           refine hK.out _ _ ⟨(blk_cell BK376.out 0).trans rfl, (blk_cell BK376.out 1).trans rfl, (blk_cell BK376.out 2).trans rfl⟩ (fun hHeld => ?_)
           clear hK K
           refine norm_ (a' := ?_) ?_ ?_
           rotate_left
           ·show Act.put _ (some 99) _ = _
            simp only [Act.put, List.setIfInBounds_toArray, List.set_cons_zero, List.set_cons_succ, i64_w, i32_w]
            rfl
           refine one_ (i := 6) (N := some 101) #[true, true, true, true, true, true, true, false, false, false, false] rfl rfl (one_of HT_.out (by kernel_rfl)) (by decide) (fun K hK => ?_)
           refine goes_ Try.func59 (by kernel_rfl) rfl #[.bool t370, .slice Ao148 t402.length co148, .int .i64 ji62] (by rfl) rfl rfl (by (try simp only [List.map_toArray, List.map_cons, List.map_nil]); first | done | (simp only [hji62]; rfl) | rfl | (simp only [List.length_drop, List.length_take]; rfl)) ?_
           with_reducible refine (r03_told.calls kj64 t370 _ _ t402 ji62 t405 t406 t409 t410 _ ?side1 ?side2 A134.out).mono ?_
           (case side1 => repeat (first | exact (Kd.R_reads' HO404.out).2.2 | (with_reducible first | apply cA | apply cN | apply cD)))
           (case side2 => exact (Kd.R_reads' HO404.out).2.1)
           rintro e w149 ⟨v407, rfl, ho0, hb⟩
           refine ⟨_, rfl, ?_⟩
           have n0_ := Aside0.mk (Kd.R_elder' (rr_ HO_11) (Kd.R_base ho0) hb)
           have n1_ := Aside0.mk (Kd.R_elder' (rr_ HO_12) (Kd.R_base ho0) hb)
           have n2_ := Aside0.mk (Kd.R_elder' (rr_ HO_370001) (Kd.R_base ho0) hb)
           have n3_ := Aside0.mk (Kd.R_elder' (rr_ HO_377001) (Kd.R_base ho0) hb)
           have n4_ := Aside0.mk (Kd.R_elder' (rr_ HO404) (Kd.R_base ho0) hb)
           have n5_ := Aside0.mk (Kd.R_lower (Kd.R_new' (Kd.R_new' (Kd.R_new' (Kd.R_new' (Kd.R_new' ho0 (Kd.R_lt (rr_ HO_11))) (Kd.R_lt (rr_ HO_12))) (Kd.R_lt (rr_ HO_370001))) (Kd.R_lt (rr_ HO_377001))) (Kd.R_lt (rr_ HO404))) (below_size (bl_ HB)))
           have n6_ := kb_ BK360 hb
           have n7_ := kb_ BK361 hb
           have n8_ := kb_ BK362 hb
           have n9_ := kb_ BK369 hb
           have n10_ := kb_ BK376 hb
           have n11_ := bs_ HB hb
           clear HO_11
           clear HO_12
           clear HO_370001
           clear HO_377001
           clear HO404
           clear BK360
           clear BK361
           clear BK362
           clear BK369
           clear BK376
           clear HB
           have HO_11 := n0_
           have HO_12 := n1_
           have HO_370001 := n2_
           have HO_377001 := n3_
           have HO404 := n4_
           have HO408 := n5_
           have BK360 := n6_
           have BK361 := n7_
           have BK362 := n8_
           have BK369 := n9_
           have BK376 := n10_
           have HB := n11_
           clear n0_ n1_ n2_ n3_ n4_ n5_ n6_ n7_ n8_ n9_ n10_ n11_
           (try clear hb)
           (try clear hb2)
           (try clear hk)
           (try clear hi)
           (try clear ho0)
           obtain ⟨Ao151, co151, eo151⟩ := Kd.R_slice HO408.out
           (first | subst eo151 | (injection eo151 with f1_ f2_ f3_; have f4_ := f1_.symm; have f5_ := f3_.symm; clear f1_ f2_ f3_; subst f4_; subst f5_))
           refine hK.out _ _ ⟨(blk_cell BK376.out 0).trans rfl, (blk_cell BK376.out 1).trans rfl, (blk_cell BK376.out 2).trans rfl⟩ (fun hHeld => ?_)
           clear hK K
           refine norm_ (a' := ?_) ?_ ?_
           rotate_left
           ·show Act.put _ (some 101) _ = _
            simp only [Act.put, List.setIfInBounds_toArray, List.set_cons_zero, List.set_cons_succ, i64_w, i32_w]
            rfl
           refine pure_ (i := 7) (N := some 102) (v := ?_) (a' := ?_) #[true, true, true, true, true, true, true, true, false, false, false] rfl rfl (any_of HT_.out (by kernel_rfl)) (fun _ _ _ h => h) (Or.inl ⟨by rfl, ?_⟩) ?_ ?_
           rotate_left
           ·intro w'
            go_simp
            with_reducible rfl
           rotate_left
           ·simp only [Act.put, List.setIfInBounds_toArray, List.set_cons_zero, List.set_cons_succ, i64_w, i32_w]
            rfl
           refine pure_ (i := 8) (N := some 103) (v := ?_) (a' := ?_) #[true, true, true, true, true, true, true, true, true, false, false] rfl rfl (any_of HT_.out (by kernel_rfl)) (fun _ _ _ h => h) (Or.inl ⟨by rfl, ?_⟩) ?_ ?_
           rotate_left
           ·intro w'
            go_simp
            with_reducible rfl
           rotate_left
           ·simp only [Act.put, List.setIfInBounds_toArray, List.set_cons_zero, List.set_cons_succ, i64_w, i32_w]
            rfl
           refine one_ (i := 9) (N := none) #[true, true, true, true, true, true, true, true, true, true, false] rfl rfl (one_of HT_.out (by kernel_rfl)) (by decide) (fun K hK => ?_)
           have hs150 : w149.cell? ⟨gb362, 0, none⟩ = some (.bool false) := (blk_cell BK362.out 0).trans rfl
           have hfs150 := blk_frozen BK362.out 0
           have hns150_0 := NB360_362.out
           have hns150_1 := NB361_362.out
           have hns150_3 := NB369_362.out
           have hns150_4 := NB376_362.out
           have hms150_0 := NB362_360.out
           have hms150_1 := NB362_361.out
           have hms150_3 := NB362_369.out
           have hms150_4 := NB362_376.out
           have hs152 : w149.cell? ⟨gb362, 1, none⟩ = some (.slice none 0 0) := (blk_cell BK362.out 1).trans rfl
           have hfs152 := blk_frozen BK362.out 1
           have hns152_0 := NB360_362.out
           have hns152_1 := NB361_362.out
           have hns152_3 := NB369_362.out
           have hns152_4 := NB376_362.out
           have hms152_0 := NB362_360.out
           have hms152_1 := NB362_361.out
           have hms152_3 := NB362_369.out
           have hms152_4 := NB362_376.out
           have hs153 : w149.cell? ⟨gb362, 2, none⟩ = some (.int .i64 0) := (blk_cell BK362.out 2).trans rfl
           have hfs153 := blk_frozen BK362.out 2
           have hns153_0 := NB360_362.out
           have hns153_1 := NB361_362.out
           have hns153_3 := NB369_362.out
           have hns153_4 := NB376_362.out
           have hms153_0 := NB362_360.out
           have hms153_1 := NB362_361.out
           have hms153_3 := NB362_369.out
           have hms153_4 := NB362_376.out
           refine skip_ (w1 := ?_) (by rfl) rfl ?_ ?_
           rotate_left
           ·go_simp
            rfl
           refine hK.out _ _ ⟨((cell_far (p := ⟨gb362, _, none⟩) NB376_362.out _).trans (((cell_far (p := ⟨gb362, _, none⟩) NB376_362.out _).trans (((cell_far (p := ⟨gb362, _, none⟩) NB376_362.out _).trans (hHeld.1)))))), ((cell_far (p := ⟨gb362, _, none⟩) NB376_362.out _).trans (((cell_far (p := ⟨gb362, _, none⟩) NB376_362.out _).trans (((cell_far (p := ⟨gb362, _, none⟩) NB376_362.out _).trans (hHeld.2.1)))))), ((cell_far (p := ⟨gb362, _, none⟩) NB376_362.out _).trans (((cell_far (p := ⟨gb362, _, none⟩) NB376_362.out _).trans (((cell_far (p := ⟨gb362, _, none⟩) NB376_362.out _).trans (hHeld.2.2))))))⟩ (fun hHeld => ?_)
           clear hK K
           refine pure_ (i := 10) (N := some 5) (v := ?_) (a' := ?_) #[true, true, true, true, true, true, true, true, true, true, true] rfl rfl (any_of HT_.out (by kernel_rfl)) (fun _ _ _ h => h) (Or.inl ⟨by rfl, ?_⟩) ?_ ?_
           rotate_left
           ·intro w'
            go_simp
            with_reducible rfl
           rotate_left
           ·simp only [Act.put, List.setIfInBounds_toArray, List.set_cons_zero, List.set_cons_succ, i64_w, i32_w]
            rfl
           refine done_ (done_of HT_.out (by kernel_rfl)) ?_
           try go_wp2
           refine bodyPost_ret (results_ct rfl _ _ gb362 43 #[.bool t405, .slice Ao151 t406.length co151, .int .i64 t409] (0, 0) _ rfl (by (with_reducible repeat (first | apply bN | apply bD | apply bA)); refine blk_put (cs := #[.bool t405, .slice Ao151 t406.length co151, .int .i64 0]) ?_ 2 _ rfl; (with_reducible repeat (first | apply bN | apply bD | apply bA)); refine blk_put (cs := #[.bool t405, .slice none 0 0, .int .i64 0]) ?_ 1 _ rfl; (with_reducible repeat (first | apply bN | apply bD | apply bA)); refine blk_put (cs := #[.bool false, .slice none 0 0, .int .i64 0]) ?_ 0 _ rfl; exact bk_ BK362) Try.underlying43 rfl (by kernel_rfl)) rfl ?_
           exact ⟨_, by first | rfl | (simp [errW_none, errW_some] <;> rfl) | (simp only [← hji62]; first | rfl | (simp [errW_none, errW_some] <;> rfl)) | (simp [*, errW_none, errW_some] <;> rfl), by (with_reducible repeat (first | apply rA | apply rN | apply rD)); exact Kd.R_mono (Kd.R_far (p := ⟨gb362, 2, none⟩) (Kd.R_far (p := ⟨gb362, 1, none⟩) (Kd.R_far (p := ⟨gb362, 0, none⟩) (Kd.R_types HO408.out BK362.out (by decide)) (fun _ hk => hk.2) (.bool t405)) (fun _ hk => hk.2) (.slice Ao151 t406.length co151)) (fun _ hk => hk.2) (.int .i64 t409)) (fun _ hk => trivial), bl_ HB⟩

end Go.Proofs.Ytdemanikmaafeaa.Pr
