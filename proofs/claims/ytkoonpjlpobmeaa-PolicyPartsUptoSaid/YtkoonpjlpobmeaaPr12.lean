-- short
-- written by this session's own program (wip/fprint.py), which widens the kit's print by floats
import Derived.Test.YtkoonpjlpobmeaaWShort
import Derived.Test.YtkoonpjlpobmeaaPr0
import Derived.Test.YtkoonpjlpobmeaaPr1
import Derived.Test.YtkoonpjlpobmeaaPr2
import Derived.Test.YtkoonpjlpobmeaaPr3
import Derived.Test.YtkoonpjlpobmeaaPr8
import Derived.Test.YtkoonpjlpobmeaaPr10
import Derived.Test.YtkoonpjlpobmeaaPr11
namespace Go.Proofs.Ytkoonpjlpobmeaa.Pr
open Go.RowKit Go.Proofs.YtkoonpjlpobmeaaW.PrintWords Go.Proofs.YtkoonpjlpobmeaaW.PrintLast Go.Proofs.YtkoonpjlpobmeaaW.PrintMore
attribute [local go_sem] max2_int min2_int max_two min_two max_three min_three max_four min_four   -- for this text's walks alone
set_option linter.unusedVariables false
set_option linter.unusedSimpArgs false

attribute [local go_sem high] eqA23 eqA30
/-! ### steelyardlaw06_awake: function 7 -/
def steelyardlaw06_awake.f (k : Nat)  : Option (Bool) := (steelyardref06_TheNaN.f).bind fun t153 => ((steelyardref06_Zero.f true).bind fun t154 => ((steelyardref06_Inf.f false).bind fun t155 => ((some (([4607182418800017408, t153, t154, t155, 4612811918334230528] : List Nat) : List Nat)).bind fun y156 => ((policy_Plain.f).bind fun bt159 => ((policy_Sift.f k y156 bt159.1 bt159.2).bind fun bt162 => ((policy_Sift.f k y156 1 2).bind fun bt173 => ((policy_Verdict.f k 0 2 0 0 0 3 bt159.1 bt159.2).bind fun bt184 => ((policy_Nought.f 0 0 0 2 0 2 0).bind fun t186 => (if (bt159.1 == 0 && (bt159.2 == 0)) = true then (if (bt162.1.length : Int) = 3 then (if 2 < (bt162.1.length : Int) then (if (FloatKind.f64.format.order (rdOf (0 : Nat) bt162.1 2) 4612811918334230528 == some .eq) = true then (if (bt162.2.1 == 1 && (bt162.2.2.1 == 1 && (bt162.2.2.2.1 == 0 && (bt162.2.2.2.2.1 == 1 && (bt162.2.2.2.2.2.1 == 0 && (bt162.2.2.2.2.2.2.1 == 5)))))) = true then (if bt162.2.2.2.2.2.2.2 = 0 then (if bt173.2.2.2.2.2.2.2 = 61 then (if bt184.2 = true then ((steelyardref06_Inf.f false).bind fun t188 => ((steelyardref03_Alike.f bt184.1 t188).bind fun t189 => (if t189 = true then ((steelyardref06_Zero.f true).bind fun t190 => ((steelyardref03_Alike.f t186 t190).bind fun t191 => (some t191))) else (none)))) else (none)) else (none)) else (none)) else (none)) else (none)) else (none)) else (none)) else (none))))))))))
theorem steelyardlaw06_awake.mono : ∀ k, LeO (steelyardlaw06_awake.f k ) (steelyardlaw06_awake.f (k + 1) ) := by
 intro  k
 unfold steelyardlaw06_awake.f
 repeat' first
   | (with_reducible exact policy_Sift.mono _ _ _ _)
   | (with_reducible exact policy_Verdict.mono _ _ _ _ _ _ _ _ _)
   | (with_reducible exact LeO.refl _)
   | (with_reducible exact LeO.none _)
   | (with_reducible refine LeO.ite ?_ ?_)
   | (with_reducible refine LeO.bind ?_ (fun _ => ?_))
   | exact policy_Sift.mono _ _ _ _
   | exact policy_Verdict.mono _ _ _ _ _ _ _ _ _
   | exact LeO.none _
   | refine LeO.ite ?_ ?_
   | refine LeO.bind ?_ (fun _ => ?_)
set_option maxHeartbeats 3000000 in
set_option maxRecDepth 100000 in
theorem steelyardlaw06_awake.calls (k : Nat)  (r : Bool) (w : World) (h : steelyardlaw06_awake.f k  = some r) :
  Calls Try.prog 7 #[] w fun e w' => e = .returned (.bool r) ∧ Below w.heap.size w w' := by
 have hu23 := Try.underlying23
 have hu30 := Try.underlying30
 have HB := Aside0.mk (Below.refl w.heap.size w)
 have H : ((steelyardref06_TheNaN.f).bind fun t153 => ((steelyardref06_Zero.f true).bind fun t154 => ((steelyardref06_Inf.f false).bind fun t155 => ((some (([4607182418800017408, t153, t154, t155, 4612811918334230528] : List Nat) : List Nat)).bind fun y156 => ((policy_Plain.f).bind fun bt159 => ((policy_Sift.f k y156 bt159.1 bt159.2).bind fun bt162 => ((policy_Sift.f k y156 1 2).bind fun bt173 => ((policy_Verdict.f k 0 2 0 0 0 3 bt159.1 bt159.2).bind fun bt184 => ((policy_Nought.f 0 0 0 2 0 2 0).bind fun t186 => (if (bt159.1 == 0 && (bt159.2 == 0)) = true then (if (bt162.1.length : Int) = 3 then (if 2 < (bt162.1.length : Int) then (if (FloatKind.f64.format.order (rdOf (0 : Nat) bt162.1 2) 4612811918334230528 == some .eq) = true then (if (bt162.2.1 == 1 && (bt162.2.2.1 == 1 && (bt162.2.2.2.1 == 0 && (bt162.2.2.2.2.1 == 1 && (bt162.2.2.2.2.2.1 == 0 && (bt162.2.2.2.2.2.2.1 == 5)))))) = true then (if bt162.2.2.2.2.2.2.2 = 0 then (if bt173.2.2.2.2.2.2.2 = 61 then (if bt184.2 = true then ((steelyardref06_Inf.f false).bind fun t188 => ((steelyardref03_Alike.f bt184.1 t188).bind fun t189 => (if t189 = true then ((steelyardref06_Zero.f true).bind fun t190 => ((steelyardref03_Alike.f t186 t190).bind fun t191 => (some t191))) else (none)))) else (none)) else (none)) else (none)) else (none)) else (none)) else (none)) else (none)) else (none))))))))))) = some r := h
 clear h
 obtain ⟨t153, A1, H⟩ := ob_ H
 try dsimp only at H
 obtain ⟨t154, A2, H⟩ := ob_ H
 try dsimp only at H
 obtain ⟨t155, A3, H⟩ := ob_ H
 try dsimp only at H
 obtain ⟨y156, hy156⟩ : ∃ y_ : List Nat, y_ = (([4607182418800017408, t153, t154, t155, 4612811918334230528] : List Nat)) := ⟨_, rfl⟩
 replace H : ((policy_Plain.f).bind fun bt159 => ((policy_Sift.f k y156 bt159.1 bt159.2).bind fun bt162 => ((policy_Sift.f k y156 1 2).bind fun bt173 => ((policy_Verdict.f k 0 2 0 0 0 3 bt159.1 bt159.2).bind fun bt184 => ((policy_Nought.f 0 0 0 2 0 2 0).bind fun t186 => (if (bt159.1 == 0 && (bt159.2 == 0)) = true then (if (bt162.1.length : Int) = 3 then (if 2 < (bt162.1.length : Int) then (if (FloatKind.f64.format.order (rdOf (0 : Nat) bt162.1 2) 4612811918334230528 == some .eq) = true then (if (bt162.2.1 == 1 && (bt162.2.2.1 == 1 && (bt162.2.2.2.1 == 0 && (bt162.2.2.2.2.1 == 1 && (bt162.2.2.2.2.2.1 == 0 && (bt162.2.2.2.2.2.2.1 == 5)))))) = true then (if bt162.2.2.2.2.2.2.2 = 0 then (if bt173.2.2.2.2.2.2.2 = 61 then (if bt184.2 = true then ((steelyardref06_Inf.f false).bind fun t188 => ((steelyardref03_Alike.f bt184.1 t188).bind fun t189 => (if t189 = true then ((steelyardref06_Zero.f true).bind fun t190 => ((steelyardref03_Alike.f t186 t190).bind fun t191 => (some t191))) else (none)))) else (none)) else (none)) else (none)) else (none)) else (none)) else (none)) else (none)) else (none))))))) = some r := by first | (rw [hy156]; with_reducible exact H) | (have H2_ := (Option.bind_some _ _).symm.trans H; rw [hy156]; with_reducible exact H2_) | (have H2_ := (Option.bind_some _ _).symm.trans H; with_reducible exact H2_) | with_reducible exact H | (rw [hy156]; exact H) | exact H
 have Ny156 := Aside0.mk hy156
 clear hy156
 obtain ⟨⟨t159, t160⟩, A4, H⟩ := ob_ H
 try dsimp only at H
 obtain ⟨⟨t162, t165, t166, t167, t168, t169, t170, t171⟩, A5, H⟩ := ob_ H
 try dsimp only at H
 obtain ⟨⟨t173, t176, t177, t178, t179, t180, t181, t182⟩, A6, H⟩ := ob_ H
 try dsimp only at H
 obtain ⟨⟨t184, t185⟩, A7, H⟩ := ob_ H
 try dsimp only at H
 obtain ⟨t186, A8, H⟩ := ob_ H
 try dsimp only at H
 by_cases c9 : (t159 == 0 && (t160 == 0)) = true
 ·rw [if_pos c9] at H
  have c9b0 : (t159 == 0 && (t160 == 0)) = true := c9
  (try (have c9b1 : decide (t159 = 0 && (t160 == 0)) = true := by simpa using c9))
  (try (have c9b2 : (t159 == 0 && (t160 == 0)) = true := by simpa using c9))
  clear c9
  by_cases c10 : (t162.length : Int) = 3
  ·rw [if_pos c10] at H
   have c10b0 : ((t162.length : Int) == 3) = true := beq_iff_eq.mpr c10
   have c10b1 : ((t162.length : Int) != 3) = false := bne_eq_false_iff_eq.mpr c10
   clear c10
   by_cases c11 : 2 < (t162.length : Int)
   ·rw [if_pos c11] at H
    have c11b0 : decide (2 < (t162.length : Int)) = true := decide_eq_true c11
    have c11b1 : decide (2 < t162.length) = true := decide_eq_true (by omega)
    clear c11
    by_cases c12 : (FloatKind.f64.format.order (rdOf (0 : Nat) t162 2) 4612811918334230528 == some .eq) = true
    ·rw [if_pos c12] at H
     have c12b0 : (FloatKind.f64.format.order (rdOf (0 : Nat) t162 2) 4612811918334230528 == some .eq) = true := c12
     clear c12
     by_cases c13 : (t165 == 1 && (t166 == 1 && (t167 == 0 && (t168 == 1 && (t169 == 0 && (t170 == 5)))))) = true
     ·rw [if_pos c13] at H
      have c13b0 : (t165 == 1 && (t166 == 1 && (t167 == 0 && (t168 == 1 && (t169 == 0 && (t170 == 5)))))) = true := c13
      (try (have c13b1 : decide (t165 = 1 && (t166 == 1 && (t167 == 0 && (t168 == 1 && (t169 == 0 && (t170 == 5)))))) = true := by simpa using c13))
      (try (have c13b2 : (t165 == 1 && (t166 == 1 && (t167 == 0 && (t168 == 1 && (t169 == 0 && (t170 == 5)))))) = true := by simpa using c13))
      clear c13
      by_cases c14 : t171 = 0
      ·rw [if_pos c14] at H
       have c14b0 : (t171 == 0) = true := beq_iff_eq.mpr c14
       have c14b1 : (t171 != 0) = false := bne_eq_false_iff_eq.mpr c14
       clear c14
       by_cases c15 : t182 = 61
       ·rw [if_pos c15] at H
        have c15b0 : (t182 == 61) = true := beq_iff_eq.mpr c15
        have c15b1 : (t182 != 61) = false := bne_eq_false_iff_eq.mpr c15
        clear c15
        by_cases c16 : t185 = true
        ·subst c16
         have H1 : ((steelyardref06_Inf.f false).bind fun t188 => ((steelyardref03_Alike.f t184 t188).bind fun t189 => (if t189 = true then ((steelyardref06_Zero.f true).bind fun t190 => ((steelyardref03_Alike.f t186 t190).bind fun t191 => (some t191))) else (none)))) = some r := by rw [if_pos rfl] at H; exact H
         clear H
         have H := H1
         clear H1
         obtain ⟨t188, A17, H⟩ := ob_ H
         try dsimp only at H
         obtain ⟨t189, A18, H⟩ := ob_ H
         try dsimp only at H
         by_cases c19 : t189 = true
         ·subst c19
          have H1 : ((steelyardref06_Zero.f true).bind fun t190 => ((steelyardref03_Alike.f t186 t190).bind fun t191 => (some t191))) = some r := by rw [if_pos rfl] at H; exact H
          clear H
          have H := H1
          clear H1
          obtain ⟨t190, A20, H⟩ := ob_ H
          try dsimp only at H
          obtain ⟨t191, A21, H⟩ := ob_ H
          try dsimp only at H
          obtain rfl := Option.some.inj H
          go_enter Try.func7, Try.ntmps7
          go_wp2_with (first | ((with_reducible refine gate_callee (f := 25) rfl ?_); refine goesM (some 12) Try.func25 #[] ?_; (with_reducible refine (steelyardref06_TheNaN.calls  t153 _ A1.out).mono ?_); rintro e w' ⟨rfl, ⟨nd, rfl⟩⟩; refine ⟨_, rfl, ?_⟩) | ((with_reducible refine gate_callee (f := 24) rfl ?_); refine goesM (some 13) Try.func24 #[.bool true] ?_; (with_reducible refine (steelyardref06_Zero.calls true t154 _ A2.out).mono ?_); rintro e w' ⟨rfl, ⟨nd, rfl⟩⟩; refine ⟨_, rfl, ?_⟩) | ((with_reducible refine gate_callee (f := 26) rfl ?_); refine goesM (some 14) Try.func26 #[.bool false] ?_; (with_reducible refine (steelyardref06_Inf.calls false t155 _ A3.out).mono ?_); rintro e w' ⟨rfl, ⟨nd, rfl⟩⟩; refine ⟨_, rfl, ?_⟩) | ((with_reducible refine gate_dst (N := 15) rfl ?_); (try (refine gate_guard (by rfl) ?_; dsimp only)); refine Kd.R_lit (Kd.float .f64) _ 41 ?hg (N := 15) ?hd (xs := ([4607182418800017408, t153, t154, t155, 4612811918334230528] : List Nat)) (inner := [.float .f64 4607182418800017408, .float .f64 t153, .float .f64 t154, .float .f64 t155, .float .f64 4612811918334230528]) (ok := fun _ => True) (okp := fun _ => True) ?hr ?hp (fun _ hk => hk) trivial (Below.refl _ _) (Nat.le_refl _) (by simp) ?_; (case hd => rfl); (case hg => rfl); (case hr => first | (go_simp; done) | (go_simp; rfl)); (case hp => exact (Reps.one (show Kd.M (Kd.float .f64) _ _ _ 4607182418800017408 [.float .f64 4607182418800017408] from rfl) (Reps.one (show Kd.M (Kd.float .f64) _ _ _ t153 [.float .f64 t153] from rfl) (Reps.one (show Kd.M (Kd.float .f64) _ _ _ t154 [.float .f64 t154] from rfl) (Reps.one (show Kd.M (Kd.float .f64) _ _ _ t155 [.float .f64 t155] from rfl) (Reps.one (show Kd.M (Kd.float .f64) _ _ _ 4612811918334230528 [.float .f64 4612811918334230528] from rfl) (Reps.none _ _))))))); intro v157 w22 ho23 hb hg_ hnew_; clear hg_ hnew_; (first | rw [← Ny156.out] at ho23 | (simp only [Int.reduceToNat] at ho23; rw [← Ny156.out] at ho23)); have n0_ := Aside0.mk (Kd.R_lower ho23 (below_size (bl_ HB))); have n1_ := bs_ HB hb; clear HB; have HO158 := n0_; have HB := n1_; clear n0_ n1_; clear hb ho23) | ((with_reducible refine gate_callee (f := 9) rfl ?_); refine goesM (some 16) Try.func9 #[] ?_; (with_reducible refine (policy_Plain.calls  t159 t160 _ A4.out).mono ?_); rintro e w24 ⟨rfl, hb⟩; refine ⟨_, rfl, ?_⟩; have n0_ := Aside0.mk (Kd.R_below (by (with_reducible repeat (first | apply rA | apply rN | apply rD)); exact HO158.out) hb); have n1_ := bs_ HB hb; clear HO158; clear HB; have HO158 := n0_; have HB := n1_; clear n0_ n1_; (try clear hb); (try clear hb2); (try clear hk); (try clear hi)) | ((with_reducible refine gate_dst (N := 2) rfl ?_); (try (refine gate_guard (by rfl) ?_; dsimp only)); refine box_event ?hg (N := 2) ?hd (cs := #[.int .i64 0, .int .i64 0]) (t := 23) ?hr ?_; (case hd => rfl); (case hg => rfl); (case hr => first | (go_simp; done) | (go_simp; rfl)); intro gb161 hg w25 hbox hb; have n0_ := Aside0.mk (Kd.R_below (by (with_reducible repeat (first | apply rA | apply rN | apply rD)); exact HO158.out) hb); have n1_ := bs_ HB hb; have n2_ := Aside0.mk (hbox); have n3_ := ge_ HB hg; have n4_ := ge_ HB hg; clear HO158; clear HB; have HO158 := n0_; have HB := n1_; have BK161 := n2_; have GW161 := n3_; have GE161 := n4_; clear n0_ n1_ n2_ n3_ n4_; clear hb hbox hg; have hcz26_0 : w25.cell? ⟨gb161, 0, none⟩ = some (.int .i64 0) := (blk_cell BK161.out 0).trans rfl; have hcz26_1 : w25.cell? ⟨gb161, 1, none⟩ = some (.int .i64 0) := (blk_cell BK161.out 1).trans rfl; have hfz26_0 := blk_frozen BK161.out 0; have hfz26_1 := blk_frozen BK161.out 1; obtain ⟨Ao27, co27, eo27⟩ := Kd.R_slice HO158.out; subst eo27) | ((with_reducible refine gate_callee (f := 12) rfl ?_); refine goesM (some 20) Try.func12 #[.slice Ao27 y156.length co27, .agg #[.int .i64 t159, .int .i64 t160]] ?_; (with_reducible refine (policy_Sift.calls k _ _ y156 t159 t160 t162 t165 t166 t167 t168 t169 t170 t171 _ ?side1 ?side2 A5.out).mono ?_); (case side1 => refine (Kd.R_reads' (e := 41) (base := w.heap.size) (ok := fun k_ => True) (n := y156.length) (c := co27) ?_).2.2; exact (by (with_reducible repeat (first | apply rA | apply rN | apply rD)); exact (Kd.R_mono (Kd.R_far (p := ⟨gb161, 1, none⟩) (Kd.R_far (p := ⟨gb161, 0, none⟩) (Kd.R_types HO158.out BK161.out (by decide)) (fun _ hk => hk.2) (.int .i64 t159)) (fun _ hk => hk.2) (.int .i64 t160)) (fun _ h_ => h_.1)))); (case side2 => exact (Kd.R_reads' HO158.out).2.1); rintro e w28 ⟨v163, rfl, ho0, hb⟩; refine ⟨_, rfl, ?_⟩; have n0_ := Aside0.mk (Kd.R_elder' (by (with_reducible repeat (first | apply rA | apply rN | apply rD)); exact (Kd.R_mono (Kd.R_far (p := ⟨gb161, 1, none⟩) (Kd.R_far (p := ⟨gb161, 0, none⟩) (Kd.R_types HO158.out BK161.out (by decide)) (fun _ hk => hk.2) (.int .i64 t159)) (fun _ hk => hk.2) (.int .i64 t160)) (fun _ h_ => h_.1))) (Kd.R_base ho0) hb); have n1_ := Aside0.mk (Kd.R_lower (Kd.R_new' ho0 (Kd.R_lt (by (with_reducible repeat (first | apply rA | apply rN | apply rD)); exact (Kd.R_mono (Kd.R_far (p := ⟨gb161, 1, none⟩) (Kd.R_far (p := ⟨gb161, 0, none⟩) (Kd.R_types HO158.out BK161.out (by decide)) (fun _ hk => hk.2) (.int .i64 t159)) (fun _ hk => hk.2) (.int .i64 t160)) (fun _ h_ => h_.1))))) (below_size (bl_ HB))); have n2_ := Aside0.mk (blk_below (g := gb161) (o := .cells #[.int .i64 t159, .int .i64 t160] 23 (0, 0)) (by (with_reducible repeat (first | apply bN | apply bD | apply bA)); refine blk_put (cs := #[.int .i64 t159, .int .i64 0]) ?_ 1 _ rfl; (with_reducible repeat (first | apply bN | apply bD | apply bA)); refine blk_put (cs := #[.int .i64 0, .int .i64 0]) ?_ 0 _ rfl; (with_reducible repeat (first | apply bN | apply bD | apply bA)); exact BK161.out) hb); have n3_ := bs_ HB hb; clear HO158; clear BK161; clear HB; have HO158 := n0_; have HO164 := n1_; have BK161 := n2_; have HB := n3_; clear n0_ n1_ n2_ n3_; (try clear hb); (try clear hb2); (try clear hk); (try clear hi); (try clear ho0)) | ((with_reducible refine gate_dst (N := 4) rfl ?_); (try (refine gate_guard (by rfl) ?_; dsimp only)); refine box_event ?hg (N := 4) ?hd (cs := #[.int .i64 0, .int .i64 0, .int .i64 0, .int .i64 0, .int .i64 0, .int .i64 0]) (t := 30) ?hr ?_; (case hd => rfl); (case hg => rfl); (case hr => first | (go_simp; done) | (go_simp; rfl)); intro gb172 hg w29 hbox hb; have n0_ := Aside0.mk (Kd.R_below (by (with_reducible repeat (first | apply rA | apply rN | apply rD)); exact HO158.out) hb); have n1_ := Aside0.mk (Kd.R_below (by (with_reducible repeat (first | apply rA | apply rN | apply rD)); exact HO164.out) hb); have n2_ := kb_ BK161 hb; have n3_ := bs_ HB hb; have n4_ := Aside0.mk (hbox); have n5_ := ge_ HB hg; have n6_ := ge_ HB hg; have n7_ := nlt_ BK161 hg; have n8_ := ngt_ BK161 hg; clear HO158; clear HO164; clear BK161; clear HB; have HO158 := n0_; have HO164 := n1_; have BK161 := n2_; have HB := n3_; have BK172 := n4_; have GW172 := n5_; have GE172 := n6_; have NB161_172 := n7_; have NB172_161 := n8_; clear n0_ n1_ n2_ n3_ n4_ n5_ n6_ n7_ n8_; clear hb hbox hg; have hnb30 := NB172_161.out; have hnc30 := NB161_172.out; have hcz31_0 : w29.cell? ⟨gb172, 0, none⟩ = some (.int .i64 0) := (blk_cell BK172.out 0).trans rfl; have hcz31_1 : w29.cell? ⟨gb172, 1, none⟩ = some (.int .i64 0) := (blk_cell BK172.out 1).trans rfl; have hcz31_2 : w29.cell? ⟨gb172, 2, none⟩ = some (.int .i64 0) := (blk_cell BK172.out 2).trans rfl; have hcz31_3 : w29.cell? ⟨gb172, 3, none⟩ = some (.int .i64 0) := (blk_cell BK172.out 3).trans rfl; have hcz31_4 : w29.cell? ⟨gb172, 4, none⟩ = some (.int .i64 0) := (blk_cell BK172.out 4).trans rfl; have hcz31_5 : w29.cell? ⟨gb172, 5, none⟩ = some (.int .i64 0) := (blk_cell BK172.out 5).trans rfl; have hfz31_0 := blk_frozen BK172.out 0; have hfz31_1 := blk_frozen BK172.out 1; have hfz31_2 := blk_frozen BK172.out 2; have hfz31_3 := blk_frozen BK172.out 3; have hfz31_4 := blk_frozen BK172.out 4; have hfz31_5 := blk_frozen BK172.out 5) | ((with_reducible refine gate_callee (f := 12) rfl ?_); refine goesM (some 27) Try.func12 #[.slice Ao27 y156.length co27, .agg #[.int .i64 1, .int .i64 2]] ?_; (with_reducible refine (policy_Sift.calls k _ _ y156 1 2 t173 t176 t177 t178 t179 t180 t181 t182 _ ?side1 ?side2 A6.out).mono ?_); (case side1 => refine (Kd.R_reads' (e := 41) (base := w.heap.size) (ok := fun k_ => (True ∧ some k_ ≠ (v163 : Value).ownBlock)) (n := y156.length) (c := co27) ?_).2.2; exact (by (with_reducible repeat (first | apply rA | apply rN | apply rD)); exact (Kd.R_mono (Kd.R_far (p := ⟨gb172, 5, none⟩) (Kd.R_far (p := ⟨gb172, 4, none⟩) (Kd.R_far (p := ⟨gb172, 3, none⟩) (Kd.R_far (p := ⟨gb172, 2, none⟩) (Kd.R_far (p := ⟨gb172, 1, none⟩) (Kd.R_far (p := ⟨gb172, 0, none⟩) (Kd.R_types HO158.out BK172.out (by decide)) (fun _ hk => hk.2) (.int .i64 t165)) (fun _ hk => hk.2) (.int .i64 t166)) (fun _ hk => hk.2) (.int .i64 t167)) (fun _ hk => hk.2) (.int .i64 t168)) (fun _ hk => hk.2) (.int .i64 t169)) (fun _ hk => hk.2) (.int .i64 t170)) (fun _ h_ => h_.1)))); (case side2 => exact (Kd.R_reads' HO158.out).2.1); rintro e w32 ⟨v174, rfl, ho0, hb⟩; refine ⟨_, rfl, ?_⟩; have n0_ := Aside0.mk (Kd.R_elder' (by (with_reducible repeat (first | apply rA | apply rN | apply rD)); exact (Kd.R_mono (Kd.R_far (p := ⟨gb172, 5, none⟩) (Kd.R_far (p := ⟨gb172, 4, none⟩) (Kd.R_far (p := ⟨gb172, 3, none⟩) (Kd.R_far (p := ⟨gb172, 2, none⟩) (Kd.R_far (p := ⟨gb172, 1, none⟩) (Kd.R_far (p := ⟨gb172, 0, none⟩) (Kd.R_types HO158.out BK172.out (by decide)) (fun _ hk => hk.2) (.int .i64 t165)) (fun _ hk => hk.2) (.int .i64 t166)) (fun _ hk => hk.2) (.int .i64 t167)) (fun _ hk => hk.2) (.int .i64 t168)) (fun _ hk => hk.2) (.int .i64 t169)) (fun _ hk => hk.2) (.int .i64 t170)) (fun _ h_ => h_.1))) (Kd.R_base ho0) hb); have n1_ := Aside0.mk (Kd.R_elder' (by (with_reducible repeat (first | apply rA | apply rN | apply rD)); exact (Kd.R_mono (Kd.R_far (p := ⟨gb172, 5, none⟩) (Kd.R_far (p := ⟨gb172, 4, none⟩) (Kd.R_far (p := ⟨gb172, 3, none⟩) (Kd.R_far (p := ⟨gb172, 2, none⟩) (Kd.R_far (p := ⟨gb172, 1, none⟩) (Kd.R_far (p := ⟨gb172, 0, none⟩) (Kd.R_types HO164.out BK172.out (by decide)) (fun _ hk => hk.2) (.int .i64 t165)) (fun _ hk => hk.2) (.int .i64 t166)) (fun _ hk => hk.2) (.int .i64 t167)) (fun _ hk => hk.2) (.int .i64 t168)) (fun _ hk => hk.2) (.int .i64 t169)) (fun _ hk => hk.2) (.int .i64 t170)) (fun _ h_ => h_.1))) (Kd.R_base ho0) hb); have n2_ := Aside0.mk (Kd.R_lower (Kd.R_new' (Kd.R_new' ho0 (Kd.R_lt (by (with_reducible repeat (first | apply rA | apply rN | apply rD)); exact (Kd.R_mono (Kd.R_far (p := ⟨gb172, 5, none⟩) (Kd.R_far (p := ⟨gb172, 4, none⟩) (Kd.R_far (p := ⟨gb172, 3, none⟩) (Kd.R_far (p := ⟨gb172, 2, none⟩) (Kd.R_far (p := ⟨gb172, 1, none⟩) (Kd.R_far (p := ⟨gb172, 0, none⟩) (Kd.R_types HO158.out BK172.out (by decide)) (fun _ hk => hk.2) (.int .i64 t165)) (fun _ hk => hk.2) (.int .i64 t166)) (fun _ hk => hk.2) (.int .i64 t167)) (fun _ hk => hk.2) (.int .i64 t168)) (fun _ hk => hk.2) (.int .i64 t169)) (fun _ hk => hk.2) (.int .i64 t170)) (fun _ h_ => h_.1))))) (Kd.R_lt (by (with_reducible repeat (first | apply rA | apply rN | apply rD)); exact (Kd.R_mono (Kd.R_far (p := ⟨gb172, 5, none⟩) (Kd.R_far (p := ⟨gb172, 4, none⟩) (Kd.R_far (p := ⟨gb172, 3, none⟩) (Kd.R_far (p := ⟨gb172, 2, none⟩) (Kd.R_far (p := ⟨gb172, 1, none⟩) (Kd.R_far (p := ⟨gb172, 0, none⟩) (Kd.R_types HO164.out BK172.out (by decide)) (fun _ hk => hk.2) (.int .i64 t165)) (fun _ hk => hk.2) (.int .i64 t166)) (fun _ hk => hk.2) (.int .i64 t167)) (fun _ hk => hk.2) (.int .i64 t168)) (fun _ hk => hk.2) (.int .i64 t169)) (fun _ hk => hk.2) (.int .i64 t170)) (fun _ h_ => h_.1))))) (below_size (bl_ HB))); have n3_ := Aside0.mk (blk_below (g := gb161) (o := .cells #[.int .i64 t159, .int .i64 t160] 23 (0, 0)) (by (with_reducible repeat (first | apply bN | apply bD | apply bA)); refine blk_far ?_ NB161_172.out _; (with_reducible repeat (first | apply bN | apply bD | apply bA)); refine blk_far ?_ NB161_172.out _; (with_reducible repeat (first | apply bN | apply bD | apply bA)); refine blk_far ?_ NB161_172.out _; (with_reducible repeat (first | apply bN | apply bD | apply bA)); refine blk_far ?_ NB161_172.out _; (with_reducible repeat (first | apply bN | apply bD | apply bA)); refine blk_far ?_ NB161_172.out _; (with_reducible repeat (first | apply bN | apply bD | apply bA)); refine blk_far ?_ NB161_172.out _; (with_reducible repeat (first | apply bN | apply bD | apply bA)); exact BK161.out) hb); have n4_ := Aside0.mk (blk_below (g := gb172) (o := .cells #[.int .i64 t165, .int .i64 t166, .int .i64 t167, .int .i64 t168, .int .i64 t169, .int .i64 t170] 30 (0, 0)) (by (with_reducible repeat (first | apply bN | apply bD | apply bA)); refine blk_put (cs := #[.int .i64 t165, .int .i64 t166, .int .i64 t167, .int .i64 t168, .int .i64 t169, .int .i64 0]) ?_ 5 _ rfl; (with_reducible repeat (first | apply bN | apply bD | apply bA)); refine blk_put (cs := #[.int .i64 t165, .int .i64 t166, .int .i64 t167, .int .i64 t168, .int .i64 0, .int .i64 0]) ?_ 4 _ rfl; (with_reducible repeat (first | apply bN | apply bD | apply bA)); refine blk_put (cs := #[.int .i64 t165, .int .i64 t166, .int .i64 t167, .int .i64 0, .int .i64 0, .int .i64 0]) ?_ 3 _ rfl; (with_reducible repeat (first | apply bN | apply bD | apply bA)); refine blk_put (cs := #[.int .i64 t165, .int .i64 t166, .int .i64 0, .int .i64 0, .int .i64 0, .int .i64 0]) ?_ 2 _ rfl; (with_reducible repeat (first | apply bN | apply bD | apply bA)); refine blk_put (cs := #[.int .i64 t165, .int .i64 0, .int .i64 0, .int .i64 0, .int .i64 0, .int .i64 0]) ?_ 1 _ rfl; (with_reducible repeat (first | apply bN | apply bD | apply bA)); refine blk_put (cs := #[.int .i64 0, .int .i64 0, .int .i64 0, .int .i64 0, .int .i64 0, .int .i64 0]) ?_ 0 _ rfl; (with_reducible repeat (first | apply bN | apply bD | apply bA)); exact BK172.out) hb); have n5_ := bs_ HB hb; clear HO158; clear HO164; clear BK161; clear BK172; clear HB; have HO158 := n0_; have HO164 := n1_; have HO175 := n2_; have BK161 := n3_; have BK172 := n4_; have HB := n5_; clear n0_ n1_ n2_ n3_ n4_ n5_; (try clear hb); (try clear hb2); (try clear hk); (try clear hi); (try clear ho0)) | ((with_reducible refine gate_dst (N := 7) rfl ?_); (try (refine gate_guard (by rfl) ?_; dsimp only)); refine box_event ?hg (N := 7) ?hd (cs := #[.int .i64 0, .int .i64 0, .int .i64 0, .int .i64 0, .int .i64 0, .int .i64 0]) (t := 30) ?hr ?_; (case hd => rfl); (case hg => rfl); (case hr => first | (go_simp; done) | (go_simp; rfl)); intro gb183 hg w33 hbox hb; have n0_ := Aside0.mk (Kd.R_below (by (with_reducible repeat (first | apply rA | apply rN | apply rD)); exact HO158.out) hb); have n1_ := Aside0.mk (Kd.R_below (by (with_reducible repeat (first | apply rA | apply rN | apply rD)); exact HO164.out) hb); have n2_ := Aside0.mk (Kd.R_below (by (with_reducible repeat (first | apply rA | apply rN | apply rD)); exact HO175.out) hb); have n3_ := kb_ BK161 hb; have n4_ := kb_ BK172 hb; have n5_ := bs_ HB hb; have n6_ := Aside0.mk (hbox); have n7_ := ge_ HB hg; have n8_ := ge_ HB hg; have n9_ := nlt_ BK161 hg; have n10_ := ngt_ BK161 hg; have n11_ := nlt_ BK172 hg; have n12_ := ngt_ BK172 hg; clear HO158; clear HO164; clear HO175; clear BK161; clear BK172; clear HB; have HO158 := n0_; have HO164 := n1_; have HO175 := n2_; have BK161 := n3_; have BK172 := n4_; have HB := n5_; have BK183 := n6_; have GW183 := n7_; have GE183 := n8_; have NB161_183 := n9_; have NB183_161 := n10_; have NB172_183 := n11_; have NB183_172 := n12_; clear n0_ n1_ n2_ n3_ n4_ n5_ n6_ n7_ n8_ n9_ n10_ n11_ n12_; clear hb hbox hg; have hnb34 := NB183_161.out; have hnc34 := NB161_183.out; have hnb35 := NB183_172.out; have hnc35 := NB172_183.out; have hcz36_0 : w33.cell? ⟨gb183, 0, none⟩ = some (.int .i64 0) := (blk_cell BK183.out 0).trans rfl; have hcz36_1 : w33.cell? ⟨gb183, 1, none⟩ = some (.int .i64 0) := (blk_cell BK183.out 1).trans rfl; have hcz36_2 : w33.cell? ⟨gb183, 2, none⟩ = some (.int .i64 0) := (blk_cell BK183.out 2).trans rfl; have hcz36_3 : w33.cell? ⟨gb183, 3, none⟩ = some (.int .i64 0) := (blk_cell BK183.out 3).trans rfl; have hcz36_4 : w33.cell? ⟨gb183, 4, none⟩ = some (.int .i64 0) := (blk_cell BK183.out 4).trans rfl; have hcz36_5 : w33.cell? ⟨gb183, 5, none⟩ = some (.int .i64 0) := (blk_cell BK183.out 5).trans rfl; have hfz36_0 := blk_frozen BK183.out 0; have hfz36_1 := blk_frozen BK183.out 1; have hfz36_2 := blk_frozen BK183.out 2; have hfz36_3 := blk_frozen BK183.out 3; have hfz36_4 := blk_frozen BK183.out 4; have hfz36_5 := blk_frozen BK183.out 5; have hcz37_0 : w33.cell? ⟨gb161, 0, none⟩ = some (.int .i64 t159) := (blk_cell BK161.out 0).trans rfl; have hcz37_1 : w33.cell? ⟨gb161, 1, none⟩ = some (.int .i64 t160) := (blk_cell BK161.out 1).trans rfl; have hfz37_0 := blk_frozen BK161.out 0; have hfz37_1 := blk_frozen BK161.out 1) | ((with_reducible refine gate_callee (f := 18) rfl ?_); refine goesM (some 34) Try.func18 #[.agg #[.int .i64 0, .int .i64 2, .int .i64 0, .int .i64 0, .int .i64 0, .int .i64 3], .agg #[.int .i64 t159, .int .i64 t160]] ?_; (with_reducible refine (policy_Verdict.calls k 0 2 0 0 0 3 t159 t160 t184 true _ A7.out).mono ?_); rintro e w38 ⟨rfl, hb⟩; refine ⟨_, rfl, ?_⟩; have n0_ := Aside0.mk (Kd.R_below (by (with_reducible repeat (first | apply rA | apply rN | apply rD)); exact (Kd.R_mono (Kd.R_far (p := ⟨gb183, 5, none⟩) (Kd.R_far (p := ⟨gb183, 4, none⟩) (Kd.R_far (p := ⟨gb183, 3, none⟩) (Kd.R_far (p := ⟨gb183, 2, none⟩) (Kd.R_far (p := ⟨gb183, 1, none⟩) (Kd.R_far (p := ⟨gb183, 0, none⟩) (Kd.R_types HO158.out BK183.out (by decide)) (fun _ hk => hk.2) (.int .i64 t176)) (fun _ hk => hk.2) (.int .i64 t177)) (fun _ hk => hk.2) (.int .i64 t178)) (fun _ hk => hk.2) (.int .i64 t179)) (fun _ hk => hk.2) (.int .i64 t180)) (fun _ hk => hk.2) (.int .i64 t181)) (fun _ h_ => h_.1))) hb); have n1_ := Aside0.mk (Kd.R_below (by (with_reducible repeat (first | apply rA | apply rN | apply rD)); exact (Kd.R_mono (Kd.R_far (p := ⟨gb183, 5, none⟩) (Kd.R_far (p := ⟨gb183, 4, none⟩) (Kd.R_far (p := ⟨gb183, 3, none⟩) (Kd.R_far (p := ⟨gb183, 2, none⟩) (Kd.R_far (p := ⟨gb183, 1, none⟩) (Kd.R_far (p := ⟨gb183, 0, none⟩) (Kd.R_types HO164.out BK183.out (by decide)) (fun _ hk => hk.2) (.int .i64 t176)) (fun _ hk => hk.2) (.int .i64 t177)) (fun _ hk => hk.2) (.int .i64 t178)) (fun _ hk => hk.2) (.int .i64 t179)) (fun _ hk => hk.2) (.int .i64 t180)) (fun _ hk => hk.2) (.int .i64 t181)) (fun _ h_ => h_.1))) hb); have n2_ := Aside0.mk (Kd.R_below (by (with_reducible repeat (first | apply rA | apply rN | apply rD)); exact (Kd.R_mono (Kd.R_far (p := ⟨gb183, 5, none⟩) (Kd.R_far (p := ⟨gb183, 4, none⟩) (Kd.R_far (p := ⟨gb183, 3, none⟩) (Kd.R_far (p := ⟨gb183, 2, none⟩) (Kd.R_far (p := ⟨gb183, 1, none⟩) (Kd.R_far (p := ⟨gb183, 0, none⟩) (Kd.R_types HO175.out BK183.out (by decide)) (fun _ hk => hk.2) (.int .i64 t176)) (fun _ hk => hk.2) (.int .i64 t177)) (fun _ hk => hk.2) (.int .i64 t178)) (fun _ hk => hk.2) (.int .i64 t179)) (fun _ hk => hk.2) (.int .i64 t180)) (fun _ hk => hk.2) (.int .i64 t181)) (fun _ h_ => h_.1))) hb); have n3_ := Aside0.mk (blk_below (g := gb161) (o := .cells #[.int .i64 t159, .int .i64 t160] 23 (0, 0)) (by (with_reducible repeat (first | apply bN | apply bD | apply bA)); refine blk_far ?_ NB161_183.out _; (with_reducible repeat (first | apply bN | apply bD | apply bA)); refine blk_far ?_ NB161_183.out _; (with_reducible repeat (first | apply bN | apply bD | apply bA)); refine blk_far ?_ NB161_183.out _; (with_reducible repeat (first | apply bN | apply bD | apply bA)); refine blk_far ?_ NB161_183.out _; (with_reducible repeat (first | apply bN | apply bD | apply bA)); refine blk_far ?_ NB161_183.out _; (with_reducible repeat (first | apply bN | apply bD | apply bA)); refine blk_far ?_ NB161_183.out _; (with_reducible repeat (first | apply bN | apply bD | apply bA)); exact BK161.out) hb); have n4_ := Aside0.mk (blk_below (g := gb172) (o := .cells #[.int .i64 t165, .int .i64 t166, .int .i64 t167, .int .i64 t168, .int .i64 t169, .int .i64 t170] 30 (0, 0)) (by (with_reducible repeat (first | apply bN | apply bD | apply bA)); refine blk_far ?_ NB172_183.out _; (with_reducible repeat (first | apply bN | apply bD | apply bA)); refine blk_far ?_ NB172_183.out _; (with_reducible repeat (first | apply bN | apply bD | apply bA)); refine blk_far ?_ NB172_183.out _; (with_reducible repeat (first | apply bN | apply bD | apply bA)); refine blk_far ?_ NB172_183.out _; (with_reducible repeat (first | apply bN | apply bD | apply bA)); refine blk_far ?_ NB172_183.out _; (with_reducible repeat (first | apply bN | apply bD | apply bA)); refine blk_far ?_ NB172_183.out _; (with_reducible repeat (first | apply bN | apply bD | apply bA)); exact BK172.out) hb); have n5_ := Aside0.mk (blk_below (g := gb183) (o := .cells #[.int .i64 t176, .int .i64 t177, .int .i64 t178, .int .i64 t179, .int .i64 t180, .int .i64 t181] 30 (0, 0)) (by (with_reducible repeat (first | apply bN | apply bD | apply bA)); refine blk_put (cs := #[.int .i64 t176, .int .i64 t177, .int .i64 t178, .int .i64 t179, .int .i64 t180, .int .i64 0]) ?_ 5 _ rfl; (with_reducible repeat (first | apply bN | apply bD | apply bA)); refine blk_put (cs := #[.int .i64 t176, .int .i64 t177, .int .i64 t178, .int .i64 t179, .int .i64 0, .int .i64 0]) ?_ 4 _ rfl; (with_reducible repeat (first | apply bN | apply bD | apply bA)); refine blk_put (cs := #[.int .i64 t176, .int .i64 t177, .int .i64 t178, .int .i64 0, .int .i64 0, .int .i64 0]) ?_ 3 _ rfl; (with_reducible repeat (first | apply bN | apply bD | apply bA)); refine blk_put (cs := #[.int .i64 t176, .int .i64 t177, .int .i64 0, .int .i64 0, .int .i64 0, .int .i64 0]) ?_ 2 _ rfl; (with_reducible repeat (first | apply bN | apply bD | apply bA)); refine blk_put (cs := #[.int .i64 t176, .int .i64 0, .int .i64 0, .int .i64 0, .int .i64 0, .int .i64 0]) ?_ 1 _ rfl; (with_reducible repeat (first | apply bN | apply bD | apply bA)); refine blk_put (cs := #[.int .i64 0, .int .i64 0, .int .i64 0, .int .i64 0, .int .i64 0, .int .i64 0]) ?_ 0 _ rfl; (with_reducible repeat (first | apply bN | apply bD | apply bA)); exact BK183.out) hb); have n6_ := bs_ HB hb; clear HO158; clear HO164; clear HO175; clear BK161; clear BK172; clear BK183; clear HB; have HO158 := n0_; have HO164 := n1_; have HO175 := n2_; have BK161 := n3_; have BK172 := n4_; have BK183 := n5_; have HB := n6_; clear n0_ n1_ n2_ n3_ n4_ n5_ n6_; (try clear hb); (try clear hb2); (try clear hk); (try clear hi)) | ((with_reducible refine gate_callee (f := 20) rfl ?_); refine goesM (some 38) Try.func20 #[.agg #[.int .i64 0, .int .i64 0, .int .i64 0, .int .i64 2, .int .i64 0, .int .i64 2], .int .i64 0] ?_; (with_reducible refine (policy_Nought.calls 0 0 0 2 0 2 0 t186 _ A8.out).mono ?_); rintro e w39 ⟨rfl, hb⟩; refine ⟨_, rfl, ?_⟩; have n0_ := Aside0.mk (Kd.R_below (by (with_reducible repeat (first | apply rA | apply rN | apply rD)); exact HO158.out) hb); have n1_ := Aside0.mk (Kd.R_below (by (with_reducible repeat (first | apply rA | apply rN | apply rD)); exact HO164.out) hb); have n2_ := Aside0.mk (Kd.R_below (by (with_reducible repeat (first | apply rA | apply rN | apply rD)); exact HO175.out) hb); have n3_ := kb_ BK161 hb; have n4_ := kb_ BK172 hb; have n5_ := kb_ BK183 hb; have n6_ := bs_ HB hb; clear HO158; clear HO164; clear HO175; clear BK161; clear BK172; clear BK183; clear HB; have HO158 := n0_; have HO164 := n1_; have HO175 := n2_; have BK161 := n3_; have BK172 := n4_; have BK183 := n5_; have HB := n6_; clear n0_ n1_ n2_ n3_ n4_ n5_ n6_; (try clear hb); (try clear hb2); (try clear hk); (try clear hi); have hcz40_0 : w39.cell? ⟨gb161, 0, none⟩ = some (.int .i64 t159) := (blk_cell BK161.out 0).trans rfl; have hcz40_1 : w39.cell? ⟨gb161, 1, none⟩ = some (.int .i64 t160) := (blk_cell BK161.out 1).trans rfl; have hfz40_0 := blk_frozen BK161.out 0; have hfz40_1 := blk_frozen BK161.out 1; obtain ⟨Ao41, co41, eo41⟩ := Kd.R_slice HO164.out; subst eo41; have p187 : 0 ≤ (2 : Int) := (by omega); have q187 : 2 < (t162.length : Int) := of_decide_eq_true (by first | (with_reducible assumption) | assumption); obtain ⟨ad187, e187, hx187_0⟩ := Kd.at_float (Kd.R_reads' HO164.out).2.2 2 p187 q187; cases e187; (try simp only [show (2 : Int).toNat = 2 from rfl, Nat.reduceMul, Nat.reduceEqDiff, Go.Addr.add, ↓reduceIte] at hx187_0); have qi187 : (2 < t162.length) = True := eq_true (by omega); (try rw [show ((2 : Int)).toNat = 2 from rfl] at hx187_0); replace p187 := eq_true p187; replace q187 := eq_true q187; have hcz42_0 : w39.cell? ⟨gb172, 0, none⟩ = some (.int .i64 t165) := (blk_cell BK172.out 0).trans rfl; have hcz42_1 : w39.cell? ⟨gb172, 1, none⟩ = some (.int .i64 t166) := (blk_cell BK172.out 1).trans rfl; have hcz42_2 : w39.cell? ⟨gb172, 2, none⟩ = some (.int .i64 t167) := (blk_cell BK172.out 2).trans rfl; have hcz42_3 : w39.cell? ⟨gb172, 3, none⟩ = some (.int .i64 t168) := (blk_cell BK172.out 3).trans rfl; have hcz42_4 : w39.cell? ⟨gb172, 4, none⟩ = some (.int .i64 t169) := (blk_cell BK172.out 4).trans rfl; have hcz42_5 : w39.cell? ⟨gb172, 5, none⟩ = some (.int .i64 t170) := (blk_cell BK172.out 5).trans rfl; have hfz42_0 := blk_frozen BK172.out 0; have hfz42_1 := blk_frozen BK172.out 1; have hfz42_2 := blk_frozen BK172.out 2; have hfz42_3 := blk_frozen BK172.out 3; have hfz42_4 := blk_frozen BK172.out 4; have hfz42_5 := blk_frozen BK172.out 5) | (go_at_call 26; (with_reducible refine (steelyardref06_Inf.calls false t188 _ A17.out).mono ?_); rintro e w' ⟨rfl, ⟨nd, rfl⟩⟩) | (go_at_call 21; (with_reducible refine (steelyardref03_Alike.calls t184 t188 true _ A18.out).mono ?_); rintro e w' ⟨rfl, ⟨nd, rfl⟩⟩) | (go_at_call 24; (with_reducible refine (steelyardref06_Zero.calls true t190 _ A20.out).mono ?_); rintro e w' ⟨rfl, ⟨nd, rfl⟩⟩) | (go_at_call 21; (with_reducible refine (steelyardref03_Alike.calls t186 t190 t191 _ A21.out).mono ?_); rintro e w' ⟨rfl, ⟨nd, rfl⟩⟩))
          go_ret
          exact ⟨by first | rfl | (simp [errW_none, errW_some] <;> rfl) | (simp [*, errW_none, errW_some] <;> rfl), bl_ HB⟩
         ·replace c19 := Bool.eq_false_iff.mpr c19
          subst c19
          have H1 : (none) = some r := by rw [if_neg (show ¬ (false = true) by decide)] at H; exact H
          clear H
          have H := H1
          clear H1
          exact absurd H (by simp)
        ·replace c16 := Bool.eq_false_iff.mpr c16
         subst c16
         have H1 : (none) = some r := by rw [if_neg (show ¬ (false = true) by decide)] at H; exact H
         clear H
         have H := H1
         clear H1
         exact absurd H (by simp)
       ·rw [if_neg c15] at H
        exact absurd H (by simp)
      ·rw [if_neg c14] at H
       exact absurd H (by simp)
     ·rw [if_neg c13] at H
      exact absurd H (by simp)
    ·rw [if_neg c12] at H
     exact absurd H (by simp)
   ·rw [if_neg c11] at H
    exact absurd H (by simp)
  ·rw [if_neg c10] at H
   exact absurd H (by simp)
 ·rw [if_neg c9] at H
  exact absurd H (by simp)

/-! ### steelyardref06_May: function 10 -/
def steelyardref06_May.f (a0_0 : Int) (a0_1 : Int) : Option (Bool) := if a0_0 ≥ 0 then (if a0_0 ≤ 2 then (if a0_1 ≥ 0 then (some (decide (a0_1 ≤ 2))) else (some false)) else (some false)) else (some false)
set_option maxHeartbeats 3000000 in
set_option maxRecDepth 100000 in
theorem steelyardref06_May.calls (a0_0 : Int) (a0_1 : Int) (r : Bool) (w : World) (h : steelyardref06_May.f a0_0 a0_1 = some r) :
  Calls Try.prog 10 #[.agg #[.int .i64 a0_0, .int .i64 a0_1]] w fun e w' => e = .returned (.bool r) ∧ Below w.heap.size w w' := by
 have hu23 := Try.underlying23
 have HB := Aside0.mk (Below.refl w.heap.size w)
 have H : (if a0_0 ≥ 0 then (if a0_0 ≤ 2 then (if a0_1 ≥ 0 then (some (decide (a0_1 ≤ 2))) else (some false)) else (some false)) else (some false)) = some r := h
 clear h
 by_cases c2 : a0_0 ≥ 0
 ·rw [if_pos c2] at H
  have c2b0 : decide (0 ≤ a0_0) = true := decide_eq_true c2
  clear c2
  by_cases c3 : a0_0 ≤ 2
  ·rw [if_pos c3] at H
   have c3b0 : decide (a0_0 ≤ 2) = true := decide_eq_true c3
   clear c3
   by_cases c4 : a0_1 ≥ 0
   ·rw [if_pos c4] at H
    have c4b0 : decide (0 ≤ a0_1) = true := decide_eq_true c4
    clear c4
    obtain rfl := Option.some.inj H
    go_enter Try.func10, Try.ntmps10
    go_wp2_with (first | ((with_reducible refine gate_dst (N := 1) rfl ?_); refine box_event ?hg (N := 1) ?hd (cs := #[.int .i64 a0_0, .int .i64 a0_1]) (t := 23) ?hr ?_; (case hd => rfl); (case hg => rfl); (case hr => first | (go_simp; done) | (go_simp; rfl)); intro gb192 hg w5 hbox hb; have n0_ := bs_ HB hb; have n1_ := Aside0.mk (hbox); have n2_ := ge_ HB hg; have n3_ := ge_ HB hg; clear HB; have HB := n0_; have BK192 := n1_; have GW192 := n2_; have GE192 := n3_; clear n0_ n1_ n2_ n3_; clear hb hbox hg; have hcz6_0 : w5.cell? ⟨gb192, 0, none⟩ = some (.int .i64 a0_0) := (blk_cell BK192.out 0).trans rfl; have hcz6_1 : w5.cell? ⟨gb192, 1, none⟩ = some (.int .i64 a0_1) := (blk_cell BK192.out 1).trans rfl; have hfz6_0 := blk_frozen BK192.out 0; have hfz6_1 := blk_frozen BK192.out 1))
    go_ret
    exact ⟨by first | rfl | (simp [errW_none, errW_some] <;> rfl) | (simp [*, errW_none, errW_some] <;> rfl), bl_ HB⟩
   ·rw [if_neg c4] at H
    have c4b0 : decide (0 ≤ a0_1) = false := decide_eq_false c4
    clear c4
    obtain rfl := Option.some.inj H
    go_enter Try.func10, Try.ntmps10
    go_wp2_with (first | ((with_reducible refine gate_dst (N := 1) rfl ?_); refine box_event ?hg (N := 1) ?hd (cs := #[.int .i64 a0_0, .int .i64 a0_1]) (t := 23) ?hr ?_; (case hd => rfl); (case hg => rfl); (case hr => first | (go_simp; done) | (go_simp; rfl)); intro gb192 hg w7 hbox hb; have n0_ := bs_ HB hb; have n1_ := Aside0.mk (hbox); have n2_ := ge_ HB hg; have n3_ := ge_ HB hg; clear HB; have HB := n0_; have BK192 := n1_; have GW192 := n2_; have GE192 := n3_; clear n0_ n1_ n2_ n3_; clear hb hbox hg; have hcz8_0 : w7.cell? ⟨gb192, 0, none⟩ = some (.int .i64 a0_0) := (blk_cell BK192.out 0).trans rfl; have hcz8_1 : w7.cell? ⟨gb192, 1, none⟩ = some (.int .i64 a0_1) := (blk_cell BK192.out 1).trans rfl; have hfz8_0 := blk_frozen BK192.out 0; have hfz8_1 := blk_frozen BK192.out 1))
    go_ret
    exact ⟨by first | rfl | (simp [errW_none, errW_some] <;> rfl) | (simp [*, errW_none, errW_some] <;> rfl), bl_ HB⟩
  ·rw [if_neg c3] at H
   have c3b0 : decide (a0_0 ≤ 2) = false := decide_eq_false c3
   clear c3
   obtain rfl := Option.some.inj H
   go_enter Try.func10, Try.ntmps10
   go_wp2_with (first | ((with_reducible refine gate_dst (N := 1) rfl ?_); refine box_event ?hg (N := 1) ?hd (cs := #[.int .i64 a0_0, .int .i64 a0_1]) (t := 23) ?hr ?_; (case hd => rfl); (case hg => rfl); (case hr => first | (go_simp; done) | (go_simp; rfl)); intro gb192 hg w9 hbox hb; have n0_ := bs_ HB hb; have n1_ := Aside0.mk (hbox); have n2_ := ge_ HB hg; have n3_ := ge_ HB hg; clear HB; have HB := n0_; have BK192 := n1_; have GW192 := n2_; have GE192 := n3_; clear n0_ n1_ n2_ n3_; clear hb hbox hg; have hcz10_0 : w9.cell? ⟨gb192, 0, none⟩ = some (.int .i64 a0_0) := (blk_cell BK192.out 0).trans rfl; have hcz10_1 : w9.cell? ⟨gb192, 1, none⟩ = some (.int .i64 a0_1) := (blk_cell BK192.out 1).trans rfl; have hfz10_0 := blk_frozen BK192.out 0; have hfz10_1 := blk_frozen BK192.out 1))
   go_ret
   exact ⟨by first | rfl | (simp [errW_none, errW_some] <;> rfl) | (simp [*, errW_none, errW_some] <;> rfl), bl_ HB⟩
 ·rw [if_neg c2] at H
  have c2b0 : decide (0 ≤ a0_0) = false := decide_eq_false c2
  clear c2
  obtain rfl := Option.some.inj H
  go_enter Try.func10, Try.ntmps10
  go_wp2_with (first | ((with_reducible refine gate_dst (N := 1) rfl ?_); refine box_event ?hg (N := 1) ?hd (cs := #[.int .i64 a0_0, .int .i64 a0_1]) (t := 23) ?hr ?_; (case hd => rfl); (case hg => rfl); (case hr => first | (go_simp; done) | (go_simp; rfl)); intro gb192 hg w11 hbox hb; have n0_ := bs_ HB hb; have n1_ := Aside0.mk (hbox); have n2_ := ge_ HB hg; have n3_ := ge_ HB hg; clear HB; have HB := n0_; have BK192 := n1_; have GW192 := n2_; have GE192 := n3_; clear n0_ n1_ n2_ n3_; clear hb hbox hg; have hcz12_0 : w11.cell? ⟨gb192, 0, none⟩ = some (.int .i64 a0_0) := (blk_cell BK192.out 0).trans rfl; have hcz12_1 : w11.cell? ⟨gb192, 1, none⟩ = some (.int .i64 a0_1) := (blk_cell BK192.out 1).trans rfl; have hfz12_0 := blk_frozen BK192.out 0; have hfz12_1 := blk_frozen BK192.out 1))
  go_ret
  exact ⟨by first | rfl | (simp [errW_none, errW_some] <;> rfl) | (simp [*, errW_none, errW_some] <;> rfl), bl_ HB⟩

/-! ### steelyardlaw06_PolicyMays: function 3 -/
def steelyardlaw06_PolicyMays.f (k : Nat) (a0_0 : Int) (a0_1 : Int) : Option (Bool) := (steelyardlaw06_awake.f k).bind fun t194 => ((policy_May.f a0_0 a0_1).bind fun t195 => ((policy_Plain.f).bind fun bt196 => ((policy_May.f bt196.1 bt196.2).bind fun t198 => (if t194 = true then (if t198 = true then ((steelyardref06_May.f a0_0 a0_1).bind fun t199 => (some (t195 == t199))) else (none)) else (none)))))
theorem steelyardlaw06_PolicyMays.mono : ∀ a0 a1 k, LeO (steelyardlaw06_PolicyMays.f k a0 a1) (steelyardlaw06_PolicyMays.f (k + 1) a0 a1) := by
 intro a0 a1 k
 unfold steelyardlaw06_PolicyMays.f
 repeat' first
   | (with_reducible exact steelyardlaw06_awake.mono _)
   | (with_reducible exact LeO.refl _)
   | (with_reducible exact LeO.none _)
   | (with_reducible refine LeO.ite ?_ ?_)
   | (with_reducible refine LeO.bind ?_ (fun _ => ?_))
   | exact steelyardlaw06_awake.mono _
   | exact LeO.none _
   | refine LeO.ite ?_ ?_
   | refine LeO.bind ?_ (fun _ => ?_)
set_option maxHeartbeats 3000000 in
set_option maxRecDepth 100000 in
theorem steelyardlaw06_PolicyMays.calls (k : Nat) (a0_0 : Int) (a0_1 : Int) (r : Bool) (w : World) (h : steelyardlaw06_PolicyMays.f k a0_0 a0_1 = some r) :
  Calls Try.prog 3 #[.agg #[.int .i64 a0_0, .int .i64 a0_1]] w fun e w' => e = .returned (.bool r) ∧ Below w.heap.size w w' := by
 have hu23 := Try.underlying23
 have HB := Aside0.mk (Below.refl w.heap.size w)
 have H : ((steelyardlaw06_awake.f k).bind fun t194 => ((policy_May.f a0_0 a0_1).bind fun t195 => ((policy_Plain.f).bind fun bt196 => ((policy_May.f bt196.1 bt196.2).bind fun t198 => (if t194 = true then (if t198 = true then ((steelyardref06_May.f a0_0 a0_1).bind fun t199 => (some (t195 == t199))) else (none)) else (none)))))) = some r := h
 clear h
 obtain ⟨t194, A2, H⟩ := ob_ H
 try dsimp only at H
 obtain ⟨t195, A3, H⟩ := ob_ H
 try dsimp only at H
 obtain ⟨⟨t196, t197⟩, A4, H⟩ := ob_ H
 try dsimp only at H
 obtain ⟨t198, A5, H⟩ := ob_ H
 try dsimp only at H
 by_cases c6 : t194 = true
 ·subst c6
  have H1 : (if t198 = true then ((steelyardref06_May.f a0_0 a0_1).bind fun t199 => (some (t195 == t199))) else (none)) = some r := by rw [if_pos rfl] at H; exact H
  clear H
  have H := H1
  clear H1
  by_cases c7 : t198 = true
  ·subst c7
   have H1 : ((steelyardref06_May.f a0_0 a0_1).bind fun t199 => (some (t195 == t199))) = some r := by rw [if_pos rfl] at H; exact H
   clear H
   have H := H1
   clear H1
   obtain ⟨t199, A8, H⟩ := ob_ H
   try dsimp only at H
   obtain rfl := Option.some.inj H
   go_enter Try.func3, Try.ntmps3
   go_wp2_with (first | ((with_reducible refine gate_dst (N := 1) rfl ?_); refine box_event ?hg (N := 1) ?hd (cs := #[.int .i64 a0_0, .int .i64 a0_1]) (t := 23) ?hr ?_; (case hd => rfl); (case hg => rfl); (case hr => first | (go_simp; done) | (go_simp; rfl)); intro gb193 hg w9 hbox hb; have n0_ := bs_ HB hb; have n1_ := Aside0.mk (hbox); have n2_ := ge_ HB hg; have n3_ := ge_ HB hg; clear HB; have HB := n0_; have BK193 := n1_; have GW193 := n2_; have GE193 := n3_; clear n0_ n1_ n2_ n3_; clear hb hbox hg) | ((with_reducible refine gate_callee (f := 7) rfl ?_); refine goesM (some 6) Try.func7 #[] ?_; (with_reducible refine (steelyardlaw06_awake.calls k  true _ A2.out).mono ?_); rintro e w10 ⟨rfl, hb⟩; refine ⟨_, rfl, ?_⟩; have n0_ := kb_ BK193 hb; have n1_ := bs_ HB hb; clear BK193; clear HB; have BK193 := n0_; have HB := n1_; clear n0_ n1_; (try clear hb); (try clear hb2); (try clear hk); (try clear hi); have hcz11_0 : w10.cell? ⟨gb193, 0, none⟩ = some (.int .i64 a0_0) := (blk_cell BK193.out 0).trans rfl; have hcz11_1 : w10.cell? ⟨gb193, 1, none⟩ = some (.int .i64 a0_1) := (blk_cell BK193.out 1).trans rfl; have hfz11_0 := blk_frozen BK193.out 0; have hfz11_1 := blk_frozen BK193.out 1) | ((with_reducible refine gate_callee (f := 8) rfl ?_); refine goesM (some 8) Try.func8 #[.agg #[.int .i64 a0_0, .int .i64 a0_1]] ?_; (with_reducible refine (policy_May.calls a0_0 a0_1 t195 _ A3.out).mono ?_); rintro e w12 ⟨rfl, hb⟩; refine ⟨_, rfl, ?_⟩; have n0_ := kb_ BK193 hb; have n1_ := bs_ HB hb; clear BK193; clear HB; have BK193 := n0_; have HB := n1_; clear n0_ n1_; (try clear hb); (try clear hb2); (try clear hk); (try clear hi)) | ((with_reducible refine gate_callee (f := 9) rfl ?_); refine goesM (some 9) Try.func9 #[] ?_; (with_reducible refine (policy_Plain.calls  t196 t197 _ A4.out).mono ?_); rintro e w13 ⟨rfl, hb⟩; refine ⟨_, rfl, ?_⟩; have n0_ := kb_ BK193 hb; have n1_ := bs_ HB hb; clear BK193; clear HB; have BK193 := n0_; have HB := n1_; clear n0_ n1_; (try clear hb); (try clear hb2); (try clear hk); (try clear hi)) | ((with_reducible refine gate_callee (f := 8) rfl ?_); refine goesM (some 10) Try.func8 #[.agg #[.int .i64 t196, .int .i64 t197]] ?_; (with_reducible refine (policy_May.calls t196 t197 true _ A5.out).mono ?_); rintro e w14 ⟨rfl, hb⟩; refine ⟨_, rfl, ?_⟩; have n0_ := kb_ BK193 hb; have n1_ := bs_ HB hb; clear BK193; clear HB; have BK193 := n0_; have HB := n1_; clear n0_ n1_; (try clear hb); (try clear hb2); (try clear hk); (try clear hi); have hcz15_0 : w14.cell? ⟨gb193, 0, none⟩ = some (.int .i64 a0_0) := (blk_cell BK193.out 0).trans rfl; have hcz15_1 : w14.cell? ⟨gb193, 1, none⟩ = some (.int .i64 a0_1) := (blk_cell BK193.out 1).trans rfl; have hfz15_0 := blk_frozen BK193.out 0; have hfz15_1 := blk_frozen BK193.out 1) | (go_at_call 10; (with_reducible refine (steelyardref06_May.calls a0_0 a0_1 t199 _ A8.out).mono ?_); rintro e w16 ⟨rfl, hb⟩; have n0_ := kb_ BK193 hb; have n1_ := bs_ HB hb; clear BK193; clear HB; have BK193 := n0_; have HB := n1_; clear n0_ n1_; (try clear hb); (try clear hb2); (try clear hk); (try clear hi)))
   go_ret
   exact ⟨by first | rfl | (simp [errW_none, errW_some] <;> rfl) | (simp [*, errW_none, errW_some] <;> rfl), bl_ HB⟩
  ·replace c7 := Bool.eq_false_iff.mpr c7
   subst c7
   have H1 : (none) = some r := by rw [if_neg (show ¬ (false = true) by decide)] at H; exact H
   clear H
   have H := H1
   clear H1
   exact absurd H (by simp)
 ·replace c6 := Bool.eq_false_iff.mpr c6
  subst c6
  have H1 : (none) = some r := by rw [if_neg (show ¬ (false = true) by decide)] at H; exact H
  clear H
  have H := H1
  clear H1
  exact absurd H (by simp)

/-- THE ONE PURE STATEMENT of steelyardlaw06_PolicyMays: yours. -/
def steelyardlaw06_PolicyMays.Pure : Prop := ∀ (a0_0 : Int) (a0_1 : Int), (Lit.int .i64 a0_0).wf = true → (Lit.int .i64 a0_1).wf = true → ∃ k, steelyardlaw06_PolicyMays.f k a0_0 a0_1 = some true

/-! ### steelyardref06_within: function 42 -/
def steelyardref06_within.f (a0 : Int) : Option (Bool) := if a0 ≥ 0 then (some (decide (a0 ≤ 1099511627776))) else (some false)
set_option maxHeartbeats 3000000 in
set_option maxRecDepth 100000 in
theorem steelyardref06_within.calls (a0 : Int) (r : Bool) (w : World) (h : steelyardref06_within.f a0 = some r) :
  Calls Try.prog 42 #[.int .i64 a0] w fun e w' => e = .returned (.bool r) ∧ Drawn0 w w' := by
 have H : (if a0 ≥ 0 then (some (decide (a0 ≤ 1099511627776))) else (some false)) = some r := h
 clear h
 by_cases c2 : a0 ≥ 0
 ·rw [if_pos c2] at H
  have c2b0 : decide (0 ≤ a0) = true := decide_eq_true c2
  clear c2
  obtain rfl := Option.some.inj H
  go_enter Try.func42, Try.ntmps42
  go_wp2
  go_ret
  exact ⟨by first | rfl | (simp; done) | (simp [*]; done), by repeat (first | exact Drawn0.refl _ | apply Drawn0.step)⟩
 ·rw [if_neg c2] at H
  have c2b0 : decide (0 ≤ a0) = false := decide_eq_false c2
  clear c2
  obtain rfl := Option.some.inj H
  go_enter Try.func42, Try.ntmps42
  go_wp2
  go_ret
  exact ⟨by first | rfl | (simp; done) | (simp [*]; done), by repeat (first | exact Drawn0.refl _ | apply Drawn0.step)⟩

end Go.Proofs.Ytkoonpjlpobmeaa.Pr
