-- short
-- written by this session's own program (wip/fprint.py), which widens the kit's print by floats
import Derived.Test.YtkoonpjlpobmeaaWShort
import Derived.Test.YtkoonpjlpobmeaaPr0
import Derived.Test.YtkoonpjlpobmeaaPr3
import Derived.Test.YtkoonpjlpobmeaaPr6
import Derived.Test.YtkoonpjlpobmeaaPr7
namespace Go.Proofs.Ytkoonpjlpobmeaa.Pr
open Go.RowKit Go.Proofs.YtkoonpjlpobmeaaW.PrintWords Go.Proofs.YtkoonpjlpobmeaaW.PrintLast Go.Proofs.YtkoonpjlpobmeaaW.PrintMore
attribute [local go_sem] max2_int min2_int max_two min_two max_three min_three max_four min_four   -- for this text's walks alone
set_option linter.unusedVariables false
set_option linter.unusedSimpArgs false

/-! ### policy_Sift: function 12 -/
mutual
def policy_Sift.l0 : Nat → List Nat → List Nat → Int → Int → Int → Int → Int → Int → Int → Int → Int → Int → Option (List Nat × Int × Int × Int × Int × Int × Int × Int)
 | 0, _, _, _, _, _, _, _, _, _, _, _, _ => none
 | k + 1, x0, x8, x25, x26, x124000, x124001, x126000, x126001, x126002, x126003, x126004, x126005 => if x26 < x25 then (if 0 ≤ x26 then (if x26 < (x0.length : Int) then ((policy_kind.f k (rdOf (0 : Nat) x0 x26)).bind fun t131 => ((policy_count.f x126000 x126001 x126002 x126003 x126004 x126005 t131).bind fun bt132 => (if t131 ≤ 2 then (if x8.length < 17592186044416 then (policy_Sift.l0 k x0 (x8 ++ [rdOf (0 : Nat) x0 x26]) x25 (wrap64 (x26 + 1)) x124000 x124001 bt132.1 bt132.2.1 bt132.2.2.1 bt132.2.2.2.1 bt132.2.2.2.2.1 bt132.2.2.2.2.2) else (none)) else (policy_Sift.l0 k x0 x8 x25 (wrap64 (x26 + 1)) x124000 x124001 bt132.1 bt132.2.1 bt132.2.2.1 bt132.2.2.2.1 bt132.2.2.2.2.1 bt132.2.2.2.2.2)))) else (none)) else (none)) else (if x126000 > 0 then (policy_Sift.j1 k x8 (x124000 == 2) x124000 x124001 x126000 x126001 x126002 x126003 x126004 x126005) else (policy_Sift.j1 k x8 false x124000 x124001 x126000 x126001 x126002 x126003 x126004 x126005))
def policy_Sift.j1 : Nat → List Nat → Bool → Int → Int → Int → Int → Int → Int → Int → Int → Option (List Nat × Int × Int × Int × Int × Int × Int × Int)
 | 0, _, _, _, _, _, _, _, _, _, _ => none
 | k + 1, x8, x46, x124000, x124001, x126000, x126001, x126002, x126003, x126004, x126005 => if x46 = true then (some (([] : List Nat), 0, 0, 0, 0, 0, 0, 60)) else (if (wrap64 (x126001 + x126002)) > 0 then (if x124001 = 2 then (some (([] : List Nat), 0, 0, 0, 0, 0, 0, 61)) else (some (x8, x126000, x126001, x126002, x126003, x126004, x126005, 0))) else (some (x8, x126000, x126001, x126002, x126003, x126004, x126005, 0)))
end
def policy_Sift.f (k : Nat) (l0 : List Nat) (a1_0 : Int) (a1_1 : Int) : Option (List Nat × Int × Int × Int × Int × Int × Int × Int) := (policy_May.f a1_0 a1_1).bind fun t126 => (if t126 = true then (if (l0.length : Int) > 65536 then (some (([] : List Nat), 0, 0, 0, 0, 0, 0, 2)) else (if 0 ≤ (l0.length : Int) then (if ((l0.length : Int) : Int).toNat ≤ 35184372088832 then (policy_Sift.l0 k l0 (List.replicate 0 (0 : Nat)) (l0.length : Int) 0 a1_0 a1_1 0 0 0 0 0 0) else (none)) else (none))) else (some (([] : List Nat), 0, 0, 0, 0, 0, 0, 1)))
theorem policy_Sift.mono_l : ∀ k, (∀ y0 y1 y2 y3 y4 y5 y6 y7 y8 y9 y10 y11, LeO (policy_Sift.l0 k y0 y1 y2 y3 y4 y5 y6 y7 y8 y9 y10 y11) (policy_Sift.l0 (k + 1) y0 y1 y2 y3 y4 y5 y6 y7 y8 y9 y10 y11)) ∧ (∀ y0 y1 y2 y3 y4 y5 y6 y7 y8 y9, LeO (policy_Sift.j1 k y0 y1 y2 y3 y4 y5 y6 y7 y8 y9) (policy_Sift.j1 (k + 1) y0 y1 y2 y3 y4 y5 y6 y7 y8 y9))
 | 0 => ⟨fun _ _ _ _ _ _ _ _ _ _ _ _ r h => by simp [policy_Sift.l0] at h, fun _ _ _ _ _ _ _ _ _ _ r h => by simp [policy_Sift.j1] at h⟩
 | k + 1 => by
  obtain ⟨ih0, ih1⟩ := policy_Sift.mono_l k
  refine ⟨?_, ?_⟩
  ·intro y0 y1 y2 y3 y4 y5 y6 y7 y8 y9 y10 y11
   unfold policy_Sift.l0
   repeat' first
   | (with_reducible exact ih0 _ _ _ _ _ _ _ _ _ _ _ _)
   | (with_reducible exact ih1 _ _ _ _ _ _ _ _ _ _)
   | (with_reducible exact policy_kind.mono _ _)
   | (with_reducible exact LeO.refl _)
   | (with_reducible exact LeO.none _)
   | (with_reducible refine LeO.ite ?_ ?_)
   | (with_reducible refine LeO.bind ?_ (fun _ => ?_))
   | exact ih0 _ _ _ _ _ _ _ _ _ _ _ _
   | exact ih1 _ _ _ _ _ _ _ _ _ _
   | exact policy_kind.mono _ _
   | exact LeO.none _
   | refine LeO.ite ?_ ?_
   | refine LeO.bind ?_ (fun _ => ?_)
  ·intro y0 y1 y2 y3 y4 y5 y6 y7 y8 y9
   unfold policy_Sift.j1
   repeat' first
   | (with_reducible exact ih0 _ _ _ _ _ _ _ _ _ _ _ _)
   | (with_reducible exact ih1 _ _ _ _ _ _ _ _ _ _)
   | (with_reducible exact policy_kind.mono _ _)
   | (with_reducible exact LeO.refl _)
   | (with_reducible exact LeO.none _)
   | (with_reducible refine LeO.ite ?_ ?_)
   | (with_reducible refine LeO.bind ?_ (fun _ => ?_))
   | exact ih0 _ _ _ _ _ _ _ _ _ _ _ _
   | exact ih1 _ _ _ _ _ _ _ _ _ _
   | exact policy_kind.mono _ _
   | exact LeO.none _
   | refine LeO.ite ?_ ?_
   | refine LeO.bind ?_ (fun _ => ?_)
theorem policy_Sift.mono : ∀ a0 a1 a2 k, LeO (policy_Sift.f k a0 a1 a2) (policy_Sift.f (k + 1) a0 a1 a2) := by
 intro a0 a1 a2 k
 obtain ⟨ih0, ih1⟩ := policy_Sift.mono_l k
 unfold policy_Sift.f
 repeat' first
   | (with_reducible exact ih0 _ _ _ _ _ _ _ _ _ _ _ _)
   | (with_reducible exact ih1 _ _ _ _ _ _ _ _ _ _)
   | (with_reducible exact policy_kind.mono _ _)
   | (with_reducible exact LeO.refl _)
   | (with_reducible exact LeO.none _)
   | (with_reducible refine LeO.ite ?_ ?_)
   | (with_reducible refine LeO.bind ?_ (fun _ => ?_))
   | exact ih0 _ _ _ _ _ _ _ _ _ _ _ _
   | exact ih1 _ _ _ _ _ _ _ _ _ _
   | exact policy_kind.mono _ _
   | exact LeO.none _
   | refine LeO.ite ?_ ?_
   | refine LeO.bind ?_ (fun _ => ?_)
set_option maxHeartbeats 3000000 in
set_option maxRecDepth 100000 in
theorem policy_Sift.calls (k : Nat) (A0 : Option Addr) (c0 : Nat) (l0 : List Nat) (a1_0 : Int) (a1_1 : Int) (r1 : List Nat) (r2 : Int) (r3 : Int) (r4 : Int) (r5 : Int) (r6 : Int) (r7 : Int) (r8 : Int) (w : World) (hr0 : Kd.C (Kd.float .f64) w A0 l0.length l0) (hc0 : l0.length ≤ c0) (h : policy_Sift.f k l0 a1_0 a1_1 = some (r1, r2, r3, r4, r5, r6, r7, r8)) :
  Calls Try.prog 12 #[.slice A0 l0.length c0, .agg #[.int .i64 a1_0, .int .i64 a1_1]] w fun e w' => ∃ v0_ : Value, e = .returned (.tuple #[v0_, .agg #[.int .i64 r2, .int .i64 r3, .int .i64 r4, .int .i64 r5, .int .i64 r6, .int .i64 r7], .int .i64 r8]) ∧ Kd.R (Kd.float .f64) 41 w' w.heap.size (fun _ => True) v0_ r1 ∧ Below w.heap.size w w' := by
 have hu23 := Try.underlying23
 have hu30 := Try.underlying30
 have HR0 := Aside0.mk hr0
 have HC0 := Aside0.mk hc0
 clear hr0 hc0
 have HB := Aside0.mk (Below.refl w.heap.size w)
 have H : ((policy_May.f a1_0 a1_1).bind fun t126 => (if t126 = true then (if (l0.length : Int) > 65536 then (some (([] : List Nat), 0, 0, 0, 0, 0, 0, 2)) else (if 0 ≤ (l0.length : Int) then (if ((l0.length : Int) : Int).toNat ≤ 35184372088832 then (policy_Sift.l0 k l0 (List.replicate 0 (0 : Nat)) (l0.length : Int) 0 a1_0 a1_1 0 0 0 0 0 0) else (none)) else (none))) else (some (([] : List Nat), 0, 0, 0, 0, 0, 0, 1)))) = some (r1, r2, r3, r4, r5, r6, r7, r8) := h
 clear h
 obtain ⟨t126, A3, H⟩ := ob_ H
 try dsimp only at H
 by_cases c4 : t126 = true
 ·subst c4
  have H1 : (if (l0.length : Int) > 65536 then (some (([] : List Nat), 0, 0, 0, 0, 0, 0, 2)) else (if 0 ≤ (l0.length : Int) then (if ((l0.length : Int) : Int).toNat ≤ 35184372088832 then (policy_Sift.l0 k l0 (List.replicate 0 (0 : Nat)) (l0.length : Int) 0 a1_0 a1_1 0 0 0 0 0 0) else (none)) else (none))) = some (r1, r2, r3, r4, r5, r6, r7, r8) := by rw [if_pos rfl] at H; exact H
  clear H
  have H := H1
  clear H1
  by_cases c5 : (l0.length : Int) > 65536
  ·rw [if_pos c5] at H
   have c5b0 : decide (65536 < (l0.length : Int)) = true := decide_eq_true c5
   have c5b1 : decide (65536 < l0.length) = true := decide_eq_true (by omega)
   clear c5
   simp only [Option.some.injEq, Prod.mk.injEq] at H
   obtain ⟨rfl, rfl, rfl, rfl, rfl, rfl, rfl, rfl⟩ := H
   go_enter Try.func12, Try.ntmps12
   try go_wp2_with (first | ((with_reducible refine gate_dst (N := 3) rfl ?_); refine box_event ?hg (N := 3) ?hd (cs := #[.int .i64 a1_0, .int .i64 a1_1]) (t := 23) ?hr ?_; (case hd => rfl); (case hg => rfl); (case hr => first | (go_simp; done) | (go_simp; rfl)); intro gb123 hg w6 hbox hb; have n0_ := bs_ HB hb; have n1_ := Aside0.mk (hbox); have n2_ := ge_ HB hg; have n3_ := ge_ HB hg; clear HB; have HB := n0_; have BK123 := n1_; have GW123 := n2_; have GE123 := n3_; clear n0_ n1_ n2_ n3_; clear hb hbox hg) | ((with_reducible refine gate_dst (N := 5) rfl ?_); refine box_event ?hg (N := 5) ?hd (cs := #[.int .i64 0, .int .i64 0, .int .i64 0, .int .i64 0, .int .i64 0, .int .i64 0]) (t := 30) ?hr ?_; (case hd => rfl); (case hg => rfl); (case hr => first | (go_simp; done) | (go_simp; rfl)); intro gb124 hg w7 hbox hb; have n0_ := kb_ BK123 hb; have n1_ := bs_ HB hb; have n2_ := Aside0.mk (hbox); have n3_ := ge_ HB hg; have n4_ := ge_ HB hg; have n5_ := nlt_ BK123 hg; have n6_ := ngt_ BK123 hg; clear BK123; clear HB; have BK123 := n0_; have HB := n1_; have BK124 := n2_; have GW124 := n3_; have GE124 := n4_; have NB123_124 := n5_; have NB124_123 := n6_; clear n0_ n1_ n2_ n3_ n4_ n5_ n6_; clear hb hbox hg) | ((with_reducible refine gate_dst (N := 7) rfl ?_); refine box_event ?hg (N := 7) ?hd (cs := #[.int .i64 0, .int .i64 0, .int .i64 0, .int .i64 0, .int .i64 0, .int .i64 0]) (t := 30) ?hr ?_; (case hd => rfl); (case hg => rfl); (case hr => first | (go_simp; done) | (go_simp; rfl)); intro gb125 hg w8 hbox hb; have n0_ := kb_ BK123 hb; have n1_ := kb_ BK124 hb; have n2_ := bs_ HB hb; have n3_ := Aside0.mk (hbox); have n4_ := ge_ HB hg; have n5_ := ge_ HB hg; have n6_ := nlt_ BK123 hg; have n7_ := ngt_ BK123 hg; have n8_ := nlt_ BK124 hg; have n9_ := ngt_ BK124 hg; clear BK123; clear BK124; clear HB; have BK123 := n0_; have BK124 := n1_; have HB := n2_; have BK125 := n3_; have GW125 := n4_; have GE125 := n5_; have NB123_125 := n6_; have NB125_123 := n7_; have NB124_125 := n8_; have NB125_124 := n9_; clear n0_ n1_ n2_ n3_ n4_ n5_ n6_ n7_ n8_ n9_; clear hb hbox hg; have hnb9 := NB123_124.out; have hnc9 := NB124_123.out; have hnb10 := NB123_125.out; have hnc10 := NB125_123.out; have hcz11_0 : w8.cell? ⟨gb123, 0, none⟩ = some (.int .i64 a1_0) := (blk_cell BK123.out 0).trans rfl; have hcz11_1 : w8.cell? ⟨gb123, 1, none⟩ = some (.int .i64 a1_1) := (blk_cell BK123.out 1).trans rfl; have hfz11_0 := blk_frozen BK123.out 0; have hfz11_1 := blk_frozen BK123.out 1) | ((with_reducible refine gate_callee (f := 8) rfl ?_); refine goesM (some 13) Try.func8 #[.agg #[.int .i64 a1_0, .int .i64 a1_1]] ?_; (with_reducible refine (policy_May.calls a1_0 a1_1 true _ A3.out).mono ?_); rintro e w12 ⟨rfl, hb⟩; refine ⟨_, rfl, ?_⟩; have n0_ := kb_ BK123 hb; have n1_ := kb_ BK124 hb; have n2_ := kb_ BK125 hb; have n3_ := bs_ HB hb; clear BK123; clear BK124; clear BK125; clear HB; have BK123 := n0_; have BK124 := n1_; have BK125 := n2_; have HB := n3_; clear n0_ n1_ n2_ n3_; (try clear hb); (try clear hb2); (try clear hk); (try clear hi)))
   have n0_ := Aside0.mk (blk_drew BK123.out)
   have n1_ := Aside0.mk (blk_drew BK124.out)
   have n2_ := Aside0.mk (blk_drew BK125.out)
   have n3_ := Aside0.mk (below_drew1 HB.out)
   clear BK123
   clear BK124
   clear BK125
   clear HB
   have BK123 := n0_
   have BK124 := n1_
   have BK125 := n2_
   have HB := n3_
   clear n0_ n1_ n2_ n3_
   refine start_ (n := 4) (S := fun w' => w'.cell? ⟨gb125, 0, none⟩ = some (.int .i64 0) ∧ w'.cell? ⟨gb125, 1, none⟩ = some (.int .i64 0) ∧ w'.cell? ⟨gb125, 2, none⟩ = some (.int .i64 0) ∧ w'.cell? ⟨gb125, 3, none⟩ = some (.int .i64 0) ∧ w'.cell? ⟨gb125, 4, none⟩ = some (.int .i64 0) ∧ w'.cell? ⟨gb125, 5, none⟩ = some (.int .i64 0)) (ds := []) #[false, false, false, false] (by kernel_rfl) rfl rfl ⟨(blk_cell BK125.out 0).trans rfl, (blk_cell BK125.out 1).trans rfl, (blk_cell BK125.out 2).trans rfl, (blk_cell BK125.out 3).trans rfl, (blk_cell BK125.out 4).trans rfl, (blk_cell BK125.out 5).trans rfl⟩ (fun hHeld => ?_)
   generalize w12.drew = w13 at BK123 BK124 BK125 HB hHeld ⊢
   refine pure_ (i := 1) (N := some 4) (v := ?_) (a' := ?_) #[false, true, false, false] rfl rfl (by kernel_rfl) (fun _ _ _ h => h) (Or.inl ⟨by rfl, ?_⟩) ?_ ?_
   rotate_left
   ·intro w'
    go_simp
    with_reducible rfl
   rotate_left
   ·simp only [Act.put, List.setIfInBounds_toArray, List.set_cons_zero, List.set_cons_succ, i64_w, i32_w]
    rfl
   refine take_ (i := 0) (N := some 20) (v := ?_) (a' := ?_) #[true, true, false, false] rfl rfl (by kernel_rfl) (fun _ _ _ h => h) (Or.inl ⟨by rfl, ?_⟩) hHeld ?_ ?_
   rotate_left
   ·rintro w' ⟨s0, s1, s2, s3, s4, s5⟩
    go_simp
    with_reducible rfl
   rotate_left
   ·simp only [Act.put, List.setIfInBounds_toArray, List.set_cons_zero, List.set_cons_succ, i64_w, i32_w]
    rfl
   refine one_ (i := 2) (N := none) #[true, true, true, false] rfl rfl (by kernel_rfl) (by decide) (fun K hK => ?_)
   have hs14 : w13.cell? ⟨gb124, 0, none⟩ = some (.int .i64 0) := (blk_cell BK124.out 0).trans rfl
   have hfs14 := blk_frozen BK124.out 0
   have hns14_0 := NB123_124.out
   have hns14_2 := NB125_124.out
   have hms14_0 := NB124_123.out
   have hms14_2 := NB124_125.out
   have hs15 : w13.cell? ⟨gb124, 1, none⟩ = some (.int .i64 0) := (blk_cell BK124.out 1).trans rfl
   have hfs15 := blk_frozen BK124.out 1
   have hns15_0 := NB123_124.out
   have hns15_2 := NB125_124.out
   have hms15_0 := NB124_123.out
   have hms15_2 := NB124_125.out
   have hs16 : w13.cell? ⟨gb124, 2, none⟩ = some (.int .i64 0) := (blk_cell BK124.out 2).trans rfl
   have hfs16 := blk_frozen BK124.out 2
   have hns16_0 := NB123_124.out
   have hns16_2 := NB125_124.out
   have hms16_0 := NB124_123.out
   have hms16_2 := NB124_125.out
   have hs17 : w13.cell? ⟨gb124, 3, none⟩ = some (.int .i64 0) := (blk_cell BK124.out 3).trans rfl
   have hfs17 := blk_frozen BK124.out 3
   have hns17_0 := NB123_124.out
   have hns17_2 := NB125_124.out
   have hms17_0 := NB124_123.out
   have hms17_2 := NB124_125.out
   have hs18 : w13.cell? ⟨gb124, 4, none⟩ = some (.int .i64 0) := (blk_cell BK124.out 4).trans rfl
   have hfs18 := blk_frozen BK124.out 4
   have hns18_0 := NB123_124.out
   have hns18_2 := NB125_124.out
   have hms18_0 := NB124_123.out
   have hms18_2 := NB124_125.out
   have hs19 : w13.cell? ⟨gb124, 5, none⟩ = some (.int .i64 0) := (blk_cell BK124.out 5).trans rfl
   have hfs19 := blk_frozen BK124.out 5
   have hns19_0 := NB123_124.out
   have hns19_2 := NB125_124.out
   have hms19_0 := NB124_123.out
   have hms19_2 := NB124_125.out
   refine skip_ (w1 := ?_) (by rfl) rfl ?_ ?_
   rotate_left
   ·go_simp
    rfl
   refine hK.out _ _ ⟨((cell_far (p := ⟨gb124, _, none⟩) NB125_124.out _).trans (((cell_far (p := ⟨gb124, _, none⟩) NB125_124.out _).trans (((cell_far (p := ⟨gb124, _, none⟩) NB125_124.out _).trans (((cell_far (p := ⟨gb124, _, none⟩) NB125_124.out _).trans (((cell_far (p := ⟨gb124, _, none⟩) NB125_124.out _).trans (((cell_far (p := ⟨gb124, _, none⟩) NB125_124.out _).trans (hHeld.1)))))))))))), ((cell_far (p := ⟨gb124, _, none⟩) NB125_124.out _).trans (((cell_far (p := ⟨gb124, _, none⟩) NB125_124.out _).trans (((cell_far (p := ⟨gb124, _, none⟩) NB125_124.out _).trans (((cell_far (p := ⟨gb124, _, none⟩) NB125_124.out _).trans (((cell_far (p := ⟨gb124, _, none⟩) NB125_124.out _).trans (((cell_far (p := ⟨gb124, _, none⟩) NB125_124.out _).trans (hHeld.2.1)))))))))))), ((cell_far (p := ⟨gb124, _, none⟩) NB125_124.out _).trans (((cell_far (p := ⟨gb124, _, none⟩) NB125_124.out _).trans (((cell_far (p := ⟨gb124, _, none⟩) NB125_124.out _).trans (((cell_far (p := ⟨gb124, _, none⟩) NB125_124.out _).trans (((cell_far (p := ⟨gb124, _, none⟩) NB125_124.out _).trans (((cell_far (p := ⟨gb124, _, none⟩) NB125_124.out _).trans (hHeld.2.2.1)))))))))))), ((cell_far (p := ⟨gb124, _, none⟩) NB125_124.out _).trans (((cell_far (p := ⟨gb124, _, none⟩) NB125_124.out _).trans (((cell_far (p := ⟨gb124, _, none⟩) NB125_124.out _).trans (((cell_far (p := ⟨gb124, _, none⟩) NB125_124.out _).trans (((cell_far (p := ⟨gb124, _, none⟩) NB125_124.out _).trans (((cell_far (p := ⟨gb124, _, none⟩) NB125_124.out _).trans (hHeld.2.2.2.1)))))))))))), ((cell_far (p := ⟨gb124, _, none⟩) NB125_124.out _).trans (((cell_far (p := ⟨gb124, _, none⟩) NB125_124.out _).trans (((cell_far (p := ⟨gb124, _, none⟩) NB125_124.out _).trans (((cell_far (p := ⟨gb124, _, none⟩) NB125_124.out _).trans (((cell_far (p := ⟨gb124, _, none⟩) NB125_124.out _).trans (((cell_far (p := ⟨gb124, _, none⟩) NB125_124.out _).trans (hHeld.2.2.2.2.1)))))))))))), ((cell_far (p := ⟨gb124, _, none⟩) NB125_124.out _).trans (((cell_far (p := ⟨gb124, _, none⟩) NB125_124.out _).trans (((cell_far (p := ⟨gb124, _, none⟩) NB125_124.out _).trans (((cell_far (p := ⟨gb124, _, none⟩) NB125_124.out _).trans (((cell_far (p := ⟨gb124, _, none⟩) NB125_124.out _).trans (((cell_far (p := ⟨gb124, _, none⟩) NB125_124.out _).trans (hHeld.2.2.2.2.2))))))))))))⟩ (fun hHeld => ?_)
   clear hK K
   refine pure_ (i := 3) (N := some 6) (v := ?_) (a' := ?_) #[true, true, true, true] rfl rfl (by kernel_rfl) (fun _ _ _ h => h) (Or.inl ⟨by rfl, ?_⟩) ?_ ?_
   rotate_left
   ·intro w'
    go_simp
    with_reducible rfl
   rotate_left
   ·simp only [Act.put, List.setIfInBounds_toArray, List.set_cons_zero, List.set_cons_succ, i64_w, i32_w]
    rfl
   refine done_ (by kernel_rfl) ?_
   try go_wp2
   refine bodyPost_ret (results_list (rs := [.tmp 4, .cell 5 30, .tmp 6]) rfl (by simp) (.tmp (.cell gb124 30 #[.int .i64 0, .int .i64 0, .int .i64 0, .int .i64 0, .int .i64 0, .int .i64 0] (0, 0) _ rfl (by (with_reducible repeat (first | apply bN | apply bD | apply bA)); refine blk_put (cs := #[.int .i64 0, .int .i64 0, .int .i64 0, .int .i64 0, .int .i64 0, .int .i64 0]) ?_ 5 _ rfl; (with_reducible repeat (first | apply bN | apply bD | apply bA)); refine blk_put (cs := #[.int .i64 0, .int .i64 0, .int .i64 0, .int .i64 0, .int .i64 0, .int .i64 0]) ?_ 4 _ rfl; (with_reducible repeat (first | apply bN | apply bD | apply bA)); refine blk_put (cs := #[.int .i64 0, .int .i64 0, .int .i64 0, .int .i64 0, .int .i64 0, .int .i64 0]) ?_ 3 _ rfl; (with_reducible repeat (first | apply bN | apply bD | apply bA)); refine blk_put (cs := #[.int .i64 0, .int .i64 0, .int .i64 0, .int .i64 0, .int .i64 0, .int .i64 0]) ?_ 2 _ rfl; (with_reducible repeat (first | apply bN | apply bD | apply bA)); refine blk_put (cs := #[.int .i64 0, .int .i64 0, .int .i64 0, .int .i64 0, .int .i64 0, .int .i64 0]) ?_ 1 _ rfl; (with_reducible repeat (first | apply bN | apply bD | apply bA)); refine blk_put (cs := #[.int .i64 0, .int .i64 0, .int .i64 0, .int .i64 0, .int .i64 0, .int .i64 0]) ?_ 0 _ rfl; (with_reducible repeat (first | apply bN | apply bD | apply bA)); exact BK124.out) Try.underlying30 rfl (by kernel_rfl) (.tmp .nil)))) rfl ?_
   exact ⟨_, by first | rfl | (simp [errW_none, errW_some] <;> rfl) | (simp [*, errW_none, errW_some] <;> rfl), by first | exact Kd.R_nil _ _ _ _ _ | exact Kd.N_nil _ _ _ _ _ | exact Kd.V_nil _ _ _ _ _ | exact Kd.Q_nil _ _ _ _ _ | exact Kd.S_nil _ _ _ _ _, bl_ HB⟩
  ·rw [if_neg c5] at H
   have c5b0 : decide (65536 < (l0.length : Int)) = false := decide_eq_false c5
   have c5b1 : decide (65536 < l0.length) = false := decide_eq_false (by omega)
   clear c5
   by_cases c20 : 0 ≤ (l0.length : Int)
   ·rw [if_pos c20] at H
    have c20b0 := eq_true c20
    have c20b1 : decide (0 ≤ (l0.length : Int)) = true := decide_eq_true c20
    clear c20
    by_cases c21 : ((l0.length : Int) : Int).toNat ≤ 35184372088832
    ·rw [if_pos c21] at H
     have c21b0 := eq_true c21
     have c21b1 : decide (((l0.length : Int) : Int).toNat ≤ 35184372088832) = true := decide_eq_true c21
     clear c21
     obtain ⟨y127, hy127⟩ : ∃ y_ : List Nat, y_ = (List.replicate 0 (0 : Nat)) := ⟨_, rfl⟩
     replace H : (policy_Sift.l0 k l0 y127 (l0.length : Int) 0 a1_0 a1_1 0 0 0 0 0 0) = some (r1, r2, r3, r4, r5, r6, r7, r8) := by first | (rw [hy127]; with_reducible exact H) | (have H2_ := (Option.bind_some _ _).symm.trans H; rw [hy127]; with_reducible exact H2_) | (have H2_ := (Option.bind_some _ _).symm.trans H; with_reducible exact H2_) | with_reducible exact H | (rw [hy127]; exact H) | exact H
     have Ny127 := Aside0.mk hy127
     clear hy127
     have H' := Aside0.mk H
     clear H
     go_enter Try.func12, Try.ntmps12
     go_wp2_with (first | ((with_reducible refine gate_dst (N := 3) rfl ?_); refine box_event ?hg (N := 3) ?hd (cs := #[.int .i64 a1_0, .int .i64 a1_1]) (t := 23) ?hr ?_; (case hd => rfl); (case hg => rfl); (case hr => first | (go_simp; done) | (go_simp; rfl)); intro gb123 hg w22 hbox hb; have n0_ := bs_ HB hb; have n1_ := Aside0.mk (hbox); have n2_ := ge_ HB hg; have n3_ := ge_ HB hg; clear HB; have HB := n0_; have BK123 := n1_; have GW123 := n2_; have GE123 := n3_; clear n0_ n1_ n2_ n3_; clear hb hbox hg) | ((with_reducible refine gate_dst (N := 5) rfl ?_); refine box_event ?hg (N := 5) ?hd (cs := #[.int .i64 0, .int .i64 0, .int .i64 0, .int .i64 0, .int .i64 0, .int .i64 0]) (t := 30) ?hr ?_; (case hd => rfl); (case hg => rfl); (case hr => first | (go_simp; done) | (go_simp; rfl)); intro gb124 hg w23 hbox hb; have n0_ := kb_ BK123 hb; have n1_ := bs_ HB hb; have n2_ := Aside0.mk (hbox); have n3_ := ge_ HB hg; have n4_ := ge_ HB hg; have n5_ := nlt_ BK123 hg; have n6_ := ngt_ BK123 hg; clear BK123; clear HB; have BK123 := n0_; have HB := n1_; have BK124 := n2_; have GW124 := n3_; have GE124 := n4_; have NB123_124 := n5_; have NB124_123 := n6_; clear n0_ n1_ n2_ n3_ n4_ n5_ n6_; clear hb hbox hg) | ((with_reducible refine gate_dst (N := 7) rfl ?_); refine box_event ?hg (N := 7) ?hd (cs := #[.int .i64 0, .int .i64 0, .int .i64 0, .int .i64 0, .int .i64 0, .int .i64 0]) (t := 30) ?hr ?_; (case hd => rfl); (case hg => rfl); (case hr => first | (go_simp; done) | (go_simp; rfl)); intro gb125 hg w24 hbox hb; have n0_ := kb_ BK123 hb; have n1_ := kb_ BK124 hb; have n2_ := bs_ HB hb; have n3_ := Aside0.mk (hbox); have n4_ := ge_ HB hg; have n5_ := ge_ HB hg; have n6_ := nlt_ BK123 hg; have n7_ := ngt_ BK123 hg; have n8_ := nlt_ BK124 hg; have n9_ := ngt_ BK124 hg; clear BK123; clear BK124; clear HB; have BK123 := n0_; have BK124 := n1_; have HB := n2_; have BK125 := n3_; have GW125 := n4_; have GE125 := n5_; have NB123_125 := n6_; have NB125_123 := n7_; have NB124_125 := n8_; have NB125_124 := n9_; clear n0_ n1_ n2_ n3_ n4_ n5_ n6_ n7_ n8_ n9_; clear hb hbox hg; have hnb25 := NB123_124.out; have hnc25 := NB124_123.out; have hnb26 := NB123_125.out; have hnc26 := NB125_123.out; have hcz27_0 : w24.cell? ⟨gb123, 0, none⟩ = some (.int .i64 a1_0) := (blk_cell BK123.out 0).trans rfl; have hcz27_1 : w24.cell? ⟨gb123, 1, none⟩ = some (.int .i64 a1_1) := (blk_cell BK123.out 1).trans rfl; have hfz27_0 := blk_frozen BK123.out 0; have hfz27_1 := blk_frozen BK123.out 1) | ((with_reducible refine gate_callee (f := 8) rfl ?_); refine goesM (some 13) Try.func8 #[.agg #[.int .i64 a1_0, .int .i64 a1_1]] ?_; (with_reducible refine (policy_May.calls a1_0 a1_1 true _ A3.out).mono ?_); rintro e w28 ⟨rfl, hb⟩; refine ⟨_, rfl, ?_⟩; have n0_ := kb_ BK123 hb; have n1_ := kb_ BK124 hb; have n2_ := kb_ BK125 hb; have n3_ := bs_ HB hb; clear BK123; clear BK124; clear BK125; clear HB; have BK123 := n0_; have BK124 := n1_; have BK125 := n2_; have HB := n3_; clear n0_ n1_ n2_ n3_; (try clear hb); (try clear hb2); (try clear hk); (try clear hi)) | ((with_reducible refine gate_dst (N := 23) rfl ?_); refine Kd.R_makec (Kd.float .f64) _ 41 rfl (N := 23) rfl 27 _ _ rfl 0 (l0.length : Int) rfl rfl Try.underlying27 (.float .f64 0) 8 info41 rfl (by decide) (by omega) (0 : Nat) (ok := fun _ => True) (okp := fun _ => True) rfl (fun _ hk => hk) trivial (by omega) (of_decide_eq_true (by first | (with_reducible assumption) | assumption)) (Nat.le_trans (Nat.mul_le_mul_right _ (of_decide_eq_true (by first | (with_reducible assumption) | assumption) : ((l0.length : Int) : Int).toNat ≤ 35184372088832)) (by omega)) (Below.refl _ _) (Nat.le_refl _) ?_; intro v128 w29 ho30 hb hg_ hnew_; clear hg_ hnew_; (first | rw [← Ny127.out] at ho30 | (simp only [Int.reduceToNat] at ho30; rw [← Ny127.out] at ho30)); have n0_ := Aside0.mk (Kd.R_lower ho30 (below_size (bl_ HB))); have n1_ := kb_ BK123 hb; have n2_ := kb_ BK124 hb; have n3_ := kb_ BK125 hb; have n4_ := bs_ HB hb; clear BK123; clear BK124; clear BK125; clear HB; have HO129 := n0_; have BK123 := n1_; have BK124 := n2_; have BK125 := n3_; have HB := n4_; clear n0_ n1_ n2_ n3_ n4_; clear hb ho30))
     go_loopg [8, 26] k (fun kq v8 v26 w' => ∃ (x8_1 : List Nat) (x26_1 : Int) (x126000_1 : Int) (x126001_1 : Int) (x126002_1 : Int) (x126003_1 : Int) (x126004_1 : Int) (x126005_1 : Int), v26 = .int .i64 x26_1 ∧ Aside0 (policy_Sift.l0 kq l0 x8_1 (l0.length : Int) x26_1 a1_0 a1_1 x126000_1 x126001_1 x126002_1 x126003_1 x126004_1 x126005_1 = some (r1, r2, r3, r4, r5, r6, r7, r8)) ∧ Aside0 (kq ≤ k) ∧ Aside0 (Kd.R (Kd.float .f64) 41 w' w.heap.size (fun _ => True) v8 x8_1) ∧ Aside0 (w'.heap[gb123]? = some (.cells #[.int .i64 a1_0, .int .i64 a1_1] 23 (0, 0))) ∧ Aside0 (w'.heap[gb124]? = some (.cells #[.int .i64 0, .int .i64 0, .int .i64 0, .int .i64 0, .int .i64 0, .int .i64 0] 30 (0, 0))) ∧ Aside0 (w'.heap[gb125]? = some (.cells #[.int .i64 x126000_1, .int .i64 x126001_1, .int .i64 x126002_1, .int .i64 x126003_1, .int .i64 x126004_1, .int .i64 x126005_1] 30 (0, 0))) ∧ Aside0 (Below w.heap.size w w'))
     case atStart => exact ⟨(y127), (0), (0), (0), (0), (0), (0), (0), (by first | rfl | (simp; done) | (simp [*]; done)), H', ⟨Nat.le_refl _⟩, ⟨by (with_reducible repeat (first | apply rA | apply rN | apply rD)); exact HO129.out⟩, ⟨by (with_reducible repeat (first | apply bN | apply bD | apply bA)); exact BK123.out⟩, ⟨by (with_reducible repeat (first | apply bN | apply bD | apply bA)); exact BK124.out⟩, ⟨by (with_reducible repeat (first | apply bN | apply bD | apply bA)); exact BK125.out⟩, ⟨bl_ HB⟩⟩
     case round =>
      clear H'
      try clear c1
      try clear c2
      try clear p2
      try clear c4
      try clear c5
      try clear c5b0
      try clear c5b1
      try clear c8
      try clear c9
      try clear c10
      try clear c12
      try clear c20
      try clear c20b0
      try clear c20b1
      try clear c21
      try clear c21b0
      try clear c21b1
      try clear c25
      try clear c26
      try clear hcz11_0
      try clear hcz11_1
      try clear hcz27_0
      try clear hcz27_1
      try clear hfz11_0
      try clear hfz11_1
      try clear hfz27_0
      try clear hfz27_1
      obtain ⟨x8_1, x26_1, x126000_1, x126001_1, x126002_1, x126003_1, x126004_1, x126005_1, rfl, HA, HK1, HO_8, BK123, BK124, BK125, HB⟩ := hrel
      cases gk with
      | zero => exact absurd HA.out (by simp [policy_Sift.l0])
      | succ k1 =>
       have H := HA.out
       clear HA
       simp only [policy_Sift.l0] at H
       by_cases c31 : x26_1 < (l0.length : Int)
       ·rw [if_pos c31] at H
        have c31b0 : decide (x26_1 < (l0.length : Int)) = true := decide_eq_true c31
        clear c31
        by_cases c32 : 0 ≤ x26_1
        ·rw [if_pos c32] at H
         have c32b0 : decide (0 ≤ x26_1) = true := decide_eq_true c32
         clear c32
         by_cases c33 : x26_1 < (l0.length : Int)
         ·rw [if_pos c33] at H
          have c33b0 : decide (x26_1 < (l0.length : Int)) = true := decide_eq_true c33
          clear c33
          obtain ⟨t131, A34, H⟩ := ob_ H
          try dsimp only at H
          obtain ⟨⟨t132, t133, t134, t135, t136, t137⟩, A35, H⟩ := ob_ H
          try dsimp only at H
          by_cases c36 : t131 ≤ 2
          ·rw [if_pos c36] at H
           have c36b0 : decide (t131 ≤ 2) = true := decide_eq_true c36
           clear c36
           by_cases c37 : x8_1.length < 17592186044416
           ·rw [if_pos c37] at H
            have LMc37 := Aside0.mk c37
            clear c37
            obtain ⟨y139, hy139⟩ : ∃ y_ : List Nat, y_ = (x8_1 ++ [rdOf (0 : Nat) l0 x26_1]) := ⟨_, rfl⟩
            replace H : (policy_Sift.l0 k1 l0 y139 (l0.length : Int) (wrap64 (x26_1 + 1)) a1_0 a1_1 t132 t133 t134 t135 t136 t137) = some (r1, r2, r3, r4, r5, r6, r7, r8) := by first | (rw [hy139]; with_reducible exact H) | (have H2_ := (Option.bind_some _ _).symm.trans H; rw [hy139]; with_reducible exact H2_) | (have H2_ := (Option.bind_some _ _).symm.trans H; with_reducible exact H2_) | with_reducible exact H | (rw [hy139]; exact H) | exact H
            have Ny139 := Aside0.mk hy139
            clear hy139
            have H' := Aside0.mk H
            clear H
            have p130 : 0 ≤ (x26_1 : Int) := of_decide_eq_true (by first | (with_reducible assumption) | assumption)
            have q130 : x26_1 < (l0.length : Int) := of_decide_eq_true (by first | (with_reducible assumption) | assumption)
            obtain ⟨ad130, e130, hx130_0⟩ := Kd.at_float HR0.out x26_1 p130 q130
            cases e130
            replace hx130_0 := (HB.out.cell (World.block_lt_of_cell? w _ hx130_0)).trans hx130_0
            replace p130 := eq_true p130
            replace q130 := eq_true q130
            go_wp2_with (first | ((with_reducible refine gate_callee (f := 28) rfl ?_); refine goesM (some 33) Try.func28 #[.float .f64 (rdOf (0 : Nat) l0 x26_1)] ?_; (with_reducible refine (policy_kind.calls k1 (rdOf (0 : Nat) l0 x26_1) t131 _ A34.out).mono ?_); rintro e w38 ⟨rfl, hb⟩; refine ⟨_, rfl, ?_⟩; have n0_ := Aside0.mk (Kd.R_below (by (with_reducible repeat (first | apply rA | apply rN | apply rD)); exact HO_8.out) hb); have n1_ := kb_ BK123 hb; have n2_ := kb_ BK124 hb; have n3_ := kb_ BK125 hb; have n4_ := bs_ HB hb; clear HO_8; clear BK123; clear BK124; clear BK125; clear HB; have HO_8 := n0_; have BK123 := n1_; have BK124 := n2_; have BK125 := n3_; have HB := n4_; clear n0_ n1_ n2_ n3_ n4_; (try clear hb); (try clear hb2); (try clear hk); (try clear hi)) | ((with_reducible refine gate_callee (f := 29) rfl ?_); refine goesM (some 35) Try.func29 #[.pointer (some ⟨gb125, 0, none⟩), .int .i64 t131] ?_; (with_reducible refine (policy_count.calls gb125 x126000_1 x126001_1 x126002_1 x126003_1 x126004_1 x126005_1 t131 t132 t133 t134 t135 t136 t137 w _ ?side1 ?side2 A35.out).mono ?_); (case side1 => exact ⟨by (with_reducible repeat (first | apply bN | apply bD | apply bA)); exact BK125.out, GE125.out⟩); (case side2 => repeat (first | (with_reducible first | exact HB.out | apply below_alloc | apply pw_below_drewN | apply below_drew1 | refine below_set ?_ (IsS30.ge HI125.out) | refine below_set ?_ GE123.out | refine below_set ?_ GE124.out) | exact HB.out)); rintro e w39 ⟨rfl, hi, hb, hk⟩; refine ⟨_, rfl, ?_⟩; have n0_ := Aside0.mk (Kd.R_mono (Kd.R_keep (IsS30.apart (show IsS30 w _ gb125 x126000_1 x126001_1 x126002_1 x126003_1 x126004_1 x126005_1 from by exact ⟨by (with_reducible repeat (first | apply bN | apply bD | apply bA)); exact BK125.out, GE125.out⟩) (by (with_reducible repeat (first | apply rA | apply rN | apply rD)); exact HO_8.out) (by decide)) hk (fun _ h => h.2)) (fun _ h => h.1)); have n1_ := Aside0.mk (KeepBut.blk hk (g' := gb123) (o := .cells #[.int .i64 a1_0, .int .i64 a1_1] 23 (0, 0)) (bk_ BK123) NB123_125.out (by simp)); have n2_ := Aside0.mk (KeepBut.blk hk (g' := gb124) (o := .cells #[.int .i64 0, .int .i64 0, .int .i64 0, .int .i64 0, .int .i64 0, .int .i64 0] 30 (0, 0)) (bk_ BK124) NB124_125.out (by simp)); have n3_ := Aside0.mk (hb); have n4_ := Aside0.mk (hi.1); clear HO_8; clear BK123; clear BK124; clear HB; clear BK125; have HO_8 := n0_; have BK123 := n1_; have BK124 := n2_; have HB := n3_; have BK125 := n4_; clear n0_ n1_ n2_ n3_ n4_; (try clear hb); (try clear hb2); (try clear hk); (try clear hi); have p138 : 0 ≤ (x26_1 : Int) := of_decide_eq_true (by first | (with_reducible assumption) | assumption); have q138 : x26_1 < (l0.length : Int) := of_decide_eq_true (by first | (with_reducible assumption) | assumption); obtain ⟨ad138, e138, hx138_0⟩ := Kd.at_float HR0.out x26_1 p138 q138; obtain rfl : ad130 = ad138 := (by injection e138); replace hx138_0 := (HB.out.cell (World.block_lt_of_cell? w _ hx138_0)).trans hx138_0; replace p138 := eq_true p138; replace q138 := eq_true q138) | ((with_reducible refine gate_builtin (b := .append) (xs := #[.tmp 38, .tmp 43]) rfl ?_); at_builtin; refine Kd.R_append (Kd.float .f64) (w0 := w) w.heap.size rfl (.tmp 38) (.tmp 43) 27 41 (.float .f64 0) 8 rfl Try.underlying27 info41 rfl (by decide) (by omega) u8 x8_1 (rdOf (0 : Nat) l0 x26_1) [.float .f64 (rdOf (0 : Nat) l0 x26_1)] (fun _ => True) (fun _ => False) rfl rfl ?aP (fun _ hk => hk.elim) ?aF ?aO ?aB ?aS ?aL ?_; (case aP => exact rfl); (case aB => exact (bl_ HB)); (case aF => exact (fun _ _ => trivial)); (case aO => exact (by (with_reducible repeat (first | apply rA | apply rN | apply rD)); exact HO_8.out)); (case aS => exact (below_size (bl_ HB))); (case aL => have := LMc37.out; omega); intro v140 w40 ho hb hg hat; rw [← Ny139.out] at ho; have n0_ := Aside0.mk (blk_grown (g := gb123) (o := .cells #[.int .i64 a1_0, .int .i64 a1_1] 23 (0, 0)) (bk_ BK123) hg (Kd.R_ne HO_8.out BK123.out (by decide))); have n1_ := Aside0.mk (blk_grown (g := gb124) (o := .cells #[.int .i64 0, .int .i64 0, .int .i64 0, .int .i64 0, .int .i64 0, .int .i64 0] 30 (0, 0)) (bk_ BK124) hg (Kd.R_ne HO_8.out BK124.out (by decide))); have n2_ := Aside0.mk (blk_grown (g := gb125) (o := .cells #[.int .i64 t132, .int .i64 t133, .int .i64 t134, .int .i64 t135, .int .i64 t136, .int .i64 t137] 30 (0, 0)) (bk_ BK125) hg (Kd.R_ne HO_8.out BK125.out (by decide))); have n3_ := Aside0.mk (hb); have n4_ := Aside0.mk (ho); clear BK123; clear BK124; clear BK125; clear HB; clear HO_8; have BK123 := n0_; have BK124 := n1_; have BK125 := n2_; have HB := n3_; have HO141 := n4_; clear n0_ n1_ n2_ n3_ n4_; clear ho hb hg hat))
            go_roundg k1
            case measure => have := HK1.out; omega
            case rel => exact ⟨(y139), (wrap64 (x26_1 + 1)), (t132), (t133), (t134), (t135), (t136), (t137), (by first | rfl | (simp; done) | (simp [*]; done)), H', ⟨by have := HK1.out; omega⟩, ⟨by (with_reducible repeat (first | apply rA | apply rN | apply rD)); exact HO141.out⟩, ⟨by (with_reducible repeat (first | apply bN | apply bD | apply bA)); exact BK123.out⟩, ⟨by (with_reducible repeat (first | apply bN | apply bD | apply bA)); exact BK124.out⟩, ⟨by (with_reducible repeat (first | apply bN | apply bD | apply bA)); exact BK125.out⟩, ⟨bl_ HB⟩⟩
           ·rw [if_neg c37] at H
            exact absurd H (by simp)
          ·rw [if_neg c36] at H
           have c36b0 : decide (t131 ≤ 2) = false := decide_eq_false c36
           clear c36
           have H' := Aside0.mk H
           clear H
           have p130 : 0 ≤ (x26_1 : Int) := of_decide_eq_true (by first | (with_reducible assumption) | assumption)
           have q130 : x26_1 < (l0.length : Int) := of_decide_eq_true (by first | (with_reducible assumption) | assumption)
           obtain ⟨ad130, e130, hx130_0⟩ := Kd.at_float HR0.out x26_1 p130 q130
           cases e130
           replace hx130_0 := (HB.out.cell (World.block_lt_of_cell? w _ hx130_0)).trans hx130_0
           replace p130 := eq_true p130
           replace q130 := eq_true q130
           go_wp2_with (first | ((with_reducible refine gate_callee (f := 28) rfl ?_); refine goesM (some 33) Try.func28 #[.float .f64 (rdOf (0 : Nat) l0 x26_1)] ?_; (with_reducible refine (policy_kind.calls k1 (rdOf (0 : Nat) l0 x26_1) t131 _ A34.out).mono ?_); rintro e w41 ⟨rfl, hb⟩; refine ⟨_, rfl, ?_⟩; have n0_ := Aside0.mk (Kd.R_below (by (with_reducible repeat (first | apply rA | apply rN | apply rD)); exact HO_8.out) hb); have n1_ := kb_ BK123 hb; have n2_ := kb_ BK124 hb; have n3_ := kb_ BK125 hb; have n4_ := bs_ HB hb; clear HO_8; clear BK123; clear BK124; clear BK125; clear HB; have HO_8 := n0_; have BK123 := n1_; have BK124 := n2_; have BK125 := n3_; have HB := n4_; clear n0_ n1_ n2_ n3_ n4_; (try clear hb); (try clear hb2); (try clear hk); (try clear hi)) | ((with_reducible refine gate_callee (f := 29) rfl ?_); refine goesM (some 35) Try.func29 #[.pointer (some ⟨gb125, 0, none⟩), .int .i64 t131] ?_; (with_reducible refine (policy_count.calls gb125 x126000_1 x126001_1 x126002_1 x126003_1 x126004_1 x126005_1 t131 t132 t133 t134 t135 t136 t137 w _ ?side1 ?side2 A35.out).mono ?_); (case side1 => exact ⟨by (with_reducible repeat (first | apply bN | apply bD | apply bA)); exact BK125.out, GE125.out⟩); (case side2 => repeat (first | (with_reducible first | exact HB.out | apply below_alloc | apply pw_below_drewN | apply below_drew1 | refine below_set ?_ (IsS30.ge HI125.out) | refine below_set ?_ GE123.out | refine below_set ?_ GE124.out) | exact HB.out)); rintro e w42 ⟨rfl, hi, hb, hk⟩; refine ⟨_, rfl, ?_⟩; have n0_ := Aside0.mk (Kd.R_mono (Kd.R_keep (IsS30.apart (show IsS30 w _ gb125 x126000_1 x126001_1 x126002_1 x126003_1 x126004_1 x126005_1 from by exact ⟨by (with_reducible repeat (first | apply bN | apply bD | apply bA)); exact BK125.out, GE125.out⟩) (by (with_reducible repeat (first | apply rA | apply rN | apply rD)); exact HO_8.out) (by decide)) hk (fun _ h => h.2)) (fun _ h => h.1)); have n1_ := Aside0.mk (KeepBut.blk hk (g' := gb123) (o := .cells #[.int .i64 a1_0, .int .i64 a1_1] 23 (0, 0)) (bk_ BK123) NB123_125.out (by simp)); have n2_ := Aside0.mk (KeepBut.blk hk (g' := gb124) (o := .cells #[.int .i64 0, .int .i64 0, .int .i64 0, .int .i64 0, .int .i64 0, .int .i64 0] 30 (0, 0)) (bk_ BK124) NB124_125.out (by simp)); have n3_ := Aside0.mk (hb); have n4_ := Aside0.mk (hi.1); clear HO_8; clear BK123; clear BK124; clear HB; clear BK125; have HO_8 := n0_; have BK123 := n1_; have BK124 := n2_; have HB := n3_; have BK125 := n4_; clear n0_ n1_ n2_ n3_ n4_; (try clear hb); (try clear hb2); (try clear hk); (try clear hi)))
           go_roundg k1
           case measure => have := HK1.out; omega
           case rel => exact ⟨(x8_1), (wrap64 (x26_1 + 1)), (t132), (t133), (t134), (t135), (t136), (t137), (by first | rfl | (simp; done) | (simp [*]; done)), H', ⟨by have := HK1.out; omega⟩, ⟨by (with_reducible repeat (first | apply rA | apply rN | apply rD)); exact HO_8.out⟩, ⟨by (with_reducible repeat (first | apply bN | apply bD | apply bA)); exact BK123.out⟩, ⟨by (with_reducible repeat (first | apply bN | apply bD | apply bA)); exact BK124.out⟩, ⟨by (with_reducible repeat (first | apply bN | apply bD | apply bA)); exact BK125.out⟩, ⟨bl_ HB⟩⟩
         ·rw [if_neg c33] at H
          exact absurd H (by simp)
        ·rw [if_neg c32] at H
         exact absurd H (by simp)
       ·rw [if_neg c31] at H
        have c31b0 : decide (x26_1 < (l0.length : Int)) = false := decide_eq_false c31
        clear c31
        have HC43 := Aside0.mk H
        clear H
        go_upto_region 15 with (fail)
        obtain ⟨bz44, hbz44⟩ : ∃ b_ : Bool, decide (x26_1 < (l0.length : Int)) = b_ := ⟨_, rfl⟩
        (try rw [hbz44])
        go_cut [46] (fun v46 wc => ∃ (kq : Nat) (x46_42 : Bool), v46 = .bool x46_42 ∧ Aside0 (policy_Sift.j1 kq x8_1 x46_42 a1_0 a1_1 x126000_1 x126001_1 x126002_1 x126003_1 x126004_1 x126005_1 = some (r1, r2, r3, r4, r5, r6, r7, r8)) ∧ Aside0 (kq ≤ k1) ∧ Aside0 (Kd.R (Kd.float .f64) 41 wc w.heap.size (fun _ => True) u8 x8_1) ∧ Aside0 (wc.heap[gb123]? = some (.cells #[.int .i64 a1_0, .int .i64 a1_1] 23 (0, 0))) ∧ Aside0 (wc.heap[gb124]? = some (.cells #[.int .i64 0, .int .i64 0, .int .i64 0, .int .i64 0, .int .i64 0, .int .i64 0] 30 (0, 0))) ∧ Aside0 (wc.heap[gb125]? = some (.cells #[.int .i64 x126000_1, .int .i64 x126001_1, .int .i64 x126002_1, .int .i64 x126003_1, .int .i64 x126004_1, .int .i64 x126005_1] 30 (0, 0))) ∧ Aside0 (Below w.heap.size w wc))
        case first =>
         have H := HC43.out
         clear HC43
         by_cases c45 : x126000_1 > 0
         ·rw [if_pos c45] at H
          have c45b0 : decide (0 < x126000_1) = true := decide_eq_true c45
          clear c45
          (first | rw [c45b0] | (simp only [i64_w, i32_w]; rw [c45b0]) | skip)
          have H' := Aside0.mk H
          clear H
          have hnb46 := NB125_123.out
          have hnc46 := NB123_125.out
          have hnb47 := NB125_124.out
          have hnc47 := NB124_125.out
          have hcz48_0 : wr.cell? ⟨gb125, 0, none⟩ = some (.int .i64 x126000_1) := (blk_cell BK125.out 0).trans rfl
          have hcz48_1 : wr.cell? ⟨gb125, 1, none⟩ = some (.int .i64 x126001_1) := (blk_cell BK125.out 1).trans rfl
          have hcz48_2 : wr.cell? ⟨gb125, 2, none⟩ = some (.int .i64 x126002_1) := (blk_cell BK125.out 2).trans rfl
          have hcz48_3 : wr.cell? ⟨gb125, 3, none⟩ = some (.int .i64 x126003_1) := (blk_cell BK125.out 3).trans rfl
          have hcz48_4 : wr.cell? ⟨gb125, 4, none⟩ = some (.int .i64 x126004_1) := (blk_cell BK125.out 4).trans rfl
          have hcz48_5 : wr.cell? ⟨gb125, 5, none⟩ = some (.int .i64 x126005_1) := (blk_cell BK125.out 5).trans rfl
          have hfz48_0 := blk_frozen BK125.out 0
          have hfz48_1 := blk_frozen BK125.out 1
          have hfz48_2 := blk_frozen BK125.out 2
          have hfz48_3 := blk_frozen BK125.out 3
          have hfz48_4 := blk_frozen BK125.out 4
          have hfz48_5 := blk_frozen BK125.out 5
          have hnb49 := NB123_124.out
          have hnc49 := NB124_123.out
          have hcz50_0 : wr.cell? ⟨gb123, 0, none⟩ = some (.int .i64 a1_0) := (blk_cell BK123.out 0).trans rfl
          have hcz50_1 : wr.cell? ⟨gb123, 1, none⟩ = some (.int .i64 a1_1) := (blk_cell BK123.out 1).trans rfl
          have hfz50_0 := blk_frozen BK123.out 0
          have hfz50_1 := blk_frozen BK123.out 1
          go_wp2
          go_meet
          case rel => exact ⟨_, ((a1_0 == 2)), (by first | rfl | (simp; done) | (simp [*]; done)), H', ⟨by have := HK1.out; first | omega | exact Nat.le_refl _⟩, ⟨by (with_reducible repeat (first | apply rA | apply rN | apply rD)); exact HO_8.out⟩, ⟨by (with_reducible repeat (first | apply bN | apply bD | apply bA)); exact BK123.out⟩, ⟨by (with_reducible repeat (first | apply bN | apply bD | apply bA)); exact BK124.out⟩, ⟨by (with_reducible repeat (first | apply bN | apply bD | apply bA)); exact BK125.out⟩, ⟨bl_ HB⟩⟩
         ·rw [if_neg c45] at H
          have c45b0 : decide (0 < x126000_1) = false := decide_eq_false c45
          clear c45
          (first | rw [c45b0] | (simp only [i64_w, i32_w]; rw [c45b0]) | skip)
          have H' := Aside0.mk H
          clear H
          have hnb51 := NB125_123.out
          have hnc51 := NB123_125.out
          have hnb52 := NB125_124.out
          have hnc52 := NB124_125.out
          have hcz53_0 : wr.cell? ⟨gb125, 0, none⟩ = some (.int .i64 x126000_1) := (blk_cell BK125.out 0).trans rfl
          have hcz53_1 : wr.cell? ⟨gb125, 1, none⟩ = some (.int .i64 x126001_1) := (blk_cell BK125.out 1).trans rfl
          have hcz53_2 : wr.cell? ⟨gb125, 2, none⟩ = some (.int .i64 x126002_1) := (blk_cell BK125.out 2).trans rfl
          have hcz53_3 : wr.cell? ⟨gb125, 3, none⟩ = some (.int .i64 x126003_1) := (blk_cell BK125.out 3).trans rfl
          have hcz53_4 : wr.cell? ⟨gb125, 4, none⟩ = some (.int .i64 x126004_1) := (blk_cell BK125.out 4).trans rfl
          have hcz53_5 : wr.cell? ⟨gb125, 5, none⟩ = some (.int .i64 x126005_1) := (blk_cell BK125.out 5).trans rfl
          have hfz53_0 := blk_frozen BK125.out 0
          have hfz53_1 := blk_frozen BK125.out 1
          have hfz53_2 := blk_frozen BK125.out 2
          have hfz53_3 := blk_frozen BK125.out 3
          have hfz53_4 := blk_frozen BK125.out 4
          have hfz53_5 := blk_frozen BK125.out 5
          go_wp2
          go_meet
          case rel => exact ⟨_, (false), (by first | rfl | (simp; done) | (simp [*]; done)), H', ⟨by have := HK1.out; first | omega | exact Nat.le_refl _⟩, ⟨by (with_reducible repeat (first | apply rA | apply rN | apply rD)); exact HO_8.out⟩, ⟨by (with_reducible repeat (first | apply bN | apply bD | apply bA)); exact BK123.out⟩, ⟨by (with_reducible repeat (first | apply bN | apply bD | apply bA)); exact BK124.out⟩, ⟨by (with_reducible repeat (first | apply bN | apply bD | apply bA)); exact BK125.out⟩, ⟨bl_ HB⟩⟩
        case rest =>
         clear HC43
         try clear c1
         try clear p1
         try clear q1
         try clear hx1
         try clear c2
         try clear p2
         try clear c3
         try clear c4
         try clear c5
         try clear c5b0
         try clear c5b1
         try clear p6
         try clear c8
         try clear c9
         try clear c10
         try clear c12
         try clear p13
         try clear q13
         try clear hx13
         try clear c20
         try clear c20b0
         try clear c20b1
         try clear c21
         try clear c21b0
         try clear c21b1
         try clear c25
         try clear c26
         try clear c28
         try clear c29
         try clear c31
         try clear c31b0
         try clear c32
         try clear c32b0
         try clear c33
         try clear c33b0
         try clear c36
         try clear c36b0
         try clear c37
         try clear c45
         try clear c45b0
         try clear c46
         try clear c47
         try clear c49
         try clear c51
         try clear c52
         try clear hcz11_0
         try clear hcz11_1
         try clear hcz27_0
         try clear hcz27_1
         try clear hcz48_0
         try clear hcz48_1
         try clear hcz48_2
         try clear hcz48_3
         try clear hcz48_4
         try clear hcz48_5
         try clear hcz50_0
         try clear hcz50_1
         try clear hcz53_0
         try clear hcz53_1
         try clear hcz53_2
         try clear hcz53_3
         try clear hcz53_4
         try clear hcz53_5
         try clear hfz11_0
         try clear hfz11_1
         try clear hfz27_0
         try clear hfz27_1
         try clear hfz48_0
         try clear hfz48_1
         try clear hfz48_2
         try clear hfz48_3
         try clear hfz48_4
         try clear hfz48_5
         try clear hfz50_0
         try clear hfz50_1
         try clear hfz53_0
         try clear hfz53_1
         try clear hfz53_2
         try clear hfz53_3
         try clear hfz53_4
         try clear hfz53_5
         try clear hx130_0
         try clear hx138_0
         try clear p130
         try clear p138
         try clear p2
         try clear q130
         try clear q138
         obtain ⟨kq, x46_42, rfl, HA, HJ42, HO_8, BK123, BK124, BK125, HB⟩ := hcut
         cases kq with
         | zero => exact absurd HA.out (by simp [policy_Sift.j1])
         | succ kj42 =>
          have H := HA.out
          clear HA
          simp only [policy_Sift.j1] at H
          by_cases c54 : x46_42 = true
          ·subst c54
           have H1 : (some (([] : List Nat), 0, 0, 0, 0, 0, 0, 60)) = some (r1, r2, r3, r4, r5, r6, r7, r8) := by rw [if_pos rfl] at H; exact H
           clear H
           have H := H1
           clear H1
           simp only [Option.some.injEq, Prod.mk.injEq] at H
           obtain ⟨rfl, rfl, rfl, rfl, rfl, rfl, rfl, rfl⟩ := H
           have hnb55 := NB124_123.out
           have hnc55 := NB123_124.out
           have hnb56 := NB124_125.out
           have hnc56 := NB125_124.out
           have hcz57_0 : wc.cell? ⟨gb124, 0, none⟩ = some (.int .i64 0) := (blk_cell BK124.out 0).trans rfl
           have hcz57_1 : wc.cell? ⟨gb124, 1, none⟩ = some (.int .i64 0) := (blk_cell BK124.out 1).trans rfl
           have hcz57_2 : wc.cell? ⟨gb124, 2, none⟩ = some (.int .i64 0) := (blk_cell BK124.out 2).trans rfl
           have hcz57_3 : wc.cell? ⟨gb124, 3, none⟩ = some (.int .i64 0) := (blk_cell BK124.out 3).trans rfl
           have hcz57_4 : wc.cell? ⟨gb124, 4, none⟩ = some (.int .i64 0) := (blk_cell BK124.out 4).trans rfl
           have hcz57_5 : wc.cell? ⟨gb124, 5, none⟩ = some (.int .i64 0) := (blk_cell BK124.out 5).trans rfl
           have hfz57_0 := blk_frozen BK124.out 0
           have hfz57_1 := blk_frozen BK124.out 1
           have hfz57_2 := blk_frozen BK124.out 2
           have hfz57_3 := blk_frozen BK124.out 3
           have hfz57_4 := blk_frozen BK124.out 4
           have hfz57_5 := blk_frozen BK124.out 5
           go_wp2
           refine bodyPost_ret (results_list (rs := [.tmp 4, .cell 5 30, .tmp 6]) rfl (by simp) (.tmp (.cell gb124 30 #[.int .i64 0, .int .i64 0, .int .i64 0, .int .i64 0, .int .i64 0, .int .i64 0] (0, 0) _ rfl (by (with_reducible repeat (first | apply bN | apply bD | apply bA)); refine blk_put (cs := #[.int .i64 0, .int .i64 0, .int .i64 0, .int .i64 0, .int .i64 0, .int .i64 0]) ?_ 5 _ rfl; (with_reducible repeat (first | apply bN | apply bD | apply bA)); refine blk_put (cs := #[.int .i64 0, .int .i64 0, .int .i64 0, .int .i64 0, .int .i64 0, .int .i64 0]) ?_ 4 _ rfl; (with_reducible repeat (first | apply bN | apply bD | apply bA)); refine blk_put (cs := #[.int .i64 0, .int .i64 0, .int .i64 0, .int .i64 0, .int .i64 0, .int .i64 0]) ?_ 3 _ rfl; (with_reducible repeat (first | apply bN | apply bD | apply bA)); refine blk_put (cs := #[.int .i64 0, .int .i64 0, .int .i64 0, .int .i64 0, .int .i64 0, .int .i64 0]) ?_ 2 _ rfl; (with_reducible repeat (first | apply bN | apply bD | apply bA)); refine blk_put (cs := #[.int .i64 0, .int .i64 0, .int .i64 0, .int .i64 0, .int .i64 0, .int .i64 0]) ?_ 1 _ rfl; (with_reducible repeat (first | apply bN | apply bD | apply bA)); refine blk_put (cs := #[.int .i64 0, .int .i64 0, .int .i64 0, .int .i64 0, .int .i64 0, .int .i64 0]) ?_ 0 _ rfl; (with_reducible repeat (first | apply bN | apply bD | apply bA)); exact BK124.out) Try.underlying30 rfl (by kernel_rfl) (.tmp .nil)))) rfl ?_
           exact ⟨_, by first | rfl | (simp [errW_none, errW_some] <;> rfl) | (simp [*, errW_none, errW_some] <;> rfl), by first | exact Kd.R_nil _ _ _ _ _ | exact Kd.N_nil _ _ _ _ _ | exact Kd.V_nil _ _ _ _ _ | exact Kd.Q_nil _ _ _ _ _ | exact Kd.S_nil _ _ _ _ _, bl_ HB⟩
          ·replace c54 := Bool.eq_false_iff.mpr c54
           subst c54
           have H1 : (if (wrap64 (x126001_1 + x126002_1)) > 0 then (if a1_1 = 2 then (some (([] : List Nat), 0, 0, 0, 0, 0, 0, 61)) else (some (x8_1, x126000_1, x126001_1, x126002_1, x126003_1, x126004_1, x126005_1, 0))) else (some (x8_1, x126000_1, x126001_1, x126002_1, x126003_1, x126004_1, x126005_1, 0))) = some (r1, r2, r3, r4, r5, r6, r7, r8) := by rw [if_neg (show ¬ (false = true) by decide)] at H; exact H
           clear H
           have H := H1
           clear H1
           by_cases c58 : (wrap64 (x126001_1 + x126002_1)) > 0
           ·rw [if_pos c58] at H
            have c58b0 : decide (0 < (wrap64 (x126001_1 + x126002_1))) = true := decide_eq_true c58
            clear c58
            by_cases c59 : a1_1 = 2
            ·rw [if_pos c59] at H
             have c59b0 : (a1_1 == 2) = true := beq_iff_eq.mpr c59
             have c59b1 : (a1_1 != 2) = false := bne_eq_false_iff_eq.mpr c59
             clear c59
             simp only [Option.some.injEq, Prod.mk.injEq] at H
             obtain ⟨rfl, rfl, rfl, rfl, rfl, rfl, rfl, rfl⟩ := H
             have hnb60 := NB125_123.out
             have hnc60 := NB123_125.out
             have hnb61 := NB125_124.out
             have hnc61 := NB124_125.out
             have hcz62_0 : wc.cell? ⟨gb125, 0, none⟩ = some (.int .i64 x126000_1) := (blk_cell BK125.out 0).trans rfl
             have hcz62_1 : wc.cell? ⟨gb125, 1, none⟩ = some (.int .i64 x126001_1) := (blk_cell BK125.out 1).trans rfl
             have hcz62_2 : wc.cell? ⟨gb125, 2, none⟩ = some (.int .i64 x126002_1) := (blk_cell BK125.out 2).trans rfl
             have hcz62_3 : wc.cell? ⟨gb125, 3, none⟩ = some (.int .i64 x126003_1) := (blk_cell BK125.out 3).trans rfl
             have hcz62_4 : wc.cell? ⟨gb125, 4, none⟩ = some (.int .i64 x126004_1) := (blk_cell BK125.out 4).trans rfl
             have hcz62_5 : wc.cell? ⟨gb125, 5, none⟩ = some (.int .i64 x126005_1) := (blk_cell BK125.out 5).trans rfl
             have hfz62_0 := blk_frozen BK125.out 0
             have hfz62_1 := blk_frozen BK125.out 1
             have hfz62_2 := blk_frozen BK125.out 2
             have hfz62_3 := blk_frozen BK125.out 3
             have hfz62_4 := blk_frozen BK125.out 4
             have hfz62_5 := blk_frozen BK125.out 5
             have hnb63 := NB123_124.out
             have hnc63 := NB124_123.out
             have hcz64_0 : wc.cell? ⟨gb123, 0, none⟩ = some (.int .i64 a1_0) := (blk_cell BK123.out 0).trans rfl
             have hcz64_1 : wc.cell? ⟨gb123, 1, none⟩ = some (.int .i64 a1_1) := (blk_cell BK123.out 1).trans rfl
             have hfz64_0 := blk_frozen BK123.out 0
             have hfz64_1 := blk_frozen BK123.out 1
             have hcz65_0 : wc.cell? ⟨gb124, 0, none⟩ = some (.int .i64 0) := (blk_cell BK124.out 0).trans rfl
             have hcz65_1 : wc.cell? ⟨gb124, 1, none⟩ = some (.int .i64 0) := (blk_cell BK124.out 1).trans rfl
             have hcz65_2 : wc.cell? ⟨gb124, 2, none⟩ = some (.int .i64 0) := (blk_cell BK124.out 2).trans rfl
             have hcz65_3 : wc.cell? ⟨gb124, 3, none⟩ = some (.int .i64 0) := (blk_cell BK124.out 3).trans rfl
             have hcz65_4 : wc.cell? ⟨gb124, 4, none⟩ = some (.int .i64 0) := (blk_cell BK124.out 4).trans rfl
             have hcz65_5 : wc.cell? ⟨gb124, 5, none⟩ = some (.int .i64 0) := (blk_cell BK124.out 5).trans rfl
             have hfz65_0 := blk_frozen BK124.out 0
             have hfz65_1 := blk_frozen BK124.out 1
             have hfz65_2 := blk_frozen BK124.out 2
             have hfz65_3 := blk_frozen BK124.out 3
             have hfz65_4 := blk_frozen BK124.out 4
             have hfz65_5 := blk_frozen BK124.out 5
             go_wp2
             refine bodyPost_ret (results_list (rs := [.tmp 4, .cell 5 30, .tmp 6]) rfl (by simp) (.tmp (.cell gb124 30 #[.int .i64 0, .int .i64 0, .int .i64 0, .int .i64 0, .int .i64 0, .int .i64 0] (0, 0) _ rfl (by (with_reducible repeat (first | apply bN | apply bD | apply bA)); refine blk_put (cs := #[.int .i64 0, .int .i64 0, .int .i64 0, .int .i64 0, .int .i64 0, .int .i64 0]) ?_ 5 _ rfl; (with_reducible repeat (first | apply bN | apply bD | apply bA)); refine blk_put (cs := #[.int .i64 0, .int .i64 0, .int .i64 0, .int .i64 0, .int .i64 0, .int .i64 0]) ?_ 4 _ rfl; (with_reducible repeat (first | apply bN | apply bD | apply bA)); refine blk_put (cs := #[.int .i64 0, .int .i64 0, .int .i64 0, .int .i64 0, .int .i64 0, .int .i64 0]) ?_ 3 _ rfl; (with_reducible repeat (first | apply bN | apply bD | apply bA)); refine blk_put (cs := #[.int .i64 0, .int .i64 0, .int .i64 0, .int .i64 0, .int .i64 0, .int .i64 0]) ?_ 2 _ rfl; (with_reducible repeat (first | apply bN | apply bD | apply bA)); refine blk_put (cs := #[.int .i64 0, .int .i64 0, .int .i64 0, .int .i64 0, .int .i64 0, .int .i64 0]) ?_ 1 _ rfl; (with_reducible repeat (first | apply bN | apply bD | apply bA)); refine blk_put (cs := #[.int .i64 0, .int .i64 0, .int .i64 0, .int .i64 0, .int .i64 0, .int .i64 0]) ?_ 0 _ rfl; (with_reducible repeat (first | apply bN | apply bD | apply bA)); exact BK124.out) Try.underlying30 rfl (by kernel_rfl) (.tmp .nil)))) rfl ?_
             exact ⟨_, by first | rfl | (simp [errW_none, errW_some] <;> rfl) | (simp [*, errW_none, errW_some] <;> rfl), by first | exact Kd.R_nil _ _ _ _ _ | exact Kd.N_nil _ _ _ _ _ | exact Kd.V_nil _ _ _ _ _ | exact Kd.Q_nil _ _ _ _ _ | exact Kd.S_nil _ _ _ _ _, bl_ HB⟩
            ·rw [if_neg c59] at H
             have c59b0 : (a1_1 == 2) = false := beq_eq_false_iff_ne.mpr c59
             have c59b1 : (a1_1 != 2) = true := bne_iff_ne.mpr c59
             simp only [Option.some.injEq, Prod.mk.injEq] at H
             obtain ⟨rfl, rfl, rfl, rfl, rfl, rfl, rfl, rfl⟩ := H
             have hnb66 := NB125_123.out
             have hnc66 := NB123_125.out
             have hnb67 := NB125_124.out
             have hnc67 := NB124_125.out
             have hcz68_0 : wc.cell? ⟨gb125, 0, none⟩ = some (.int .i64 x126000_1) := (blk_cell BK125.out 0).trans rfl
             have hcz68_1 : wc.cell? ⟨gb125, 1, none⟩ = some (.int .i64 x126001_1) := (blk_cell BK125.out 1).trans rfl
             have hcz68_2 : wc.cell? ⟨gb125, 2, none⟩ = some (.int .i64 x126002_1) := (blk_cell BK125.out 2).trans rfl
             have hcz68_3 : wc.cell? ⟨gb125, 3, none⟩ = some (.int .i64 x126003_1) := (blk_cell BK125.out 3).trans rfl
             have hcz68_4 : wc.cell? ⟨gb125, 4, none⟩ = some (.int .i64 x126004_1) := (blk_cell BK125.out 4).trans rfl
             have hcz68_5 : wc.cell? ⟨gb125, 5, none⟩ = some (.int .i64 x126005_1) := (blk_cell BK125.out 5).trans rfl
             have hfz68_0 := blk_frozen BK125.out 0
             have hfz68_1 := blk_frozen BK125.out 1
             have hfz68_2 := blk_frozen BK125.out 2
             have hfz68_3 := blk_frozen BK125.out 3
             have hfz68_4 := blk_frozen BK125.out 4
             have hfz68_5 := blk_frozen BK125.out 5
             have hnb69 := NB123_124.out
             have hnc69 := NB124_123.out
             have hcz70_0 : wc.cell? ⟨gb123, 0, none⟩ = some (.int .i64 a1_0) := (blk_cell BK123.out 0).trans rfl
             have hcz70_1 : wc.cell? ⟨gb123, 1, none⟩ = some (.int .i64 a1_1) := (blk_cell BK123.out 1).trans rfl
             have hfz70_0 := blk_frozen BK123.out 0
             have hfz70_1 := blk_frozen BK123.out 1
             try go_wp2
             have n0_ := Aside0.mk (Kd.R_drew HO_8.out)
             have n1_ := Aside0.mk (blk_drew BK123.out)
             have n2_ := Aside0.mk (blk_drew BK124.out)
             have n3_ := Aside0.mk (blk_drew BK125.out)
             have n4_ := Aside0.mk (below_drew1 HB.out)
             clear HO_8
             clear BK123
             clear BK124
             clear BK125
             clear HB
             have HO_8 := n0_
             have BK123 := n1_
             have BK124 := n2_
             have BK125 := n3_
             have HB := n4_
             clear n0_ n1_ n2_ n3_ n4_
             refine start_ (n := 5) (S := fun w' => w'.cell? ⟨gb125, 0, none⟩ = some (.int .i64 x126000_1) ∧ w'.cell? ⟨gb125, 1, none⟩ = some (.int .i64 x126001_1) ∧ w'.cell? ⟨gb125, 2, none⟩ = some (.int .i64 x126002_1) ∧ w'.cell? ⟨gb125, 3, none⟩ = some (.int .i64 x126003_1) ∧ w'.cell? ⟨gb125, 4, none⟩ = some (.int .i64 x126004_1) ∧ w'.cell? ⟨gb125, 5, none⟩ = some (.int .i64 x126005_1)) (ds := []) #[false, false, false, false, false] (by kernel_rfl) rfl rfl ⟨(blk_cell BK125.out 0).trans rfl, (blk_cell BK125.out 1).trans rfl, (blk_cell BK125.out 2).trans rfl, (blk_cell BK125.out 3).trans rfl, (blk_cell BK125.out 4).trans rfl, (blk_cell BK125.out 5).trans rfl⟩ (fun hHeld => ?_)
             generalize wc.drew = w71 at HO_8 BK123 BK124 BK125 HB hHeld ⊢
             refine pure_ (i := 0) (N := some 69) (v := ?_) (a' := ?_) #[true, false, false, false, false] rfl rfl (by kernel_rfl) (fun _ _ _ h => h) (Or.inl ⟨by rfl, ?_⟩) ?_ ?_
             rotate_left
             ·intro w'
              go_simp
              with_reducible rfl
             rotate_left
             ·simp only [Act.put, List.setIfInBounds_toArray, List.set_cons_zero, List.set_cons_succ, i64_w, i32_w]
              rfl
             refine pure_ (i := 2) (N := some 4) (v := ?_) (a' := ?_) #[true, false, true, false, false] rfl rfl (by kernel_rfl) (fun _ _ _ h => h) (Or.inl ⟨by rfl, ?_⟩) ?_ ?_
             rotate_left
             ·intro w'
              go_simp
              with_reducible rfl
             rotate_left
             ·simp only [Act.put, List.setIfInBounds_toArray, List.set_cons_zero, List.set_cons_succ, i64_w, i32_w]
              rfl
             refine take_ (i := 1) (N := some 70) (v := ?_) (a' := ?_) #[true, true, true, false, false] rfl rfl (by kernel_rfl) (fun _ _ _ h => h) (Or.inl ⟨by rfl, ?_⟩) hHeld ?_ ?_
             rotate_left
             ·rintro w' ⟨s0, s1, s2, s3, s4, s5⟩
              go_simp
              with_reducible rfl
             rotate_left
             ·simp only [Act.put, List.setIfInBounds_toArray, List.set_cons_zero, List.set_cons_succ, i64_w, i32_w]
              rfl
             refine one_ (i := 3) (N := none) #[true, true, true, true, false] rfl rfl (by kernel_rfl) (by decide) (fun K hK => ?_)
             have hs72 : w71.cell? ⟨gb124, 0, none⟩ = some (.int .i64 0) := (blk_cell BK124.out 0).trans rfl
             have hfs72 := blk_frozen BK124.out 0
             have hns72_0 := NB123_124.out
             have hns72_2 := NB125_124.out
             have hms72_0 := NB124_123.out
             have hms72_2 := NB124_125.out
             have hs73 : w71.cell? ⟨gb124, 1, none⟩ = some (.int .i64 0) := (blk_cell BK124.out 1).trans rfl
             have hfs73 := blk_frozen BK124.out 1
             have hns73_0 := NB123_124.out
             have hns73_2 := NB125_124.out
             have hms73_0 := NB124_123.out
             have hms73_2 := NB124_125.out
             have hs74 : w71.cell? ⟨gb124, 2, none⟩ = some (.int .i64 0) := (blk_cell BK124.out 2).trans rfl
             have hfs74 := blk_frozen BK124.out 2
             have hns74_0 := NB123_124.out
             have hns74_2 := NB125_124.out
             have hms74_0 := NB124_123.out
             have hms74_2 := NB124_125.out
             have hs75 : w71.cell? ⟨gb124, 3, none⟩ = some (.int .i64 0) := (blk_cell BK124.out 3).trans rfl
             have hfs75 := blk_frozen BK124.out 3
             have hns75_0 := NB123_124.out
             have hns75_2 := NB125_124.out
             have hms75_0 := NB124_123.out
             have hms75_2 := NB124_125.out
             have hs76 : w71.cell? ⟨gb124, 4, none⟩ = some (.int .i64 0) := (blk_cell BK124.out 4).trans rfl
             have hfs76 := blk_frozen BK124.out 4
             have hns76_0 := NB123_124.out
             have hns76_2 := NB125_124.out
             have hms76_0 := NB124_123.out
             have hms76_2 := NB124_125.out
             have hs77 : w71.cell? ⟨gb124, 5, none⟩ = some (.int .i64 0) := (blk_cell BK124.out 5).trans rfl
             have hfs77 := blk_frozen BK124.out 5
             have hns77_0 := NB123_124.out
             have hns77_2 := NB125_124.out
             have hms77_0 := NB124_123.out
             have hms77_2 := NB124_125.out
             refine skip_ (w1 := ?_) (by rfl) rfl ?_ ?_
             rotate_left
             ·go_simp
              rfl
             refine hK.out _ _ ⟨((cell_far (p := ⟨gb124, _, none⟩) NB125_124.out _).trans (((cell_far (p := ⟨gb124, _, none⟩) NB125_124.out _).trans (((cell_far (p := ⟨gb124, _, none⟩) NB125_124.out _).trans (((cell_far (p := ⟨gb124, _, none⟩) NB125_124.out _).trans (((cell_far (p := ⟨gb124, _, none⟩) NB125_124.out _).trans (((cell_far (p := ⟨gb124, _, none⟩) NB125_124.out _).trans (hHeld.1)))))))))))), ((cell_far (p := ⟨gb124, _, none⟩) NB125_124.out _).trans (((cell_far (p := ⟨gb124, _, none⟩) NB125_124.out _).trans (((cell_far (p := ⟨gb124, _, none⟩) NB125_124.out _).trans (((cell_far (p := ⟨gb124, _, none⟩) NB125_124.out _).trans (((cell_far (p := ⟨gb124, _, none⟩) NB125_124.out _).trans (((cell_far (p := ⟨gb124, _, none⟩) NB125_124.out _).trans (hHeld.2.1)))))))))))), ((cell_far (p := ⟨gb124, _, none⟩) NB125_124.out _).trans (((cell_far (p := ⟨gb124, _, none⟩) NB125_124.out _).trans (((cell_far (p := ⟨gb124, _, none⟩) NB125_124.out _).trans (((cell_far (p := ⟨gb124, _, none⟩) NB125_124.out _).trans (((cell_far (p := ⟨gb124, _, none⟩) NB125_124.out _).trans (((cell_far (p := ⟨gb124, _, none⟩) NB125_124.out _).trans (hHeld.2.2.1)))))))))))), ((cell_far (p := ⟨gb124, _, none⟩) NB125_124.out _).trans (((cell_far (p := ⟨gb124, _, none⟩) NB125_124.out _).trans (((cell_far (p := ⟨gb124, _, none⟩) NB125_124.out _).trans (((cell_far (p := ⟨gb124, _, none⟩) NB125_124.out _).trans (((cell_far (p := ⟨gb124, _, none⟩) NB125_124.out _).trans (((cell_far (p := ⟨gb124, _, none⟩) NB125_124.out _).trans (hHeld.2.2.2.1)))))))))))), ((cell_far (p := ⟨gb124, _, none⟩) NB125_124.out _).trans (((cell_far (p := ⟨gb124, _, none⟩) NB125_124.out _).trans (((cell_far (p := ⟨gb124, _, none⟩) NB125_124.out _).trans (((cell_far (p := ⟨gb124, _, none⟩) NB125_124.out _).trans (((cell_far (p := ⟨gb124, _, none⟩) NB125_124.out _).trans (((cell_far (p := ⟨gb124, _, none⟩) NB125_124.out _).trans (hHeld.2.2.2.2.1)))))))))))), ((cell_far (p := ⟨gb124, _, none⟩) NB125_124.out _).trans (((cell_far (p := ⟨gb124, _, none⟩) NB125_124.out _).trans (((cell_far (p := ⟨gb124, _, none⟩) NB125_124.out _).trans (((cell_far (p := ⟨gb124, _, none⟩) NB125_124.out _).trans (((cell_far (p := ⟨gb124, _, none⟩) NB125_124.out _).trans (((cell_far (p := ⟨gb124, _, none⟩) NB125_124.out _).trans (hHeld.2.2.2.2.2))))))))))))⟩ (fun hHeld => ?_)
             clear hK K
             refine pure_ (i := 4) (N := some 6) (v := ?_) (a' := ?_) #[true, true, true, true, true] rfl rfl (by kernel_rfl) (fun _ _ _ h => h) (Or.inl ⟨by rfl, ?_⟩) ?_ ?_
             rotate_left
             ·intro w'
              go_simp
              with_reducible rfl
             rotate_left
             ·simp only [Act.put, List.setIfInBounds_toArray, List.set_cons_zero, List.set_cons_succ, i64_w, i32_w]
              rfl
             refine done_ (by kernel_rfl) ?_
             try go_wp2
             refine bodyPost_ret (results_list (rs := [.tmp 4, .cell 5 30, .tmp 6]) rfl (by simp) (.tmp (.cell gb124 30 #[.int .i64 x126000_1, .int .i64 x126001_1, .int .i64 x126002_1, .int .i64 x126003_1, .int .i64 x126004_1, .int .i64 x126005_1] (0, 0) _ rfl (by (with_reducible repeat (first | apply bN | apply bD | apply bA)); refine blk_put (cs := #[.int .i64 x126000_1, .int .i64 x126001_1, .int .i64 x126002_1, .int .i64 x126003_1, .int .i64 x126004_1, .int .i64 0]) ?_ 5 _ rfl; (with_reducible repeat (first | apply bN | apply bD | apply bA)); refine blk_put (cs := #[.int .i64 x126000_1, .int .i64 x126001_1, .int .i64 x126002_1, .int .i64 x126003_1, .int .i64 0, .int .i64 0]) ?_ 4 _ rfl; (with_reducible repeat (first | apply bN | apply bD | apply bA)); refine blk_put (cs := #[.int .i64 x126000_1, .int .i64 x126001_1, .int .i64 x126002_1, .int .i64 0, .int .i64 0, .int .i64 0]) ?_ 3 _ rfl; (with_reducible repeat (first | apply bN | apply bD | apply bA)); refine blk_put (cs := #[.int .i64 x126000_1, .int .i64 x126001_1, .int .i64 0, .int .i64 0, .int .i64 0, .int .i64 0]) ?_ 2 _ rfl; (with_reducible repeat (first | apply bN | apply bD | apply bA)); refine blk_put (cs := #[.int .i64 x126000_1, .int .i64 0, .int .i64 0, .int .i64 0, .int .i64 0, .int .i64 0]) ?_ 1 _ rfl; (with_reducible repeat (first | apply bN | apply bD | apply bA)); refine blk_put (cs := #[.int .i64 0, .int .i64 0, .int .i64 0, .int .i64 0, .int .i64 0, .int .i64 0]) ?_ 0 _ rfl; (with_reducible repeat (first | apply bN | apply bD | apply bA)); exact BK124.out) Try.underlying30 rfl (by kernel_rfl) (.tmp .nil)))) rfl ?_
             exact ⟨_, by first | rfl | (simp [errW_none, errW_some] <;> rfl) | (simp [*, errW_none, errW_some] <;> rfl), by (with_reducible repeat (first | apply rA | apply rN | apply rD)); exact Kd.R_mono (Kd.R_far (p := ⟨gb124, 5, none⟩) (Kd.R_far (p := ⟨gb124, 4, none⟩) (Kd.R_far (p := ⟨gb124, 3, none⟩) (Kd.R_far (p := ⟨gb124, 2, none⟩) (Kd.R_far (p := ⟨gb124, 1, none⟩) (Kd.R_far (p := ⟨gb124, 0, none⟩) (Kd.R_types HO_8.out BK124.out (by decide)) (fun _ hk => hk.2) (.int .i64 x126000_1)) (fun _ hk => hk.2) (.int .i64 x126001_1)) (fun _ hk => hk.2) (.int .i64 x126002_1)) (fun _ hk => hk.2) (.int .i64 x126003_1)) (fun _ hk => hk.2) (.int .i64 x126004_1)) (fun _ hk => hk.2) (.int .i64 x126005_1)) (fun _ hk => trivial), bl_ HB⟩
           ·rw [if_neg c58] at H
            have c58b0 : decide (0 < (wrap64 (x126001_1 + x126002_1))) = false := decide_eq_false c58
            clear c58
            simp only [Option.some.injEq, Prod.mk.injEq] at H
            obtain ⟨rfl, rfl, rfl, rfl, rfl, rfl, rfl, rfl⟩ := H
            have hnb78 := NB125_123.out
            have hnc78 := NB123_125.out
            have hnb79 := NB125_124.out
            have hnc79 := NB124_125.out
            have hcz80_0 : wc.cell? ⟨gb125, 0, none⟩ = some (.int .i64 x126000_1) := (blk_cell BK125.out 0).trans rfl
            have hcz80_1 : wc.cell? ⟨gb125, 1, none⟩ = some (.int .i64 x126001_1) := (blk_cell BK125.out 1).trans rfl
            have hcz80_2 : wc.cell? ⟨gb125, 2, none⟩ = some (.int .i64 x126002_1) := (blk_cell BK125.out 2).trans rfl
            have hcz80_3 : wc.cell? ⟨gb125, 3, none⟩ = some (.int .i64 x126003_1) := (blk_cell BK125.out 3).trans rfl
            have hcz80_4 : wc.cell? ⟨gb125, 4, none⟩ = some (.int .i64 x126004_1) := (blk_cell BK125.out 4).trans rfl
            have hcz80_5 : wc.cell? ⟨gb125, 5, none⟩ = some (.int .i64 x126005_1) := (blk_cell BK125.out 5).trans rfl
            have hfz80_0 := blk_frozen BK125.out 0
            have hfz80_1 := blk_frozen BK125.out 1
            have hfz80_2 := blk_frozen BK125.out 2
            have hfz80_3 := blk_frozen BK125.out 3
            have hfz80_4 := blk_frozen BK125.out 4
            have hfz80_5 := blk_frozen BK125.out 5
            try go_wp2
            have n0_ := Aside0.mk (Kd.R_drew HO_8.out)
            have n1_ := Aside0.mk (blk_drew BK123.out)
            have n2_ := Aside0.mk (blk_drew BK124.out)
            have n3_ := Aside0.mk (blk_drew BK125.out)
            have n4_ := Aside0.mk (below_drew1 HB.out)
            clear HO_8
            clear BK123
            clear BK124
            clear BK125
            clear HB
            have HO_8 := n0_
            have BK123 := n1_
            have BK124 := n2_
            have BK125 := n3_
            have HB := n4_
            clear n0_ n1_ n2_ n3_ n4_
            refine start_ (n := 5) (S := fun w' => w'.cell? ⟨gb125, 0, none⟩ = some (.int .i64 x126000_1) ∧ w'.cell? ⟨gb125, 1, none⟩ = some (.int .i64 x126001_1) ∧ w'.cell? ⟨gb125, 2, none⟩ = some (.int .i64 x126002_1) ∧ w'.cell? ⟨gb125, 3, none⟩ = some (.int .i64 x126003_1) ∧ w'.cell? ⟨gb125, 4, none⟩ = some (.int .i64 x126004_1) ∧ w'.cell? ⟨gb125, 5, none⟩ = some (.int .i64 x126005_1)) (ds := []) #[false, false, false, false, false] (by kernel_rfl) rfl rfl ⟨(blk_cell BK125.out 0).trans rfl, (blk_cell BK125.out 1).trans rfl, (blk_cell BK125.out 2).trans rfl, (blk_cell BK125.out 3).trans rfl, (blk_cell BK125.out 4).trans rfl, (blk_cell BK125.out 5).trans rfl⟩ (fun hHeld => ?_)
            generalize wc.drew = w81 at HO_8 BK123 BK124 BK125 HB hHeld ⊢
            refine pure_ (i := 0) (N := some 69) (v := ?_) (a' := ?_) #[true, false, false, false, false] rfl rfl (by kernel_rfl) (fun _ _ _ h => h) (Or.inl ⟨by rfl, ?_⟩) ?_ ?_
            rotate_left
            ·intro w'
             go_simp
             with_reducible rfl
            rotate_left
            ·simp only [Act.put, List.setIfInBounds_toArray, List.set_cons_zero, List.set_cons_succ, i64_w, i32_w]
             rfl
            refine pure_ (i := 2) (N := some 4) (v := ?_) (a' := ?_) #[true, false, true, false, false] rfl rfl (by kernel_rfl) (fun _ _ _ h => h) (Or.inl ⟨by rfl, ?_⟩) ?_ ?_
            rotate_left
            ·intro w'
             go_simp
             with_reducible rfl
            rotate_left
            ·simp only [Act.put, List.setIfInBounds_toArray, List.set_cons_zero, List.set_cons_succ, i64_w, i32_w]
             rfl
            refine take_ (i := 1) (N := some 70) (v := ?_) (a' := ?_) #[true, true, true, false, false] rfl rfl (by kernel_rfl) (fun _ _ _ h => h) (Or.inl ⟨by rfl, ?_⟩) hHeld ?_ ?_
            rotate_left
            ·rintro w' ⟨s0, s1, s2, s3, s4, s5⟩
             go_simp
             with_reducible rfl
            rotate_left
            ·simp only [Act.put, List.setIfInBounds_toArray, List.set_cons_zero, List.set_cons_succ, i64_w, i32_w]
             rfl
            refine one_ (i := 3) (N := none) #[true, true, true, true, false] rfl rfl (by kernel_rfl) (by decide) (fun K hK => ?_)
            have hs82 : w81.cell? ⟨gb124, 0, none⟩ = some (.int .i64 0) := (blk_cell BK124.out 0).trans rfl
            have hfs82 := blk_frozen BK124.out 0
            have hns82_0 := NB123_124.out
            have hns82_2 := NB125_124.out
            have hms82_0 := NB124_123.out
            have hms82_2 := NB124_125.out
            have hs83 : w81.cell? ⟨gb124, 1, none⟩ = some (.int .i64 0) := (blk_cell BK124.out 1).trans rfl
            have hfs83 := blk_frozen BK124.out 1
            have hns83_0 := NB123_124.out
            have hns83_2 := NB125_124.out
            have hms83_0 := NB124_123.out
            have hms83_2 := NB124_125.out
            have hs84 : w81.cell? ⟨gb124, 2, none⟩ = some (.int .i64 0) := (blk_cell BK124.out 2).trans rfl
            have hfs84 := blk_frozen BK124.out 2
            have hns84_0 := NB123_124.out
            have hns84_2 := NB125_124.out
            have hms84_0 := NB124_123.out
            have hms84_2 := NB124_125.out
            have hs85 : w81.cell? ⟨gb124, 3, none⟩ = some (.int .i64 0) := (blk_cell BK124.out 3).trans rfl
            have hfs85 := blk_frozen BK124.out 3
            have hns85_0 := NB123_124.out
            have hns85_2 := NB125_124.out
            have hms85_0 := NB124_123.out
            have hms85_2 := NB124_125.out
            have hs86 : w81.cell? ⟨gb124, 4, none⟩ = some (.int .i64 0) := (blk_cell BK124.out 4).trans rfl
            have hfs86 := blk_frozen BK124.out 4
            have hns86_0 := NB123_124.out
            have hns86_2 := NB125_124.out
            have hms86_0 := NB124_123.out
            have hms86_2 := NB124_125.out
            have hs87 : w81.cell? ⟨gb124, 5, none⟩ = some (.int .i64 0) := (blk_cell BK124.out 5).trans rfl
            have hfs87 := blk_frozen BK124.out 5
            have hns87_0 := NB123_124.out
            have hns87_2 := NB125_124.out
            have hms87_0 := NB124_123.out
            have hms87_2 := NB124_125.out
            refine skip_ (w1 := ?_) (by rfl) rfl ?_ ?_
            rotate_left
            ·go_simp
             rfl
            refine hK.out _ _ ⟨((cell_far (p := ⟨gb124, _, none⟩) NB125_124.out _).trans (((cell_far (p := ⟨gb124, _, none⟩) NB125_124.out _).trans (((cell_far (p := ⟨gb124, _, none⟩) NB125_124.out _).trans (((cell_far (p := ⟨gb124, _, none⟩) NB125_124.out _).trans (((cell_far (p := ⟨gb124, _, none⟩) NB125_124.out _).trans (((cell_far (p := ⟨gb124, _, none⟩) NB125_124.out _).trans (hHeld.1)))))))))))), ((cell_far (p := ⟨gb124, _, none⟩) NB125_124.out _).trans (((cell_far (p := ⟨gb124, _, none⟩) NB125_124.out _).trans (((cell_far (p := ⟨gb124, _, none⟩) NB125_124.out _).trans (((cell_far (p := ⟨gb124, _, none⟩) NB125_124.out _).trans (((cell_far (p := ⟨gb124, _, none⟩) NB125_124.out _).trans (((cell_far (p := ⟨gb124, _, none⟩) NB125_124.out _).trans (hHeld.2.1)))))))))))), ((cell_far (p := ⟨gb124, _, none⟩) NB125_124.out _).trans (((cell_far (p := ⟨gb124, _, none⟩) NB125_124.out _).trans (((cell_far (p := ⟨gb124, _, none⟩) NB125_124.out _).trans (((cell_far (p := ⟨gb124, _, none⟩) NB125_124.out _).trans (((cell_far (p := ⟨gb124, _, none⟩) NB125_124.out _).trans (((cell_far (p := ⟨gb124, _, none⟩) NB125_124.out _).trans (hHeld.2.2.1)))))))))))), ((cell_far (p := ⟨gb124, _, none⟩) NB125_124.out _).trans (((cell_far (p := ⟨gb124, _, none⟩) NB125_124.out _).trans (((cell_far (p := ⟨gb124, _, none⟩) NB125_124.out _).trans (((cell_far (p := ⟨gb124, _, none⟩) NB125_124.out _).trans (((cell_far (p := ⟨gb124, _, none⟩) NB125_124.out _).trans (((cell_far (p := ⟨gb124, _, none⟩) NB125_124.out _).trans (hHeld.2.2.2.1)))))))))))), ((cell_far (p := ⟨gb124, _, none⟩) NB125_124.out _).trans (((cell_far (p := ⟨gb124, _, none⟩) NB125_124.out _).trans (((cell_far (p := ⟨gb124, _, none⟩) NB125_124.out _).trans (((cell_far (p := ⟨gb124, _, none⟩) NB125_124.out _).trans (((cell_far (p := ⟨gb124, _, none⟩) NB125_124.out _).trans (((cell_far (p := ⟨gb124, _, none⟩) NB125_124.out _).trans (hHeld.2.2.2.2.1)))))))))))), ((cell_far (p := ⟨gb124, _, none⟩) NB125_124.out _).trans (((cell_far (p := ⟨gb124, _, none⟩) NB125_124.out _).trans (((cell_far (p := ⟨gb124, _, none⟩) NB125_124.out _).trans (((cell_far (p := ⟨gb124, _, none⟩) NB125_124.out _).trans (((cell_far (p := ⟨gb124, _, none⟩) NB125_124.out _).trans (((cell_far (p := ⟨gb124, _, none⟩) NB125_124.out _).trans (hHeld.2.2.2.2.2))))))))))))⟩ (fun hHeld => ?_)
            clear hK K
            refine pure_ (i := 4) (N := some 6) (v := ?_) (a' := ?_) #[true, true, true, true, true] rfl rfl (by kernel_rfl) (fun _ _ _ h => h) (Or.inl ⟨by rfl, ?_⟩) ?_ ?_
            rotate_left
            ·intro w'
             go_simp
             with_reducible rfl
            rotate_left
            ·simp only [Act.put, List.setIfInBounds_toArray, List.set_cons_zero, List.set_cons_succ, i64_w, i32_w]
             rfl
            refine done_ (by kernel_rfl) ?_
            try go_wp2
            refine bodyPost_ret (results_list (rs := [.tmp 4, .cell 5 30, .tmp 6]) rfl (by simp) (.tmp (.cell gb124 30 #[.int .i64 x126000_1, .int .i64 x126001_1, .int .i64 x126002_1, .int .i64 x126003_1, .int .i64 x126004_1, .int .i64 x126005_1] (0, 0) _ rfl (by (with_reducible repeat (first | apply bN | apply bD | apply bA)); refine blk_put (cs := #[.int .i64 x126000_1, .int .i64 x126001_1, .int .i64 x126002_1, .int .i64 x126003_1, .int .i64 x126004_1, .int .i64 0]) ?_ 5 _ rfl; (with_reducible repeat (first | apply bN | apply bD | apply bA)); refine blk_put (cs := #[.int .i64 x126000_1, .int .i64 x126001_1, .int .i64 x126002_1, .int .i64 x126003_1, .int .i64 0, .int .i64 0]) ?_ 4 _ rfl; (with_reducible repeat (first | apply bN | apply bD | apply bA)); refine blk_put (cs := #[.int .i64 x126000_1, .int .i64 x126001_1, .int .i64 x126002_1, .int .i64 0, .int .i64 0, .int .i64 0]) ?_ 3 _ rfl; (with_reducible repeat (first | apply bN | apply bD | apply bA)); refine blk_put (cs := #[.int .i64 x126000_1, .int .i64 x126001_1, .int .i64 0, .int .i64 0, .int .i64 0, .int .i64 0]) ?_ 2 _ rfl; (with_reducible repeat (first | apply bN | apply bD | apply bA)); refine blk_put (cs := #[.int .i64 x126000_1, .int .i64 0, .int .i64 0, .int .i64 0, .int .i64 0, .int .i64 0]) ?_ 1 _ rfl; (with_reducible repeat (first | apply bN | apply bD | apply bA)); refine blk_put (cs := #[.int .i64 0, .int .i64 0, .int .i64 0, .int .i64 0, .int .i64 0, .int .i64 0]) ?_ 0 _ rfl; (with_reducible repeat (first | apply bN | apply bD | apply bA)); exact BK124.out) Try.underlying30 rfl (by kernel_rfl) (.tmp .nil)))) rfl ?_
            exact ⟨_, by first | rfl | (simp [errW_none, errW_some] <;> rfl) | (simp [*, errW_none, errW_some] <;> rfl), by (with_reducible repeat (first | apply rA | apply rN | apply rD)); exact Kd.R_mono (Kd.R_far (p := ⟨gb124, 5, none⟩) (Kd.R_far (p := ⟨gb124, 4, none⟩) (Kd.R_far (p := ⟨gb124, 3, none⟩) (Kd.R_far (p := ⟨gb124, 2, none⟩) (Kd.R_far (p := ⟨gb124, 1, none⟩) (Kd.R_far (p := ⟨gb124, 0, none⟩) (Kd.R_types HO_8.out BK124.out (by decide)) (fun _ hk => hk.2) (.int .i64 x126000_1)) (fun _ hk => hk.2) (.int .i64 x126001_1)) (fun _ hk => hk.2) (.int .i64 x126002_1)) (fun _ hk => hk.2) (.int .i64 x126003_1)) (fun _ hk => hk.2) (.int .i64 x126004_1)) (fun _ hk => hk.2) (.int .i64 x126005_1)) (fun _ hk => trivial), bl_ HB⟩
    ·rw [if_neg c21] at H
     exact absurd H (by simp)
   ·rw [if_neg c20] at H
    exact absurd H (by simp)
 ·replace c4 := Bool.eq_false_iff.mpr c4
  subst c4
  have H1 : (some (([] : List Nat), 0, 0, 0, 0, 0, 0, 1)) = some (r1, r2, r3, r4, r5, r6, r7, r8) := by rw [if_neg (show ¬ (false = true) by decide)] at H; exact H
  clear H
  have H := H1
  clear H1
  simp only [Option.some.injEq, Prod.mk.injEq] at H
  obtain ⟨rfl, rfl, rfl, rfl, rfl, rfl, rfl, rfl⟩ := H
  go_enter Try.func12, Try.ntmps12
  try go_wp2_with (first | ((with_reducible refine gate_dst (N := 3) rfl ?_); refine box_event ?hg (N := 3) ?hd (cs := #[.int .i64 a1_0, .int .i64 a1_1]) (t := 23) ?hr ?_; (case hd => rfl); (case hg => rfl); (case hr => first | (go_simp; done) | (go_simp; rfl)); intro gb123 hg w88 hbox hb; have n0_ := bs_ HB hb; have n1_ := Aside0.mk (hbox); have n2_ := ge_ HB hg; have n3_ := ge_ HB hg; clear HB; have HB := n0_; have BK123 := n1_; have GW123 := n2_; have GE123 := n3_; clear n0_ n1_ n2_ n3_; clear hb hbox hg) | ((with_reducible refine gate_dst (N := 5) rfl ?_); refine box_event ?hg (N := 5) ?hd (cs := #[.int .i64 0, .int .i64 0, .int .i64 0, .int .i64 0, .int .i64 0, .int .i64 0]) (t := 30) ?hr ?_; (case hd => rfl); (case hg => rfl); (case hr => first | (go_simp; done) | (go_simp; rfl)); intro gb124 hg w89 hbox hb; have n0_ := kb_ BK123 hb; have n1_ := bs_ HB hb; have n2_ := Aside0.mk (hbox); have n3_ := ge_ HB hg; have n4_ := ge_ HB hg; have n5_ := nlt_ BK123 hg; have n6_ := ngt_ BK123 hg; clear BK123; clear HB; have BK123 := n0_; have HB := n1_; have BK124 := n2_; have GW124 := n3_; have GE124 := n4_; have NB123_124 := n5_; have NB124_123 := n6_; clear n0_ n1_ n2_ n3_ n4_ n5_ n6_; clear hb hbox hg) | ((with_reducible refine gate_dst (N := 7) rfl ?_); refine box_event ?hg (N := 7) ?hd (cs := #[.int .i64 0, .int .i64 0, .int .i64 0, .int .i64 0, .int .i64 0, .int .i64 0]) (t := 30) ?hr ?_; (case hd => rfl); (case hg => rfl); (case hr => first | (go_simp; done) | (go_simp; rfl)); intro gb125 hg w90 hbox hb; have n0_ := kb_ BK123 hb; have n1_ := kb_ BK124 hb; have n2_ := bs_ HB hb; have n3_ := Aside0.mk (hbox); have n4_ := ge_ HB hg; have n5_ := ge_ HB hg; have n6_ := nlt_ BK123 hg; have n7_ := ngt_ BK123 hg; have n8_ := nlt_ BK124 hg; have n9_ := ngt_ BK124 hg; clear BK123; clear BK124; clear HB; have BK123 := n0_; have BK124 := n1_; have HB := n2_; have BK125 := n3_; have GW125 := n4_; have GE125 := n5_; have NB123_125 := n6_; have NB125_123 := n7_; have NB124_125 := n8_; have NB125_124 := n9_; clear n0_ n1_ n2_ n3_ n4_ n5_ n6_ n7_ n8_ n9_; clear hb hbox hg; have hnb91 := NB123_124.out; have hnc91 := NB124_123.out; have hnb92 := NB123_125.out; have hnc92 := NB125_123.out; have hcz93_0 : w90.cell? ⟨gb123, 0, none⟩ = some (.int .i64 a1_0) := (blk_cell BK123.out 0).trans rfl; have hcz93_1 : w90.cell? ⟨gb123, 1, none⟩ = some (.int .i64 a1_1) := (blk_cell BK123.out 1).trans rfl; have hfz93_0 := blk_frozen BK123.out 0; have hfz93_1 := blk_frozen BK123.out 1) | ((with_reducible refine gate_callee (f := 8) rfl ?_); refine goesM (some 13) Try.func8 #[.agg #[.int .i64 a1_0, .int .i64 a1_1]] ?_; (with_reducible refine (policy_May.calls a1_0 a1_1 false _ A3.out).mono ?_); rintro e w94 ⟨rfl, hb⟩; refine ⟨_, rfl, ?_⟩; have n0_ := kb_ BK123 hb; have n1_ := kb_ BK124 hb; have n2_ := kb_ BK125 hb; have n3_ := bs_ HB hb; clear BK123; clear BK124; clear BK125; clear HB; have BK123 := n0_; have BK124 := n1_; have BK125 := n2_; have HB := n3_; clear n0_ n1_ n2_ n3_; (try clear hb); (try clear hb2); (try clear hk); (try clear hi)))
  have n0_ := Aside0.mk (blk_drew BK123.out)
  have n1_ := Aside0.mk (blk_drew BK124.out)
  have n2_ := Aside0.mk (blk_drew BK125.out)
  have n3_ := Aside0.mk (below_drew1 HB.out)
  clear BK123
  clear BK124
  clear BK125
  clear HB
  have BK123 := n0_
  have BK124 := n1_
  have BK125 := n2_
  have HB := n3_
  clear n0_ n1_ n2_ n3_
  refine start_ (n := 4) (S := fun w' => w'.cell? ⟨gb125, 0, none⟩ = some (.int .i64 0) ∧ w'.cell? ⟨gb125, 1, none⟩ = some (.int .i64 0) ∧ w'.cell? ⟨gb125, 2, none⟩ = some (.int .i64 0) ∧ w'.cell? ⟨gb125, 3, none⟩ = some (.int .i64 0) ∧ w'.cell? ⟨gb125, 4, none⟩ = some (.int .i64 0) ∧ w'.cell? ⟨gb125, 5, none⟩ = some (.int .i64 0)) (ds := []) #[false, false, false, false] (by kernel_rfl) rfl rfl ⟨(blk_cell BK125.out 0).trans rfl, (blk_cell BK125.out 1).trans rfl, (blk_cell BK125.out 2).trans rfl, (blk_cell BK125.out 3).trans rfl, (blk_cell BK125.out 4).trans rfl, (blk_cell BK125.out 5).trans rfl⟩ (fun hHeld => ?_)
  generalize w94.drew = w95 at BK123 BK124 BK125 HB hHeld ⊢
  refine pure_ (i := 1) (N := some 4) (v := ?_) (a' := ?_) #[false, true, false, false] rfl rfl (by kernel_rfl) (fun _ _ _ h => h) (Or.inl ⟨by rfl, ?_⟩) ?_ ?_
  rotate_left
  ·intro w'
   go_simp
   with_reducible rfl
  rotate_left
  ·simp only [Act.put, List.setIfInBounds_toArray, List.set_cons_zero, List.set_cons_succ, i64_w, i32_w]
   rfl
  refine take_ (i := 0) (N := some 15) (v := ?_) (a' := ?_) #[true, true, false, false] rfl rfl (by kernel_rfl) (fun _ _ _ h => h) (Or.inl ⟨by rfl, ?_⟩) hHeld ?_ ?_
  rotate_left
  ·rintro w' ⟨s0, s1, s2, s3, s4, s5⟩
   go_simp
   with_reducible rfl
  rotate_left
  ·simp only [Act.put, List.setIfInBounds_toArray, List.set_cons_zero, List.set_cons_succ, i64_w, i32_w]
   rfl
  refine one_ (i := 2) (N := none) #[true, true, true, false] rfl rfl (by kernel_rfl) (by decide) (fun K hK => ?_)
  have hs96 : w95.cell? ⟨gb124, 0, none⟩ = some (.int .i64 0) := (blk_cell BK124.out 0).trans rfl
  have hfs96 := blk_frozen BK124.out 0
  have hns96_0 := NB123_124.out
  have hns96_2 := NB125_124.out
  have hms96_0 := NB124_123.out
  have hms96_2 := NB124_125.out
  have hs97 : w95.cell? ⟨gb124, 1, none⟩ = some (.int .i64 0) := (blk_cell BK124.out 1).trans rfl
  have hfs97 := blk_frozen BK124.out 1
  have hns97_0 := NB123_124.out
  have hns97_2 := NB125_124.out
  have hms97_0 := NB124_123.out
  have hms97_2 := NB124_125.out
  have hs98 : w95.cell? ⟨gb124, 2, none⟩ = some (.int .i64 0) := (blk_cell BK124.out 2).trans rfl
  have hfs98 := blk_frozen BK124.out 2
  have hns98_0 := NB123_124.out
  have hns98_2 := NB125_124.out
  have hms98_0 := NB124_123.out
  have hms98_2 := NB124_125.out
  have hs99 : w95.cell? ⟨gb124, 3, none⟩ = some (.int .i64 0) := (blk_cell BK124.out 3).trans rfl
  have hfs99 := blk_frozen BK124.out 3
  have hns99_0 := NB123_124.out
  have hns99_2 := NB125_124.out
  have hms99_0 := NB124_123.out
  have hms99_2 := NB124_125.out
  have hs100 : w95.cell? ⟨gb124, 4, none⟩ = some (.int .i64 0) := (blk_cell BK124.out 4).trans rfl
  have hfs100 := blk_frozen BK124.out 4
  have hns100_0 := NB123_124.out
  have hns100_2 := NB125_124.out
  have hms100_0 := NB124_123.out
  have hms100_2 := NB124_125.out
  have hs101 : w95.cell? ⟨gb124, 5, none⟩ = some (.int .i64 0) := (blk_cell BK124.out 5).trans rfl
  have hfs101 := blk_frozen BK124.out 5
  have hns101_0 := NB123_124.out
  have hns101_2 := NB125_124.out
  have hms101_0 := NB124_123.out
  have hms101_2 := NB124_125.out
  refine skip_ (w1 := ?_) (by rfl) rfl ?_ ?_
  rotate_left
  ·go_simp
   rfl
  refine hK.out _ _ ⟨((cell_far (p := ⟨gb124, _, none⟩) NB125_124.out _).trans (((cell_far (p := ⟨gb124, _, none⟩) NB125_124.out _).trans (((cell_far (p := ⟨gb124, _, none⟩) NB125_124.out _).trans (((cell_far (p := ⟨gb124, _, none⟩) NB125_124.out _).trans (((cell_far (p := ⟨gb124, _, none⟩) NB125_124.out _).trans (((cell_far (p := ⟨gb124, _, none⟩) NB125_124.out _).trans (hHeld.1)))))))))))), ((cell_far (p := ⟨gb124, _, none⟩) NB125_124.out _).trans (((cell_far (p := ⟨gb124, _, none⟩) NB125_124.out _).trans (((cell_far (p := ⟨gb124, _, none⟩) NB125_124.out _).trans (((cell_far (p := ⟨gb124, _, none⟩) NB125_124.out _).trans (((cell_far (p := ⟨gb124, _, none⟩) NB125_124.out _).trans (((cell_far (p := ⟨gb124, _, none⟩) NB125_124.out _).trans (hHeld.2.1)))))))))))), ((cell_far (p := ⟨gb124, _, none⟩) NB125_124.out _).trans (((cell_far (p := ⟨gb124, _, none⟩) NB125_124.out _).trans (((cell_far (p := ⟨gb124, _, none⟩) NB125_124.out _).trans (((cell_far (p := ⟨gb124, _, none⟩) NB125_124.out _).trans (((cell_far (p := ⟨gb124, _, none⟩) NB125_124.out _).trans (((cell_far (p := ⟨gb124, _, none⟩) NB125_124.out _).trans (hHeld.2.2.1)))))))))))), ((cell_far (p := ⟨gb124, _, none⟩) NB125_124.out _).trans (((cell_far (p := ⟨gb124, _, none⟩) NB125_124.out _).trans (((cell_far (p := ⟨gb124, _, none⟩) NB125_124.out _).trans (((cell_far (p := ⟨gb124, _, none⟩) NB125_124.out _).trans (((cell_far (p := ⟨gb124, _, none⟩) NB125_124.out _).trans (((cell_far (p := ⟨gb124, _, none⟩) NB125_124.out _).trans (hHeld.2.2.2.1)))))))))))), ((cell_far (p := ⟨gb124, _, none⟩) NB125_124.out _).trans (((cell_far (p := ⟨gb124, _, none⟩) NB125_124.out _).trans (((cell_far (p := ⟨gb124, _, none⟩) NB125_124.out _).trans (((cell_far (p := ⟨gb124, _, none⟩) NB125_124.out _).trans (((cell_far (p := ⟨gb124, _, none⟩) NB125_124.out _).trans (((cell_far (p := ⟨gb124, _, none⟩) NB125_124.out _).trans (hHeld.2.2.2.2.1)))))))))))), ((cell_far (p := ⟨gb124, _, none⟩) NB125_124.out _).trans (((cell_far (p := ⟨gb124, _, none⟩) NB125_124.out _).trans (((cell_far (p := ⟨gb124, _, none⟩) NB125_124.out _).trans (((cell_far (p := ⟨gb124, _, none⟩) NB125_124.out _).trans (((cell_far (p := ⟨gb124, _, none⟩) NB125_124.out _).trans (((cell_far (p := ⟨gb124, _, none⟩) NB125_124.out _).trans (hHeld.2.2.2.2.2))))))))))))⟩ (fun hHeld => ?_)
  clear hK K
  refine pure_ (i := 3) (N := some 6) (v := ?_) (a' := ?_) #[true, true, true, true] rfl rfl (by kernel_rfl) (fun _ _ _ h => h) (Or.inl ⟨by rfl, ?_⟩) ?_ ?_
  rotate_left
  ·intro w'
   go_simp
   with_reducible rfl
  rotate_left
  ·simp only [Act.put, List.setIfInBounds_toArray, List.set_cons_zero, List.set_cons_succ, i64_w, i32_w]
   rfl
  refine done_ (by kernel_rfl) ?_
  try go_wp2
  refine bodyPost_ret (results_list (rs := [.tmp 4, .cell 5 30, .tmp 6]) rfl (by simp) (.tmp (.cell gb124 30 #[.int .i64 0, .int .i64 0, .int .i64 0, .int .i64 0, .int .i64 0, .int .i64 0] (0, 0) _ rfl (by (with_reducible repeat (first | apply bN | apply bD | apply bA)); refine blk_put (cs := #[.int .i64 0, .int .i64 0, .int .i64 0, .int .i64 0, .int .i64 0, .int .i64 0]) ?_ 5 _ rfl; (with_reducible repeat (first | apply bN | apply bD | apply bA)); refine blk_put (cs := #[.int .i64 0, .int .i64 0, .int .i64 0, .int .i64 0, .int .i64 0, .int .i64 0]) ?_ 4 _ rfl; (with_reducible repeat (first | apply bN | apply bD | apply bA)); refine blk_put (cs := #[.int .i64 0, .int .i64 0, .int .i64 0, .int .i64 0, .int .i64 0, .int .i64 0]) ?_ 3 _ rfl; (with_reducible repeat (first | apply bN | apply bD | apply bA)); refine blk_put (cs := #[.int .i64 0, .int .i64 0, .int .i64 0, .int .i64 0, .int .i64 0, .int .i64 0]) ?_ 2 _ rfl; (with_reducible repeat (first | apply bN | apply bD | apply bA)); refine blk_put (cs := #[.int .i64 0, .int .i64 0, .int .i64 0, .int .i64 0, .int .i64 0, .int .i64 0]) ?_ 1 _ rfl; (with_reducible repeat (first | apply bN | apply bD | apply bA)); refine blk_put (cs := #[.int .i64 0, .int .i64 0, .int .i64 0, .int .i64 0, .int .i64 0, .int .i64 0]) ?_ 0 _ rfl; (with_reducible repeat (first | apply bN | apply bD | apply bA)); exact BK124.out) Try.underlying30 rfl (by kernel_rfl) (.tmp .nil)))) rfl ?_
  exact ⟨_, by first | rfl | (simp [errW_none, errW_some] <;> rfl) | (simp [*, errW_none, errW_some] <;> rfl), by first | exact Kd.R_nil _ _ _ _ _ | exact Kd.N_nil _ _ _ _ _ | exact Kd.V_nil _ _ _ _ _ | exact Kd.Q_nil _ _ _ _ _ | exact Kd.S_nil _ _ _ _ _, bl_ HB⟩

end Go.Proofs.Ytkoonpjlpobmeaa.Pr
