import Derived.Test.YtkoonpjlpobmeaaPolicySiftsM0
-- written by this session's own program (wip/fprint.py), which widens the kit's print by floats
namespace Go.Proofs.Ytkoonpjlpobmeaa.Pr
open Go.RowKit Go.Proofs.YtkoonpjlpobmeaaW.PrintWords Go.Proofs.YtkoonpjlpobmeaaW.PrintLast Go.Proofs.YtkoonpjlpobmeaaW.PrintMore
attribute [local go_sem] max2_int min2_int max_two min_two max_three min_three max_four min_four   -- for this text's walks alone
set_option linter.unusedVariables false
set_option linter.unusedSimpArgs false

/-! ### policy_Sift: function 12 -/
mutual
def policy_Sift.l0 : Nat → List Nat → List Nat → Int → Int → Int → Int → Int → Int → Int → Int → Int → Int → Option (List Nat × Int × Int × Int × Int × Int × Int × Int)
  | 0, _, _, _, _, _, _, _, _, _, _, _, _ => none
  | k + 1, x0, x8, x25, x26, x124000, x124001, x126000, x126001, x126002, x126003, x126004, x126005 => if x26 < x25 then (if 0 ≤ x26 then (if x26 < (x0.length : Int) then ((policy_kind.f k (rdOf (0 : Nat) x0 x26)).bind fun t131 => ((policy_count.f x126000 x126001 x126002 x126003 x126004 x126005 t131).bind fun bt132 => (if t131 ≤ 2 then (if x8.length < 17592186044416 then (policy_Sift.l0 k x0 (x8 ++ [rdOf (0 : Nat) x0 x26]) x25 (wrap64 (x26 + 1)) x124000 x124001 bt132.1 bt132.2.1 bt132.2.2.1 bt132.2.2.2.1 bt132.2.2.2.2.1 bt132.2.2.2.2.2) else (none)) else (policy_Sift.l0 k x0 x8 x25 (wrap64 (x26 + 1)) x124000 x124001 bt132.1 bt132.2.1 bt132.2.2.1 bt132.2.2.2.1 bt132.2.2.2.2.1 bt132.2.2.2.2.2)))) else (none)) else (none)) else (if x126000 > 0 then (policy_Sift.j1 k x8 (x124000 == 2) x124000 x124001 x126000 x126001 x126002 x126003 x126004 x126005) else (policy_Sift.j1 k x8 false x124000 x124001 x126000 x126001 x126002 x126003 x126004 x126005))
def policy_Sift.j1 : Nat → List Nat → Bool → Int → Int → Int → Int → Int → Int → Int → Int → Option (List Nat × Int × Int × Int × Int × Int × Int × Int)
  | 0, _, _, _, _, _, _, _, _, _, _ => none
  | k + 1, x8, x46, x124000, x124001, x126000, x126001, x126002, x126003, x126004, x126005 => if x46 = true then (some (([] : List Nat), 0, 0, 0, 0, 0, 0, 60)) else (if (wrap64 (x126001 + x126002)) > 0 then (if x124001 = 2 then (some (([] : List Nat), 0, 0, 0, 0, 0, 0, 61)) else (some (x8, x126000, x126001, x126002, x126003, x126004, x126005, 0))) else (some (x8, x126000, x126001, x126002, x126003, x126004, x126005, 0)))
end
def policy_Sift.f (k : Nat) (l0 : List Nat) (a1_0 : Int) (a1_1 : Int) : Option (List Nat × Int × Int × Int × Int × Int × Int × Int) := (policy_May.f a1_0 a1_1).bind fun t126 => (if t126 = true then (if (l0.length : Int) > 65536 then (some (([] : List Nat), 0, 0, 0, 0, 0, 0, 2)) else (if 0 ≤ (l0.length : Int) then (if ((l0.length : Int) : Int).toNat ≤ 35184372088832 then (policy_Sift.l0 k l0 (List.replicate 0 (0 : Nat)) (l0.length : Int) 0 a1_0 a1_1 0 0 0 0 0 0) else (none)) else (none))) else (some (([] : List Nat), 0, 0, 0, 0, 0, 0, 1)))
theorem policy_Sift.mono_l : ∀ k, (∀ y0 y1 y2 y3 y4 y5 y6 y7 y8 y9 y10 y11, LeO (policy_Sift.l0 k y0 y1 y2 y3 y4 y5 y6 y7 y8 y9 y10 y11) (policy_Sift.l0 (k + 1) y0 y1 y2 y3 y4 y5 y6 y7 y8 y9 y10 y11)) ∧ (∀ y0 y1 y2 y3 y4 y5 y6 y7 y8 y9, LeO (policy_Sift.j1 k y0 y1 y2 y3 y4 y5 y6 y7 y8 y9) (policy_Sift.j1 (k + 1) y0 y1 y2 y3 y4 y5 y6 y7 y8 y9))
  | 0 => ⟨fun _ _ _ _ _ _ _ _ _ _ _ _ r h => by simp [policy_Sift.l0] at h, fun _ _ _ _ _ _ _ _ _ _ r h => by simp [policy_Sift.j1] at h⟩
  | k + 1 => by
    obtain ⟨ih0, ih1⟩ := policy_Sift.mono_l k
    refine ⟨?_, ?_⟩
    · intro y0 y1 y2 y3 y4 y5 y6 y7 y8 y9 y10 y11
      unfold policy_Sift.l0
      repeat' first
      | (with_reducible exact ih0 _ _ _ _ _ _ _ _ _ _ _ _)
      | (with_reducible exact ih1 _ _ _ _ _ _ _ _ _ _)
      | (with_reducible exact policy_kind.mono _ _)
      | (with_reducible exact LeO.refl _)
      | (with_reducible exact LeO.none _)
      | (with_reducible refine LeO.ite ?_ ?_)
      | (with_reducible refine LeO.bind ?_ (fun _ => ?_))
      | exact ih0 _ _ _ _ _ _ _ _ _ _ _ _
      | exact ih1 _ _ _ _ _ _ _ _ _ _
      | exact policy_kind.mono _ _
      | exact LeO.none _
      | refine LeO.ite ?_ ?_
      | refine LeO.bind ?_ (fun _ => ?_)
    · intro y0 y1 y2 y3 y4 y5 y6 y7 y8 y9
      unfold policy_Sift.j1
      repeat' first
      | (with_reducible exact ih0 _ _ _ _ _ _ _ _ _ _ _ _)
      | (with_reducible exact ih1 _ _ _ _ _ _ _ _ _ _)
      | (with_reducible exact policy_kind.mono _ _)
      | (with_reducible exact LeO.refl _)
      | (with_reducible exact LeO.none _)
      | (with_reducible refine LeO.ite ?_ ?_)
      | (with_reducible refine LeO.bind ?_ (fun _ => ?_))
      | exact ih0 _ _ _ _ _ _ _ _ _ _ _ _
      | exact ih1 _ _ _ _ _ _ _ _ _ _
      | exact policy_kind.mono _ _
      | exact LeO.none _
      | refine LeO.ite ?_ ?_
      | refine LeO.bind ?_ (fun _ => ?_)
theorem policy_Sift.mono : ∀ a0 a1 a2 k, LeO (policy_Sift.f k a0 a1 a2) (policy_Sift.f (k + 1) a0 a1 a2) := by
  intro a0 a1 a2 k
  obtain ⟨ih0, ih1⟩ := policy_Sift.mono_l k
  unfold policy_Sift.f
  repeat' first
      | (with_reducible exact ih0 _ _ _ _ _ _ _ _ _ _ _ _)
      | (with_reducible exact ih1 _ _ _ _ _ _ _ _ _ _)
      | (with_reducible exact policy_kind.mono _ _)
      | (with_reducible exact LeO.refl _)
      | (with_reducible exact LeO.none _)
      | (with_reducible refine LeO.ite ?_ ?_)
      | (with_reducible refine LeO.bind ?_ (fun _ => ?_))
      | exact ih0 _ _ _ _ _ _ _ _ _ _ _ _
      | exact ih1 _ _ _ _ _ _ _ _ _ _
      | exact policy_kind.mono _ _
      | exact LeO.none _
      | refine LeO.ite ?_ ?_
      | refine LeO.bind ?_ (fun _ => ?_)
set_option maxHeartbeats 3000000 in
set_option maxRecDepth 100000 in
theorem policy_Sift.calls (k : Nat) (A0 : Option Addr) (c0 : Nat) (l0 : List Nat) (a1_0 : Int) (a1_1 : Int) (r1 : List Nat) (r2 : Int) (r3 : Int) (r4 : Int) (r5 : Int) (r6 : Int) (r7 : Int) (r8 : Int) (w : World) (hr0 : Kd.C (Kd.float .f64) w A0 l0.length l0) (hc0 : l0.length ≤ c0) (h : policy_Sift.f k l0 a1_0 a1_1 = some (r1, r2, r3, r4, r5, r6, r7, r8)) :
    Calls Try.prog 12 #[.slice A0 l0.length c0, .agg #[.int .i64 a1_0, .int .i64 a1_1]] w fun e w' => ∃ v0_ : Value, e = .returned (.tuple #[v0_, .agg #[.int .i64 r2, .int .i64 r3, .int .i64 r4, .int .i64 r5, .int .i64 r6, .int .i64 r7], .int .i64 r8]) ∧ Kd.R (Kd.float .f64) 41 w' w.heap.size (fun _ => True) v0_ r1 ∧ Below w.heap.size w w' := by
  have hu23 := Try.underlying23
  have hu30 := Try.underlying30
  have HR0 := Aside0.mk hr0
  have HC0 := Aside0.mk hc0
  clear hr0 hc0
  have HB := Aside0.mk (Below.refl w.heap.size w)
  have H : ((policy_May.f a1_0 a1_1).bind fun t126 => (if t126 = true then (if (l0.length : Int) > 65536 then (some (([] : List Nat), 0, 0, 0, 0, 0, 0, 2)) else (if 0 ≤ (l0.length : Int) then (if ((l0.length : Int) : Int).toNat ≤ 35184372088832 then (policy_Sift.l0 k l0 (List.replicate 0 (0 : Nat)) (l0.length : Int) 0 a1_0 a1_1 0 0 0 0 0 0) else (none)) else (none))) else (some (([] : List Nat), 0, 0, 0, 0, 0, 0, 1)))) = some (r1, r2, r3, r4, r5, r6, r7, r8) := h
  clear h
  replace H := Option.bind_eq_some_iff.mp H
  obtain ⟨t126, A30, H⟩ := H
  replace H : (if t126 = true then (if (l0.length : Int) > 65536 then (some (([] : List Nat), 0, 0, 0, 0, 0, 0, 2)) else (if 0 ≤ (l0.length : Int) then (if ((l0.length : Int) : Int).toNat ≤ 35184372088832 then (policy_Sift.l0 k l0 (List.replicate 0 (0 : Nat)) (l0.length : Int) 0 a1_0 a1_1 0 0 0 0 0 0) else (none)) else (none))) else (some (([] : List Nat), 0, 0, 0, 0, 0, 0, 1))) = some (r1, r2, r3, r4, r5, r6, r7, r8) := H
  have A3 := Aside0.mk A30
  clear A30
  by_cases c4 : t126 = true
  · subst c4
    have H1 : (if (l0.length : Int) > 65536 then (some (([] : List Nat), 0, 0, 0, 0, 0, 0, 2)) else (if 0 ≤ (l0.length : Int) then (if ((l0.length : Int) : Int).toNat ≤ 35184372088832 then (policy_Sift.l0 k l0 (List.replicate 0 (0 : Nat)) (l0.length : Int) 0 a1_0 a1_1 0 0 0 0 0 0) else (none)) else (none))) = some (r1, r2, r3, r4, r5, r6, r7, r8) := by rw [if_pos rfl] at H; exact H
    clear H
    have H := H1
    clear H1
    by_cases c5 : (l0.length : Int) > 65536
    · rw [if_pos c5] at H
      have c5b0 : decide (65536 < (l0.length : Int)) = true := decide_eq_true c5
      have c5b1 : decide (65536 < l0.length) = true := decide_eq_true (by omega)
      clear c5
      simp only [Option.some.injEq, Prod.mk.injEq] at H
      obtain ⟨rfl, rfl, rfl, rfl, rfl, rfl, rfl, rfl⟩ := H
      go_enter Try.func12, Try.ntmps12
      try go_wp2_with (first | ((with_reducible refine gate_dst (N := 3) rfl ?_); refine box_event ?hg (N := 3) ?hd (cs := #[.int .i64 a1_0, .int .i64 a1_1]) (t := 23) ?hr ?_; (case hd => rfl); (case hg => rfl); (case hr => first | (go_simp; done) | (go_simp; rfl)); intro gb123 hg w6 hbox hb; have n0_ := bs_ HB hb; have n1_ := Aside0.mk (hbox); have n2_ := ge_ HB hg; have n3_ := ge_ HB hg; clear HB; have HB := n0_; have BK123 := n1_; have GW123 := n2_; have GE123 := n3_; clear n0_ n1_ n2_ n3_; clear hb hbox hg) | ((with_reducible refine gate_dst (N := 5) rfl ?_); refine box_event ?hg (N := 5) ?hd (cs := #[.int .i64 0, .int .i64 0, .int .i64 0, .int .i64 0, .int .i64 0, .int .i64 0]) (t := 30) ?hr ?_; (case hd => rfl); (case hg => rfl); (case hr => first | (go_simp; done) | (go_simp; rfl)); intro gb124 hg w7 hbox hb; have n0_ := kb_ BK123 hb; have n1_ := bs_ HB hb; have n2_ := Aside0.mk (hbox); have n3_ := ge_ HB hg; have n4_ := ge_ HB hg; have n5_ := nlt_ BK123 hg; have n6_ := ngt_ BK123 hg; clear BK123; clear HB; have BK123 := n0_; have HB := n1_; have BK124 := n2_; have GW124 := n3_; have GE124 := n4_; have NB123_124 := n5_; have NB124_123 := n6_; clear n0_ n1_ n2_ n3_ n4_ n5_ n6_; clear hb hbox hg) | ((with_reducible refine gate_dst (N := 7) rfl ?_); refine box_event ?hg (N := 7) ?hd (cs := #[.int .i64 0, .int .i64 0, .int .i64 0, .int .i64 0, .int .i64 0, .int .i64 0]) (t := 30) ?hr ?_; (case hd => rfl); (case hg => rfl); (case hr => first | (go_simp; done) | (go_simp; rfl)); intro gb125 hg w8 hbox hb; have n0_ := kb_ BK123 hb; have n1_ := kb_ BK124 hb; have n2_ := bs_ HB hb; have n3_ := Aside0.mk (hbox); have n4_ := ge_ HB hg; have n5_ := ge_ HB hg; have n6_ := nlt_ BK123 hg; have n7_ := ngt_ BK123 hg; have n8_ := nlt_ BK124 hg; have n9_ := ngt_ BK124 hg; clear BK123; clear BK124; clear HB; have BK123 := n0_; have BK124 := n1_; have HB := n2_; have BK125 := n3_; have GW125 := n4_; have GE125 := n5_; have NB123_125 := n6_; have NB125_123 := n7_; have NB124_125 := n8_; have NB125_124 := n9_; clear n0_ n1_ n2_ n3_ n4_ n5_ n6_ n7_ n8_ n9_; clear hb hbox hg; have hnb9 := NB123_124.out; have hnc9 := NB124_123.out; have hnb10 := NB123_125.out; have hnc10 := NB125_123.out; have hcz11_0 : w8.cell? ⟨gb123, 0, none⟩ = some (.int .i64 a1_0) := (blk_cell BK123.out 0).trans rfl; have hcz11_1 : w8.cell? ⟨gb123, 1, none⟩ = some (.int .i64 a1_1) := (blk_cell BK123.out 1).trans rfl; have hfz11_0 := blk_frozen BK123.out 0; have hfz11_1 := blk_frozen BK123.out 1) | ((with_reducible refine gate_callee (f := 8) rfl ?_); refine goesL_ (some 13) rfl rfl Try.func8 (by kernel_rfl) rfl #[.agg #[.int .i64 a1_0, .int .i64 a1_1]] rfl (by (try simp only [List.map_toArray, List.map_cons, List.map_nil]); first | done | rfl | (simp only [List.length_drop, List.length_take]; rfl)) ?_; (with_reducible refine (policy_May.calls a1_0 a1_1 true _ A3.out).mono ?_); rintro e w12 ⟨rfl, hb⟩; refine ⟨_, rfl, ?_⟩; have n0_ := kb_ BK123 hb; have n1_ := kb_ BK124 hb; have n2_ := kb_ BK125 hb; have n3_ := bs_ HB hb; clear BK123; clear BK124; clear BK125; clear HB; have BK123 := n0_; have BK124 := n1_; have BK125 := n2_; have HB := n3_; clear n0_ n1_ n2_ n3_; (try clear hb); (try clear hb2); (try clear hk); (try clear hi)))
      have n0_ := Aside0.mk (blk_drew BK123.out)
      have n1_ := Aside0.mk (blk_drew BK124.out)
      have n2_ := Aside0.mk (blk_drew BK125.out)
      have n3_ := Aside0.mk (below_drew1 HB.out)
      clear BK123
      clear BK124
      clear BK125
      clear HB
      have BK123 := n0_
      have BK124 := n1_
      have BK125 := n2_
      have HB := n3_
      clear n0_ n1_ n2_ n3_
      refine start_ (n := 4) (S := fun w' => w'.cell? ⟨gb125, 0, none⟩ = some (.int .i64 0) ∧ w'.cell? ⟨gb125, 1, none⟩ = some (.int .i64 0) ∧ w'.cell? ⟨gb125, 2, none⟩ = some (.int .i64 0) ∧ w'.cell? ⟨gb125, 3, none⟩ = some (.int .i64 0) ∧ w'.cell? ⟨gb125, 4, none⟩ = some (.int .i64 0) ∧ w'.cell? ⟨gb125, 5, none⟩ = some (.int .i64 0)) (ds := []) #[false, false, false, false] (by kernel_rfl) rfl rfl ⟨(blk_cell BK125.out 0).trans rfl, (blk_cell BK125.out 1).trans rfl, (blk_cell BK125.out 2).trans rfl, (blk_cell BK125.out 3).trans rfl, (blk_cell BK125.out 4).trans rfl, (blk_cell BK125.out 5).trans rfl⟩ (fun hHeld => ?_)
      generalize w12.drew = w13 at BK123 BK124 BK125 HB hHeld ⊢
      refine pure_ (i := 1) (N := some 4) (v := ?_) (a' := ?_) #[false, true, false, false] rfl rfl (by kernel_rfl) (fun _ _ _ h => h) (Or.inl ⟨by rfl, ?_⟩) ?_ ?_
      rotate_left
      · intro w'
        go_simp
        with_reducible rfl
      rotate_left
      · simp only [Act.put, List.setIfInBounds_toArray, List.set_cons_zero, List.set_cons_succ, i64_w, i32_w]
        rfl
      refine take_ (i := 0) (N := some 20) (v := ?_) (a' := ?_) #[true, true, false, false] rfl rfl (by kernel_rfl) (fun _ _ _ h => h) (Or.inl ⟨by rfl, ?_⟩) hHeld ?_ ?_
      rotate_left
      · rintro w' ⟨s0, s1, s2, s3, s4, s5⟩
        go_simp
        with_reducible rfl
      rotate_left
      · simp only [Act.put, List.setIfInBounds_toArray, List.set_cons_zero, List.set_cons_succ, i64_w, i32_w]
        rfl
      refine one_ (i := 2) (N := none) #[true, true, true, false] rfl rfl (by kernel_rfl) (by decide) (fun K hK => ?_)
      have hs14 : w13.cell? ⟨gb124, 0, none⟩ = some (.int .i64 0) := (blk_cell BK124.out 0).trans rfl
      have hfs14 := blk_frozen BK124.out 0
      have hns14_0 := NB123_124.out
      have hns14_2 := NB125_124.out
      have hms14_0 := NB124_123.out
      have hms14_2 := NB124_125.out
      have hs15 : w13.cell? ⟨gb124, 1, none⟩ = some (.int .i64 0) := (blk_cell BK124.out 1).trans rfl
      have hfs15 := blk_frozen BK124.out 1
      have hns15_0 := NB123_124.out
      have hns15_2 := NB125_124.out
      have hms15_0 := NB124_123.out
      have hms15_2 := NB124_125.out
      have hs16 : w13.cell? ⟨gb124, 2, none⟩ = some (.int .i64 0) := (blk_cell BK124.out 2).trans rfl
      have hfs16 := blk_frozen BK124.out 2
      have hns16_0 := NB123_124.out
      have hns16_2 := NB125_124.out
      have hms16_0 := NB124_123.out
      have hms16_2 := NB124_125.out
      have hs17 : w13.cell? ⟨gb124, 3, none⟩ = some (.int .i64 0) := (blk_cell BK124.out 3).trans rfl
      have hfs17 := blk_frozen BK124.out 3
      have hns17_0 := NB123_124.out
      have hns17_2 := NB125_124.out
      have hms17_0 := NB124_123.out
      have hms17_2 := NB124_125.out
      have hs18 : w13.cell? ⟨gb124, 4, none⟩ = some (.int .i64 0) := (blk_cell BK124.out 4).trans rfl
      have hfs18 := blk_frozen BK124.out 4
      have hns18_0 := NB123_124.out
      have hns18_2 := NB125_124.out
      have hms18_0 := NB124_123.out
      have hms18_2 := NB124_125.out
      have hs19 : w13.cell? ⟨gb124, 5, none⟩ = some (.int .i64 0) := (blk_cell BK124.out 5).trans rfl
      have hfs19 := blk_frozen BK124.out 5
      have hns19_0 := NB123_124.out
      have hns19_2 := NB125_124.out
      have hms19_0 := NB124_123.out
      have hms19_2 := NB124_125.out
      refine skip_ (w1 := ?_) (by rfl) rfl ?_ ?_
      rotate_left
      · go_simp
        rfl
      refine hK.out _ _ ⟨((cell_far (p := ⟨gb124, _, none⟩) NB125_124.out _).trans (((cell_far (p := ⟨gb124, _, none⟩) NB125_124.out _).trans (((cell_far (p := ⟨gb124, _, none⟩) NB125_124.out _).trans (((cell_far (p := ⟨gb124, _, none⟩) NB125_124.out _).trans (((cell_far (p := ⟨gb124, _, none⟩) NB125_124.out _).trans (((cell_far (p := ⟨gb124, _, none⟩) NB125_124.out _).trans (hHeld.1)))))))))))), ((cell_far (p := ⟨gb124, _, none⟩) NB125_124.out _).trans (((cell_far (p := ⟨gb124, _, none⟩) NB125_124.out _).trans (((cell_far (p := ⟨gb124, _, none⟩) NB125_124.out _).trans (((cell_far (p := ⟨gb124, _, none⟩) NB125_124.out _).trans (((cell_far (p := ⟨gb124, _, none⟩) NB125_124.out _).trans (((cell_far (p := ⟨gb124, _, none⟩) NB125_124.out _).trans (hHeld.2.1)))))))))))), ((cell_far (p := ⟨gb124, _, none⟩) NB125_124.out _).trans (((cell_far (p := ⟨gb124, _, none⟩) NB125_124.out _).trans (((cell_far (p := ⟨gb124, _, none⟩) NB125_124.out _).trans (((cell_far (p := ⟨gb124, _, none⟩) NB125_124.out _).trans (((cell_far (p := ⟨gb124, _, none⟩) NB125_124.out _).trans (((cell_far (p := ⟨gb124, _, none⟩) NB125_124.out _).trans (hHeld.2.2.1)))))))))))), ((cell_far (p := ⟨gb124, _, none⟩) NB125_124.out _).trans (((cell_far (p := ⟨gb124, _, none⟩) NB125_124.out _).trans (((cell_far (p := ⟨gb124, _, none⟩) NB125_124.out _).trans (((cell_far (p := ⟨gb124, _, none⟩) NB125_124.out _).trans (((cell_far (p := ⟨gb124, _, none⟩) NB125_124.out _).trans (((cell_far (p := ⟨gb124, _, none⟩) NB125_124.out _).trans (hHeld.2.2.2.1)))))))))))), ((cell_far (p := ⟨gb124, _, none⟩) NB125_124.out _).trans (((cell_far (p := ⟨gb124, _, none⟩) NB125_124.out _).trans (((cell_far (p := ⟨gb124, _, none⟩) NB125_124.out _).trans (((cell_far (p := ⟨gb124, _, none⟩) NB125_124.out _).trans (((cell_far (p := ⟨gb124, _, none⟩) NB125_124.out _).trans (((cell_far (p := ⟨gb124, _, none⟩) NB125_124.out _).trans (hHeld.2.2.2.2.1)))))))))))), ((cell_far (p := ⟨gb124, _, none⟩) NB125_124.out _).trans (((cell_far (p := ⟨gb124, _, none⟩) NB125_124.out _).trans (((cell_far (p := ⟨gb124, _, none⟩) NB125_124.out _).trans (((cell_far (p := ⟨gb124, _, none⟩) NB125_124.out _).trans (((cell_far (p := ⟨gb124, _, none⟩) NB125_124.out _).trans (((cell_far (p := ⟨gb124, _, none⟩) NB125_124.out _).trans (hHeld.2.2.2.2.2))))))))))))⟩ (fun hHeld => ?_)
      clear hK K
      refine pure_ (i := 3) (N := some 6) (v := ?_) (a' := ?_) #[true, true, true, true] rfl rfl (by kernel_rfl) (fun _ _ _ h => h) (Or.inl ⟨by rfl, ?_⟩) ?_ ?_
      rotate_left
      · intro w'
        go_simp
        with_reducible rfl
      rotate_left
      · simp only [Act.put, List.setIfInBounds_toArray, List.set_cons_zero, List.set_cons_succ, i64_w, i32_w]
        rfl
      refine done_ (by kernel_rfl) ?_
      try go_wp2
      refine bodyPost_ret (results_list (rs := [.tmp 4, .cell 5 30, .tmp 6]) rfl (by simp) (.tmp (.cell gb124 30 #[.int .i64 0, .int .i64 0, .int .i64 0, .int .i64 0, .int .i64 0, .int .i64 0] (0, 0) _ rfl (by (with_reducible repeat (first | refine blk_drewN ?_ _ | refine blk_drew ?_ | refine blk_alloc ?_ _)); refine blk_put (cs := #[.int .i64 0, .int .i64 0, .int .i64 0, .int .i64 0, .int .i64 0, .int .i64 0]) ?_ 5 _ rfl; (with_reducible repeat (first | refine blk_drewN ?_ _ | refine blk_drew ?_ | refine blk_alloc ?_ _)); refine blk_put (cs := #[.int .i64 0, .int .i64 0, .int .i64 0, .int .i64 0, .int .i64 0, .int .i64 0]) ?_ 4 _ rfl; (with_reducible repeat (first | refine blk_drewN ?_ _ | refine blk_drew ?_ | refine blk_alloc ?_ _)); refine blk_put (cs := #[.int .i64 0, .int .i64 0, .int .i64 0, .int .i64 0, .int .i64 0, .int .i64 0]) ?_ 3 _ rfl; (with_reducible repeat (first | refine blk_drewN ?_ _ | refine blk_drew ?_ | refine blk_alloc ?_ _)); refine blk_put (cs := #[.int .i64 0, .int .i64 0, .int .i64 0, .int .i64 0, .int .i64 0, .int .i64 0]) ?_ 2 _ rfl; (with_reducible repeat (first | refine blk_drewN ?_ _ | refine blk_drew ?_ | refine blk_alloc ?_ _)); refine blk_put (cs := #[.int .i64 0, .int .i64 0, .int .i64 0, .int .i64 0, .int .i64 0, .int .i64 0]) ?_ 1 _ rfl; (with_reducible repeat (first | refine blk_drewN ?_ _ | refine blk_drew ?_ | refine blk_alloc ?_ _)); refine blk_put (cs := #[.int .i64 0, .int .i64 0, .int .i64 0, .int .i64 0, .int .i64 0, .int .i64 0]) ?_ 0 _ rfl; (with_reducible repeat (first | refine blk_drewN ?_ _ | refine blk_drew ?_ | refine blk_alloc ?_ _)); exact BK124.out) Try.underlying30 rfl (by kernel_rfl) (.tmp .nil)))) rfl ?_
      exact ⟨_, by first | rfl | (simp [errW_none, errW_some] <;> rfl) | (simp [*, errW_none, errW_some] <;> rfl), by first | exact Kd.R_nil _ _ _ _ _ | exact Kd.N_nil _ _ _ _ _ | exact Kd.V_nil _ _ _ _ _ | exact Kd.Q_nil _ _ _ _ _ | exact Kd.S_nil _ _ _ _ _, by repeat (first | (with_reducible first | exact HB.out | apply below_alloc | apply pw_below_drewN | apply below_drew1 | refine below_set ?_ GE123.out | refine below_set ?_ GE124.out | refine below_set ?_ GE125.out) | exact HB.out)⟩
    · rw [if_neg c5] at H
      have c5b0 : decide (65536 < (l0.length : Int)) = false := decide_eq_false c5
      have c5b1 : decide (65536 < l0.length) = false := decide_eq_false (by omega)
      clear c5
      by_cases c20 : 0 ≤ (l0.length : Int)
      · rw [if_pos c20] at H
        have c20b0 := eq_true c20
        have c20b1 : decide (0 ≤ (l0.length : Int)) = true := decide_eq_true c20
        clear c20
        by_cases c21 : ((l0.length : Int) : Int).toNat ≤ 35184372088832
        · rw [if_pos c21] at H
          have c21b0 := eq_true c21
          have c21b1 : decide (((l0.length : Int) : Int).toNat ≤ 35184372088832) = true := decide_eq_true c21
          clear c21
          obtain ⟨y127, hy127⟩ : ∃ y_ : List Nat, y_ = (List.replicate 0 (0 : Nat)) := ⟨_, rfl⟩
          replace H : (policy_Sift.l0 k l0 y127 (l0.length : Int) 0 a1_0 a1_1 0 0 0 0 0 0) = some (r1, r2, r3, r4, r5, r6, r7, r8) := by first | (rw [hy127]; with_reducible exact H) | (have H2_ := (Option.bind_some _ _).symm.trans H; rw [hy127]; with_reducible exact H2_) | (have H2_ := (Option.bind_some _ _).symm.trans H; with_reducible exact H2_) | with_reducible exact H | (rw [hy127]; exact H) | exact H
          have Ny127 := Aside0.mk hy127
          clear hy127
          have H' := Aside0.mk H
          clear H
          go_enter Try.func12, Try.ntmps12
          go_wp2_with (first | ((with_reducible refine gate_dst (N := 3) rfl ?_); refine box_event ?hg (N := 3) ?hd (cs := #[.int .i64 a1_0, .int .i64 a1_1]) (t := 23) ?hr ?_; (case hd => rfl); (case hg => rfl); (case hr => first | (go_simp; done) | (go_simp; rfl)); intro gb123 hg w22 hbox hb; have n0_ := bs_ HB hb; have n1_ := Aside0.mk (hbox); have n2_ := ge_ HB hg; have n3_ := ge_ HB hg; clear HB; have HB := n0_; have BK123 := n1_; have GW123 := n2_; have GE123 := n3_; clear n0_ n1_ n2_ n3_; clear hb hbox hg) | ((with_reducible refine gate_dst (N := 5) rfl ?_); refine box_event ?hg (N := 5) ?hd (cs := #[.int .i64 0, .int .i64 0, .int .i64 0, .int .i64 0, .int .i64 0, .int .i64 0]) (t := 30) ?hr ?_; (case hd => rfl); (case hg => rfl); (case hr => first | (go_simp; done) | (go_simp; rfl)); intro gb124 hg w23 hbox hb; have n0_ := kb_ BK123 hb; have n1_ := bs_ HB hb; have n2_ := Aside0.mk (hbox); have n3_ := ge_ HB hg; have n4_ := ge_ HB hg; have n5_ := nlt_ BK123 hg; have n6_ := ngt_ BK123 hg; clear BK123; clear HB; have BK123 := n0_; have HB := n1_; have BK124 := n2_; have GW124 := n3_; have GE124 := n4_; have NB123_124 := n5_; have NB124_123 := n6_; clear n0_ n1_ n2_ n3_ n4_ n5_ n6_; clear hb hbox hg) | ((with_reducible refine gate_dst (N := 7) rfl ?_); refine box_event ?hg (N := 7) ?hd (cs := #[.int .i64 0, .int .i64 0, .int .i64 0, .int .i64 0, .int .i64 0, .int .i64 0]) (t := 30) ?hr ?_; (case hd => rfl); (case hg => rfl); (case hr => first | (go_simp; done) | (go_simp; rfl)); intro gb125 hg w24 hbox hb; have n0_ := kb_ BK123 hb; have n1_ := kb_ BK124 hb; have n2_ := bs_ HB hb; have n3_ := Aside0.mk (hbox); have n4_ := ge_ HB hg; have n5_ := ge_ HB hg; have n6_ := nlt_ BK123 hg; have n7_ := ngt_ BK123 hg; have n8_ := nlt_ BK124 hg; have n9_ := ngt_ BK124 hg; clear BK123; clear BK124; clear HB; have BK123 := n0_; have BK124 := n1_; have HB := n2_; have BK125 := n3_; have GW125 := n4_; have GE125 := n5_; have NB123_125 := n6_; have NB125_123 := n7_; have NB124_125 := n8_; have NB125_124 := n9_; clear n0_ n1_ n2_ n3_ n4_ n5_ n6_ n7_ n8_ n9_; clear hb hbox hg; have hnb25 := NB123_124.out; have hnc25 := NB124_123.out; have hnb26 := NB123_125.out; have hnc26 := NB125_123.out; have hcz27_0 : w24.cell? ⟨gb123, 0, none⟩ = some (.int .i64 a1_0) := (blk_cell BK123.out 0).trans rfl; have hcz27_1 : w24.cell? ⟨gb123, 1, none⟩ = some (.int .i64 a1_1) := (blk_cell BK123.out 1).trans rfl; have hfz27_0 := blk_frozen BK123.out 0; have hfz27_1 := blk_frozen BK123.out 1) | ((with_reducible refine gate_callee (f := 8) rfl ?_); refine goesL_ (some 13) rfl rfl Try.func8 (by kernel_rfl) rfl #[.agg #[.int .i64 a1_0, .int .i64 a1_1]] rfl (by (try simp only [List.map_toArray, List.map_cons, List.map_nil]); first | done | rfl | (simp only [List.length_drop, List.length_take]; rfl)) ?_; (with_reducible refine (policy_May.calls a1_0 a1_1 true _ A3.out).mono ?_); rintro e w28 ⟨rfl, hb⟩; refine ⟨_, rfl, ?_⟩; have n0_ := kb_ BK123 hb; have n1_ := kb_ BK124 hb; have n2_ := kb_ BK125 hb; have n3_ := bs_ HB hb; clear BK123; clear BK124; clear BK125; clear HB; have BK123 := n0_; have BK124 := n1_; have BK125 := n2_; have HB := n3_; clear n0_ n1_ n2_ n3_; (try clear hb); (try clear hb2); (try clear hk); (try clear hi)) | ((with_reducible refine gate_dst (N := 23) rfl ?_); refine Kd.R_makec (Kd.float .f64) _ 41 rfl (N := 23) rfl 27 _ _ rfl 0 (l0.length : Int) rfl rfl Try.underlying27 (.float .f64 0) 8 info41 rfl (by decide) (by omega) (0 : Nat) (ok := fun _ => True) (okp := fun _ => True) rfl (fun _ hk => hk) trivial (by omega) (of_decide_eq_true (by first | (with_reducible assumption) | assumption)) (Nat.le_trans (Nat.mul_le_mul_right _ (of_decide_eq_true (by first | (with_reducible assumption) | assumption) : ((l0.length : Int) : Int).toNat ≤ 35184372088832)) (by omega)) (Below.refl _ _) (Nat.le_refl _) ?_; intro v128 w29 ho30 hb hg_ hnew_; clear hg_ hnew_; (first | rw [← Ny127.out] at ho30 | (simp only [Int.reduceToNat] at ho30; rw [← Ny127.out] at ho30)); have n0_ := Aside0.mk (Kd.R_lower ho30 (below_size (bl_ HB))); have n1_ := kb_ BK123 hb; have n2_ := kb_ BK124 hb; have n3_ := kb_ BK125 hb; have n4_ := bs_ HB hb; clear BK123; clear BK124; clear BK125; clear HB; have HO129 := n0_; have BK123 := n1_; have BK124 := n2_; have BK125 := n3_; have HB := n4_; clear n0_ n1_ n2_ n3_ n4_; clear hb ho30))
          go_loopg [8, 26] k (fun kq v8 v26 w' => ∃ (x8_1 : List Nat) (x26_1 : Int) (x126000_1 : Int) (x126001_1 : Int) (x126002_1 : Int) (x126003_1 : Int) (x126004_1 : Int) (x126005_1 : Int), v26 = .int .i64 x26_1 ∧ Aside0 (policy_Sift.l0 kq l0 x8_1 (l0.length : Int) x26_1 a1_0 a1_1 x126000_1 x126001_1 x126002_1 x126003_1 x126004_1 x126005_1 = some (r1, r2, r3, r4, r5, r6, r7, r8)) ∧ Aside0 (kq ≤ k) ∧ Aside0 (Kd.R (Kd.float .f64) 41 w' w.heap.size (fun _ => True) v8 x8_1) ∧ Aside0 (w'.heap[gb123]? = some (.cells #[.int .i64 a1_0, .int .i64 a1_1] 23 (0, 0))) ∧ Aside0 (w'.heap[gb124]? = some (.cells #[.int .i64 0, .int .i64 0, .int .i64 0, .int .i64 0, .int .i64 0, .int .i64 0] 30 (0, 0))) ∧ Aside0 (w'.heap[gb125]? = some (.cells #[.int .i64 x126000_1, .int .i64 x126001_1, .int .i64 x126002_1, .int .i64 x126003_1, .int .i64 x126004_1, .int .i64 x126005_1] 30 (0, 0))) ∧ Aside0 (Below w.heap.size w w'))
          case atStart => exact ⟨(y127), (0), (0), (0), (0), (0), (0), (0), (by first | rfl | (simp; done) | (simp [*]; done)), H', ⟨Nat.le_refl _⟩, ⟨by (with_reducible repeat (first | apply Kd.R_alloc | apply Kd.R_drewN | apply Kd.R_drew)); exact HO129.out⟩, ⟨by (with_reducible repeat (first | refine blk_drewN ?_ _ | refine blk_drew ?_ | refine blk_alloc ?_ _)); exact BK123.out⟩, ⟨by (with_reducible repeat (first | refine blk_drewN ?_ _ | refine blk_drew ?_ | refine blk_alloc ?_ _)); exact BK124.out⟩, ⟨by (with_reducible repeat (first | refine blk_drewN ?_ _ | refine blk_drew ?_ | refine blk_alloc ?_ _)); exact BK125.out⟩, ⟨by repeat (first | (with_reducible first | exact HB.out | apply below_alloc | apply pw_below_drewN | apply below_drew1 | refine below_set ?_ GE123.out | refine below_set ?_ GE124.out | refine below_set ?_ GE125.out) | exact HB.out)⟩⟩
          case round =>
            clear H'
            try clear c1
            try clear c2
            try clear p2
            try clear c4
            try clear c5
            try clear c5b0
            try clear c5b1
            try clear c8
            try clear c9
            try clear c10
            try clear c12
            try clear c20
            try clear c20b0
            try clear c20b1
            try clear c21
            try clear c21b0
            try clear c21b1
            try clear c25
            try clear c26
            try clear hcz11_0
            try clear hcz11_1
            try clear hcz27_0
            try clear hcz27_1
            try clear hfz11_0
            try clear hfz11_1
            try clear hfz27_0
            try clear hfz27_1
            obtain ⟨x8_1, x26_1, x126000_1, x126001_1, x126002_1, x126003_1, x126004_1, x126005_1, rfl, HA, HK1, HO_8, BK123, BK124, BK125, HB⟩ := hrel
            cases gk with
            | zero => exact absurd HA.out (by simp [policy_Sift.l0])
            | succ k1 =>
              have H := HA.out
              clear HA
              simp only [policy_Sift.l0] at H
              by_cases c31 : x26_1 < (l0.length : Int)
              · rw [if_pos c31] at H
                have c31b0 : decide (x26_1 < (l0.length : Int)) = true := decide_eq_true c31
                clear c31
                by_cases c32 : 0 ≤ x26_1
                · rw [if_pos c32] at H
                  have c32b0 : decide (0 ≤ x26_1) = true := decide_eq_true c32
                  clear c32
                  by_cases c33 : x26_1 < (l0.length : Int)
                  · rw [if_pos c33] at H
                    have c33b0 : decide (x26_1 < (l0.length : Int)) = true := decide_eq_true c33
                    clear c33
                    replace H := Option.bind_eq_some_iff.mp H
                    obtain ⟨t131, A340, H⟩ := H
                    replace H : ((policy_count.f x126000_1 x126001_1 x126002_1 x126003_1 x126004_1 x126005_1 t131).bind fun bt132 => (if t131 ≤ 2 then (if x8_1.length < 17592186044416 then (policy_Sift.l0 k1 l0 (x8_1 ++ [rdOf (0 : Nat) l0 x26_1]) (l0.length : Int) (wrap64 (x26_1 + 1)) a1_0 a1_1 bt132.1 bt132.2.1 bt132.2.2.1 bt132.2.2.2.1 bt132.2.2.2.2.1 bt132.2.2.2.2.2) else (none)) else (policy_Sift.l0 k1 l0 x8_1 (l0.length : Int) (wrap64 (x26_1 + 1)) a1_0 a1_1 bt132.1 bt132.2.1 bt132.2.2.1 bt132.2.2.2.1 bt132.2.2.2.2.1 bt132.2.2.2.2.2))) = some (r1, r2, r3, r4, r5, r6, r7, r8) := H
                    have A34 := Aside0.mk A340
                    clear A340
                    replace H := Option.bind_eq_some_iff.mp H
                    obtain ⟨⟨t132, t133, t134, t135, t136, t137⟩, A350, H⟩ := H
                    replace H : (if t131 ≤ 2 then (if x8_1.length < 17592186044416 then (policy_Sift.l0 k1 l0 (x8_1 ++ [rdOf (0 : Nat) l0 x26_1]) (l0.length : Int) (wrap64 (x26_1 + 1)) a1_0 a1_1 t132 t133 t134 t135 t136 t137) else (none)) else (policy_Sift.l0 k1 l0 x8_1 (l0.length : Int) (wrap64 (x26_1 + 1)) a1_0 a1_1 t132 t133 t134 t135 t136 t137)) = some (r1, r2, r3, r4, r5, r6, r7, r8) := H
                    have A35 := Aside0.mk A350
                    clear A350
                    by_cases c36 : t131 ≤ 2
                    · rw [if_pos c36] at H
                      have c36b0 : decide (t131 ≤ 2) = true := decide_eq_true c36
                      clear c36
                      by_cases c37 : x8_1.length < 17592186044416
                      · rw [if_pos c37] at H
                        have LMc37 := Aside0.mk c37
                        clear c37
                        obtain ⟨y139, hy139⟩ : ∃ y_ : List Nat, y_ = (x8_1 ++ [rdOf (0 : Nat) l0 x26_1]) := ⟨_, rfl⟩
                        replace H : (policy_Sift.l0 k1 l0 y139 (l0.length : Int) (wrap64 (x26_1 + 1)) a1_0 a1_1 t132 t133 t134 t135 t136 t137) = some (r1, r2, r3, r4, r5, r6, r7, r8) := by first | (rw [hy139]; with_reducible exact H) | (have H2_ := (Option.bind_some _ _).symm.trans H; rw [hy139]; with_reducible exact H2_) | (have H2_ := (Option.bind_some _ _).symm.trans H; with_reducible exact H2_) | with_reducible exact H | (rw [hy139]; exact H) | exact H
                        have Ny139 := Aside0.mk hy139
                        clear hy139
                        have H' := Aside0.mk H
                        clear H
                        have p130 : 0 ≤ (x26_1 : Int) := of_decide_eq_true (by first | (with_reducible assumption) | assumption)
                        have q130 : x26_1 < (l0.length : Int) := of_decide_eq_true (by first | (with_reducible assumption) | assumption)
                        obtain ⟨ad130, e130, hx130_0⟩ := Kd.at_float HR0.out x26_1 p130 q130
                        cases e130
                        replace hx130_0 := (HB.out.cell (World.block_lt_of_cell? w _ hx130_0)).trans hx130_0
                        replace p130 := eq_true p130
                        replace q130 := eq_true q130
                        go_wp2_with (first | ((with_reducible refine gate_callee (f := 28) rfl ?_); refine goesL_ (some 33) rfl rfl Try.func28 (by kernel_rfl) rfl #[.float .f64 (rdOf (0 : Nat) l0 x26_1)] rfl (by (try simp only [List.map_toArray, List.map_cons, List.map_nil]); first | done | rfl | (simp only [List.length_drop, List.length_take]; rfl)) ?_; (with_reducible refine (policy_kind.calls k1 (rdOf (0 : Nat) l0 x26_1) t131 _ A34.out).mono ?_); rintro e w38 ⟨rfl, hb⟩; refine ⟨_, rfl, ?_⟩; have n0_ := Aside0.mk (Kd.R_below (by (with_reducible repeat (first | apply Kd.R_alloc | apply Kd.R_drewN | apply Kd.R_drew)); exact HO_8.out) hb); have n1_ := kb_ BK123 hb; have n2_ := kb_ BK124 hb; have n3_ := kb_ BK125 hb; have n4_ := bs_ HB hb; clear HO_8; clear BK123; clear BK124; clear BK125; clear HB; have HO_8 := n0_; have BK123 := n1_; have BK124 := n2_; have BK125 := n3_; have HB := n4_; clear n0_ n1_ n2_ n3_ n4_; (try clear hb); (try clear hb2); (try clear hk); (try clear hi)) | ((with_reducible refine gate_callee (f := 29) rfl ?_); refine goesL_ (some 35) rfl rfl Try.func29 (by kernel_rfl) rfl #[.pointer (some ⟨gb125, 0, none⟩), .int .i64 t131] rfl (by (try simp only [List.map_toArray, List.map_cons, List.map_nil]); first | done | rfl | (simp only [List.length_drop, List.length_take]; rfl)) ?_; (with_reducible refine (policy_count.calls gb125 x126000_1 x126001_1 x126002_1 x126003_1 x126004_1 x126005_1 t131 t132 t133 t134 t135 t136 t137 w _ ?side1 ?side2 A35.out).mono ?_); (case side1 => exact ⟨by (with_reducible repeat (first | refine blk_drewN ?_ _ | refine blk_drew ?_ | refine blk_alloc ?_ _)); exact BK125.out, GE125.out⟩); (case side2 => repeat (first | (with_reducible first | exact HB.out | apply below_alloc | apply pw_below_drewN | apply below_drew1 | refine below_set ?_ (IsS30.ge HI125.out) | refine below_set ?_ GE123.out | refine below_set ?_ GE124.out) | exact HB.out)); rintro e w39 ⟨rfl, hi, hb, hk⟩; refine ⟨_, rfl, ?_⟩; have n0_ := Aside0.mk (Kd.R_mono (Kd.R_keep (IsS30.apart (show IsS30 w _ gb125 x126000_1 x126001_1 x126002_1 x126003_1 x126004_1 x126005_1 from by exact ⟨by (with_reducible repeat (first | refine blk_drewN ?_ _ | refine blk_drew ?_ | refine blk_alloc ?_ _)); exact BK125.out, GE125.out⟩) (by (with_reducible repeat (first | apply Kd.R_alloc | apply Kd.R_drewN | apply Kd.R_drew)); exact HO_8.out) (by decide)) hk (fun _ h => h.2)) (fun _ h => h.1)); have n1_ := Aside0.mk (KeepBut.blk hk (g' := gb123) (o := .cells #[.int .i64 a1_0, .int .i64 a1_1] 23 (0, 0)) (bk_ BK123) NB123_125.out (by simp)); have n2_ := Aside0.mk (KeepBut.blk hk (g' := gb124) (o := .cells #[.int .i64 0, .int .i64 0, .int .i64 0, .int .i64 0, .int .i64 0, .int .i64 0] 30 (0, 0)) (bk_ BK124) NB124_125.out (by simp)); have n3_ := Aside0.mk (hb); have n4_ := Aside0.mk (hi.1); clear HO_8; clear BK123; clear BK124; clear HB; clear BK125; have HO_8 := n0_; have BK123 := n1_; have BK124 := n2_; have HB := n3_; have BK125 := n4_; clear n0_ n1_ n2_ n3_ n4_; (try clear hb); (try clear hb2); (try clear hk); (try clear hi); have p138 : 0 ≤ (x26_1 : Int) := of_decide_eq_true (by first | (with_reducible assumption) | assumption); have q138 : x26_1 < (l0.length : Int) := of_decide_eq_true (by first | (with_reducible assumption) | assumption); obtain ⟨ad138, e138, hx138_0⟩ := Kd.at_float HR0.out x26_1 p138 q138; obtain rfl : ad130 = ad138 := (by injection e138); replace hx138_0 := (HB.out.cell (World.block_lt_of_cell? w _ hx138_0)).trans hx138_0; replace p138 := eq_true p138; replace q138 := eq_true q138) | ((with_reducible refine gate_builtin (b := .append) (xs := #[.tmp 38, .tmp 43]) rfl ?_); at_builtin; refine Kd.R_append (Kd.float .f64) (w0 := w) w.heap.size rfl (.tmp 38) (.tmp 43) 27 41 (.float .f64 0) 8 rfl Try.underlying27 info41 rfl (by decide) (by omega) u8 x8_1 (rdOf (0 : Nat) l0 x26_1) [.float .f64 (rdOf (0 : Nat) l0 x26_1)] (fun _ => True) (fun _ => False) rfl rfl ?aP (fun _ hk => hk.elim) ?aF ?aO ?aB ?aS ?aL ?_; (case aP => exact rfl); (case aB => exact (bl_ HB)); (case aF => exact (fun _ _ => trivial)); (case aO => exact (by (with_reducible repeat (first | apply Kd.R_alloc | apply Kd.R_drewN | apply Kd.R_drew)); exact HO_8.out)); (case aS => exact (below_size (bl_ HB))); (case aL => have := LMc37.out; omega); intro v140 w40 ho hb hg hat; rw [← Ny139.out] at ho; have n0_ := Aside0.mk (blk_grown (g := gb123) (o := .cells #[.int .i64 a1_0, .int .i64 a1_1] 23 (0, 0)) (bk_ BK123) hg (Kd.R_ne HO_8.out BK123.out (by decide))); have n1_ := Aside0.mk (blk_grown (g := gb124) (o := .cells #[.int .i64 0, .int .i64 0, .int .i64 0, .int .i64 0, .int .i64 0, .int .i64 0] 30 (0, 0)) (bk_ BK124) hg (Kd.R_ne HO_8.out BK124.out (by decide))); have n2_ := Aside0.mk (blk_grown (g := gb125) (o := .cells #[.int .i64 t132, .int .i64 t133, .int .i64 t134, .int .i64 t135, .int .i64 t136, .int .i64 t137] 30 (0, 0)) (bk_ BK125) hg (Kd.R_ne HO_8.out BK125.out (by decide))); have n3_ := Aside0.mk (hb); have n4_ := Aside0.mk (ho); clear BK123; clear BK124; clear BK125; clear HB; clear HO_8; have BK123 := n0_; have BK124 := n1_; have BK125 := n2_; have HB := n3_; have HO141 := n4_; clear n0_ n1_ n2_ n3_ n4_; clear ho hb hg hat))
                        go_roundg k1
                        case measure => have := HK1.out; omega
                        case rel => exact ⟨(y139), (wrap64 (x26_1 + 1)), (t132), (t133), (t134), (t135), (t136), (t137), (by first | rfl | (simp; done) | (simp [*]; done)), H', ⟨by have := HK1.out; omega⟩, ⟨by (with_reducible repeat (first | apply Kd.R_alloc | apply Kd.R_drewN | apply Kd.R_drew)); exact HO141.out⟩, ⟨by (with_reducible repeat (first | refine blk_drewN ?_ _ | refine blk_drew ?_ | refine blk_alloc ?_ _)); exact BK123.out⟩, ⟨by (with_reducible repeat (first | refine blk_drewN ?_ _ | refine blk_drew ?_ | refine blk_alloc ?_ _)); exact BK124.out⟩, ⟨by (with_reducible repeat (first | refine blk_drewN ?_ _ | refine blk_drew ?_ | refine blk_alloc ?_ _)); exact BK125.out⟩, ⟨by repeat (first | (with_reducible first | exact HB.out | apply below_alloc | apply pw_below_drewN | apply below_drew1 | refine below_set ?_ GE123.out | refine below_set ?_ GE124.out | refine below_set ?_ GE125.out) | exact HB.out)⟩⟩
                      · rw [if_neg c37] at H
                        exact absurd H (by simp)
                    · rw [if_neg c36] at H
                      have c36b0 : decide (t131 ≤ 2) = false := decide_eq_false c36
                      clear c36
                      have H' := Aside0.mk H
                      clear H
                      have p130 : 0 ≤ (x26_1 : Int) := of_decide_eq_true (by first | (with_reducible assumption) | assumption)
                      have q130 : x26_1 < (l0.length : Int) := of_decide_eq_true (by first | (with_reducible assumption) | assumption)
                      obtain ⟨ad130, e130, hx130_0⟩ := Kd.at_float HR0.out x26_1 p130 q130
                      cases e130
                      replace hx130_0 := (HB.out.cell (World.block_lt_of_cell? w _ hx130_0)).trans hx130_0
                      replace p130 := eq_true p130
                      replace q130 := eq_true q130
                      go_wp2_with (first | ((with_reducible refine gate_callee (f := 28) rfl ?_); refine goesL_ (some 33) rfl rfl Try.func28 (by kernel_rfl) rfl #[.float .f64 (rdOf (0 : Nat) l0 x26_1)] rfl (by (try simp only [List.map_toArray, List.map_cons, List.map_nil]); first | done | rfl | (simp only [List.length_drop, List.length_take]; rfl)) ?_; (with_reducible refine (policy_kind.calls k1 (rdOf (0 : Nat) l0 x26_1) t131 _ A34.out).mono ?_); rintro e w41 ⟨rfl, hb⟩; refine ⟨_, rfl, ?_⟩; have n0_ := Aside0.mk (Kd.R_below (by (with_reducible repeat (first | apply Kd.R_alloc | apply Kd.R_drewN | apply Kd.R_drew)); exact HO_8.out) hb); have n1_ := kb_ BK123 hb; have n2_ := kb_ BK124 hb; have n3_ := kb_ BK125 hb; have n4_ := bs_ HB hb; clear HO_8; clear BK123; clear BK124; clear BK125; clear HB; have HO_8 := n0_; have BK123 := n1_; have BK124 := n2_; have BK125 := n3_; have HB := n4_; clear n0_ n1_ n2_ n3_ n4_; (try clear hb); (try clear hb2); (try clear hk); (try clear hi)) | ((with_reducible refine gate_callee (f := 29) rfl ?_); refine goesL_ (some 35) rfl rfl Try.func29 (by kernel_rfl) rfl #[.pointer (some ⟨gb125, 0, none⟩), .int .i64 t131] rfl (by (try simp only [List.map_toArray, List.map_cons, List.map_nil]); first | done | rfl | (simp only [List.length_drop, List.length_take]; rfl)) ?_; (with_reducible refine (policy_count.calls gb125 x126000_1 x126001_1 x126002_1 x126003_1 x126004_1 x126005_1 t131 t132 t133 t134 t135 t136 t137 w _ ?side1 ?side2 A35.out).mono ?_); (case side1 => exact ⟨by (with_reducible repeat (first | refine blk_drewN ?_ _ | refine blk_drew ?_ | refine blk_alloc ?_ _)); exact BK125.out, GE125.out⟩); (case side2 => repeat (first | (with_reducible first | exact HB.out | apply below_alloc | apply pw_below_drewN | apply below_drew1 | refine below_set ?_ (IsS30.ge HI125.out) | refine below_set ?_ GE123.out | refine below_set ?_ GE124.out) | exact HB.out)); rintro e w42 ⟨rfl, hi, hb, hk⟩; refine ⟨_, rfl, ?_⟩; have n0_ := Aside0.mk (Kd.R_mono (Kd.R_keep (IsS30.apart (show IsS30 w _ gb125 x126000_1 x126001_1 x126002_1 x126003_1 x126004_1 x126005_1 from by exact ⟨by (with_reducible repeat (first | refine blk_drewN ?_ _ | refine blk_drew ?_ | refine blk_alloc ?_ _)); exact BK125.out, GE125.out⟩) (by (with_reducible repeat (first | apply Kd.R_alloc | apply Kd.R_drewN | apply Kd.R_drew)); exact HO_8.out) (by decide)) hk (fun _ h => h.2)) (fun _ h => h.1)); have n1_ := Aside0.mk (KeepBut.blk hk (g' := gb123) (o := .cells #[.int .i64 a1_0, .int .i64 a1_1] 23 (0, 0)) (bk_ BK123) NB123_125.out (by simp)); have n2_ := Aside0.mk (KeepBut.blk hk (g' := gb124) (o := .cells #[.int .i64 0, .int .i64 0, .int .i64 0, .int .i64 0, .int .i64 0, .int .i64 0] 30 (0, 0)) (bk_ BK124) NB124_125.out (by simp)); have n3_ := Aside0.mk (hb); have n4_ := Aside0.mk (hi.1); clear HO_8; clear BK123; clear BK124; clear HB; clear BK125; have HO_8 := n0_; have BK123 := n1_; have BK124 := n2_; have HB := n3_; have BK125 := n4_; clear n0_ n1_ n2_ n3_ n4_; (try clear hb); (try clear hb2); (try clear hk); (try clear hi)))
                      go_roundg k1
                      case measure => have := HK1.out; omega
                      case rel => exact ⟨(x8_1), (wrap64 (x26_1 + 1)), (t132), (t133), (t134), (t135), (t136), (t137), (by first | rfl | (simp; done) | (simp [*]; done)), H', ⟨by have := HK1.out; omega⟩, ⟨by (with_reducible repeat (first | apply Kd.R_alloc | apply Kd.R_drewN | apply Kd.R_drew)); exact HO_8.out⟩, ⟨by (with_reducible repeat (first | refine blk_drewN ?_ _ | refine blk_drew ?_ | refine blk_alloc ?_ _)); exact BK123.out⟩, ⟨by (with_reducible repeat (first | refine blk_drewN ?_ _ | refine blk_drew ?_ | refine blk_alloc ?_ _)); exact BK124.out⟩, ⟨by (with_reducible repeat (first | refine blk_drewN ?_ _ | refine blk_drew ?_ | refine blk_alloc ?_ _)); exact BK125.out⟩, ⟨by repeat (first | (with_reducible first | exact HB.out | apply below_alloc | apply pw_below_drewN | apply below_drew1 | refine below_set ?_ GE123.out | refine below_set ?_ GE124.out | refine below_set ?_ GE125.out) | exact HB.out)⟩⟩
                  · rw [if_neg c33] at H
                    exact absurd H (by simp)
                · rw [if_neg c32] at H
                  exact absurd H (by simp)
              · rw [if_neg c31] at H
                have c31b0 : decide (x26_1 < (l0.length : Int)) = false := decide_eq_false c31
                clear c31
                have HC43 := Aside0.mk H
                clear H
                go_upto_region 15 with (fail)
                obtain ⟨bz44, hbz44⟩ : ∃ b_ : Bool, decide (x26_1 < (l0.length : Int)) = b_ := ⟨_, rfl⟩
                (try rw [hbz44])
                go_cut [46] (fun v46 wc => ∃ (kq : Nat) (x46_42 : Bool), v46 = .bool x46_42 ∧ Aside0 (policy_Sift.j1 kq x8_1 x46_42 a1_0 a1_1 x126000_1 x126001_1 x126002_1 x126003_1 x126004_1 x126005_1 = some (r1, r2, r3, r4, r5, r6, r7, r8)) ∧ Aside0 (kq ≤ k1) ∧ Aside0 (Kd.R (Kd.float .f64) 41 wc w.heap.size (fun _ => True) u8 x8_1) ∧ Aside0 (wc.heap[gb123]? = some (.cells #[.int .i64 a1_0, .int .i64 a1_1] 23 (0, 0))) ∧ Aside0 (wc.heap[gb124]? = some (.cells #[.int .i64 0, .int .i64 0, .int .i64 0, .int .i64 0, .int .i64 0, .int .i64 0] 30 (0, 0))) ∧ Aside0 (wc.heap[gb125]? = some (.cells #[.int .i64 x126000_1, .int .i64 x126001_1, .int .i64 x126002_1, .int .i64 x126003_1, .int .i64 x126004_1, .int .i64 x126005_1] 30 (0, 0))) ∧ Aside0 (Below w.heap.size w wc))
                case first =>
                  have H := HC43.out
                  clear HC43
                  by_cases c45 : x126000_1 > 0
                  · rw [if_pos c45] at H
                    have c45b0 : decide (0 < x126000_1) = true := decide_eq_true c45
                    clear c45
                    (first | rw [c45b0] | (simp only [i64_w, i32_w]; rw [c45b0]) | skip)
                    have H' := Aside0.mk H
                    clear H
                    have hnb46 := NB125_123.out
                    have hnc46 := NB123_125.out
                    have hnb47 := NB125_124.out
                    have hnc47 := NB124_125.out
                    have hcz48_0 : wr.cell? ⟨gb125, 0, none⟩ = some (.int .i64 x126000_1) := (blk_cell BK125.out 0).trans rfl
                    have hcz48_1 : wr.cell? ⟨gb125, 1, none⟩ = some (.int .i64 x126001_1) := (blk_cell BK125.out 1).trans rfl
                    have hcz48_2 : wr.cell? ⟨gb125, 2, none⟩ = some (.int .i64 x126002_1) := (blk_cell BK125.out 2).trans rfl
                    have hcz48_3 : wr.cell? ⟨gb125, 3, none⟩ = some (.int .i64 x126003_1) := (blk_cell BK125.out 3).trans rfl
                    have hcz48_4 : wr.cell? ⟨gb125, 4, none⟩ = some (.int .i64 x126004_1) := (blk_cell BK125.out 4).trans rfl
                    have hcz48_5 : wr.cell? ⟨gb125, 5, none⟩ = some (.int .i64 x126005_1) := (blk_cell BK125.out 5).trans rfl
                    have hfz48_0 := blk_frozen BK125.out 0
                    have hfz48_1 := blk_frozen BK125.out 1
                    have hfz48_2 := blk_frozen BK125.out 2
                    have hfz48_3 := blk_frozen BK125.out 3
                    have hfz48_4 := blk_frozen BK125.out 4
                    have hfz48_5 := blk_frozen BK125.out 5
                    have hnb49 := NB123_124.out
                    have hnc49 := NB124_123.out
                    have hcz50_0 : wr.cell? ⟨gb123, 0, none⟩ = some (.int .i64 a1_0) := (blk_cell BK123.out 0).trans rfl
                    have hcz50_1 : wr.cell? ⟨gb123, 1, none⟩ = some (.int .i64 a1_1) := (blk_cell BK123.out 1).trans rfl
                    have hfz50_0 := blk_frozen BK123.out 0
                    have hfz50_1 := blk_frozen BK123.out 1
                    go_wp2
                    go_meet
                    case rel => exact ⟨_, ((a1_0 == 2)), (by first | rfl | (simp; done) | (simp [*]; done)), H', ⟨by have := HK1.out; first | omega | exact Nat.le_refl _⟩, ⟨by (with_reducible repeat (first | apply Kd.R_alloc | apply Kd.R_drewN | apply Kd.R_drew)); exact HO_8.out⟩, ⟨by (with_reducible repeat (first | refine blk_drewN ?_ _ | refine blk_drew ?_ | refine blk_alloc ?_ _)); exact BK123.out⟩, ⟨by (with_reducible repeat (first | refine blk_drewN ?_ _ | refine blk_drew ?_ | refine blk_alloc ?_ _)); exact BK124.out⟩, ⟨by (with_reducible repeat (first | refine blk_drewN ?_ _ | refine blk_drew ?_ | refine blk_alloc ?_ _)); exact BK125.out⟩, ⟨by repeat (first | (with_reducible first | exact HB.out | apply below_alloc | apply pw_below_drewN | apply below_drew1 | refine below_set ?_ GE123.out | refine below_set ?_ GE124.out | refine below_set ?_ GE125.out) | exact HB.out)⟩⟩
                  · rw [if_neg c45] at H
                    have c45b0 : decide (0 < x126000_1) = false := decide_eq_false c45
                    clear c45
                    (first | rw [c45b0] | (simp only [i64_w, i32_w]; rw [c45b0]) | skip)
                    have H' := Aside0.mk H
                    clear H
                    have hnb51 := NB125_123.out
                    have hnc51 := NB123_125.out
                    have hnb52 := NB125_124.out
                    have hnc52 := NB124_125.out
                    have hcz53_0 : wr.cell? ⟨gb125, 0, none⟩ = some (.int .i64 x126000_1) := (blk_cell BK125.out 0).trans rfl
                    have hcz53_1 : wr.cell? ⟨gb125, 1, none⟩ = some (.int .i64 x126001_1) := (blk_cell BK125.out 1).trans rfl
                    have hcz53_2 : wr.cell? ⟨gb125, 2, none⟩ = some (.int .i64 x126002_1) := (blk_cell BK125.out 2).trans rfl
                    have hcz53_3 : wr.cell? ⟨gb125, 3, none⟩ = some (.int .i64 x126003_1) := (blk_cell BK125.out 3).trans rfl
                    have hcz53_4 : wr.cell? ⟨gb125, 4, none⟩ = some (.int .i64 x126004_1) := (blk_cell BK125.out 4).trans rfl
                    have hcz53_5 : wr.cell? ⟨gb125, 5, none⟩ = some (.int .i64 x126005_1) := (blk_cell BK125.out 5).trans rfl
                    have hfz53_0 := blk_frozen BK125.out 0
                    have hfz53_1 := blk_frozen BK125.out 1
                    have hfz53_2 := blk_frozen BK125.out 2
                    have hfz53_3 := blk_frozen BK125.out 3
                    have hfz53_4 := blk_frozen BK125.out 4
                    have hfz53_5 := blk_frozen BK125.out 5
                    go_wp2
                    go_meet
                    case rel => exact ⟨_, (false), (by first | rfl | (simp; done) | (simp [*]; done)), H', ⟨by have := HK1.out; first | omega | exact Nat.le_refl _⟩, ⟨by (with_reducible repeat (first | apply Kd.R_alloc | apply Kd.R_drewN | apply Kd.R_drew)); exact HO_8.out⟩, ⟨by (with_reducible repeat (first | refine blk_drewN ?_ _ | refine blk_drew ?_ | refine blk_alloc ?_ _)); exact BK123.out⟩, ⟨by (with_reducible repeat (first | refine blk_drewN ?_ _ | refine blk_drew ?_ | refine blk_alloc ?_ _)); exact BK124.out⟩, ⟨by (with_reducible repeat (first | refine blk_drewN ?_ _ | refine blk_drew ?_ | refine blk_alloc ?_ _)); exact BK125.out⟩, ⟨by repeat (first | (with_reducible first | exact HB.out | apply below_alloc | apply pw_below_drewN | apply below_drew1 | refine below_set ?_ GE123.out | refine below_set ?_ GE124.out | refine below_set ?_ GE125.out) | exact HB.out)⟩⟩
                case rest =>
                  clear HC43
                  try clear c1
                  try clear p1
                  try clear q1
                  try clear hx1
                  try clear c2
                  try clear p2
                  try clear c3
                  try clear c4
                  try clear c5
                  try clear c5b0
                  try clear c5b1
                  try clear p6
                  try clear c8
                  try clear c9
                  try clear c10
                  try clear c12
                  try clear p13
                  try clear q13
                  try clear hx13
                  try clear c20
                  try clear c20b0
                  try clear c20b1
                  try clear c21
                  try clear c21b0
                  try clear c21b1
                  try clear c25
                  try clear c26
                  try clear c28
                  try clear c29
                  try clear c31
                  try clear c31b0
                  try clear c32
                  try clear c32b0
                  try clear c33
                  try clear c33b0
                  try clear c36
                  try clear c36b0
                  try clear c37
                  try clear c45
                  try clear c45b0
                  try clear c46
                  try clear c47
                  try clear c49
                  try clear c51
                  try clear c52
                  try clear hcz11_0
                  try clear hcz11_1
                  try clear hcz27_0
                  try clear hcz27_1
                  try clear hcz48_0
                  try clear hcz48_1
                  try clear hcz48_2
                  try clear hcz48_3
                  try clear hcz48_4
                  try clear hcz48_5
                  try clear hcz50_0
                  try clear hcz50_1
                  try clear hcz53_0
                  try clear hcz53_1
                  try clear hcz53_2
                  try clear hcz53_3
                  try clear hcz53_4
                  try clear hcz53_5
                  try clear hfz11_0
                  try clear hfz11_1
                  try clear hfz27_0
                  try clear hfz27_1
                  try clear hfz48_0
                  try clear hfz48_1
                  try clear hfz48_2
                  try clear hfz48_3
                  try clear hfz48_4
                  try clear hfz48_5
                  try clear hfz50_0
                  try clear hfz50_1
                  try clear hfz53_0
                  try clear hfz53_1
                  try clear hfz53_2
                  try clear hfz53_3
                  try clear hfz53_4
                  try clear hfz53_5
                  try clear hx130_0
                  try clear hx138_0
                  try clear p130
                  try clear p138
                  try clear p2
                  try clear q130
                  try clear q138
                  obtain ⟨kq, x46_42, rfl, HA, HJ42, HO_8, BK123, BK124, BK125, HB⟩ := hcut
                  cases kq with
                  | zero => exact absurd HA.out (by simp [policy_Sift.j1])
                  | succ kj42 =>
                    have H := HA.out
                    clear HA
                    simp only [policy_Sift.j1] at H
                    by_cases c54 : x46_42 = true
                    · subst c54
                      have H1 : (some (([] : List Nat), 0, 0, 0, 0, 0, 0, 60)) = some (r1, r2, r3, r4, r5, r6, r7, r8) := by rw [if_pos rfl] at H; exact H
                      clear H
                      have H := H1
                      clear H1
                      simp only [Option.some.injEq, Prod.mk.injEq] at H
                      obtain ⟨rfl, rfl, rfl, rfl, rfl, rfl, rfl, rfl⟩ := H
                      have hnb55 := NB124_123.out
                      have hnc55 := NB123_124.out
                      have hnb56 := NB124_125.out
                      have hnc56 := NB125_124.out
                      have hcz57_0 : wc.cell? ⟨gb124, 0, none⟩ = some (.int .i64 0) := (blk_cell BK124.out 0).trans rfl
                      have hcz57_1 : wc.cell? ⟨gb124, 1, none⟩ = some (.int .i64 0) := (blk_cell BK124.out 1).trans rfl
                      have hcz57_2 : wc.cell? ⟨gb124, 2, none⟩ = some (.int .i64 0) := (blk_cell BK124.out 2).trans rfl
                      have hcz57_3 : wc.cell? ⟨gb124, 3, none⟩ = some (.int .i64 0) := (blk_cell BK124.out 3).trans rfl
                      have hcz57_4 : wc.cell? ⟨gb124, 4, none⟩ = some (.int .i64 0) := (blk_cell BK124.out 4).trans rfl
                      have hcz57_5 : wc.cell? ⟨gb124, 5, none⟩ = some (.int .i64 0) := (blk_cell BK124.out 5).trans rfl
                      have hfz57_0 := blk_frozen BK124.out 0
                      have hfz57_1 := blk_frozen BK124.out 1
                      have hfz57_2 := blk_frozen BK124.out 2
                      have hfz57_3 := blk_frozen BK124.out 3
                      have hfz57_4 := blk_frozen BK124.out 4
                      have hfz57_5 := blk_frozen BK124.out 5
                      go_wp2
                      refine bodyPost_ret (results_list (rs := [.tmp 4, .cell 5 30, .tmp 6]) rfl (by simp) (.tmp (.cell gb124 30 #[.int .i64 0, .int .i64 0, .int .i64 0, .int .i64 0, .int .i64 0, .int .i64 0] (0, 0) _ rfl (by (with_reducible repeat (first | refine blk_drewN ?_ _ | refine blk_drew ?_ | refine blk_alloc ?_ _)); refine blk_put (cs := #[.int .i64 0, .int .i64 0, .int .i64 0, .int .i64 0, .int .i64 0, .int .i64 0]) ?_ 5 _ rfl; (with_reducible repeat (first | refine blk_drewN ?_ _ | refine blk_drew ?_ | refine blk_alloc ?_ _)); refine blk_put (cs := #[.int .i64 0, .int .i64 0, .int .i64 0, .int .i64 0, .int .i64 0, .int .i64 0]) ?_ 4 _ rfl; (with_reducible repeat (first | refine blk_drewN ?_ _ | refine blk_drew ?_ | refine blk_alloc ?_ _)); refine blk_put (cs := #[.int .i64 0, .int .i64 0, .int .i64 0, .int .i64 0, .int .i64 0, .int .i64 0]) ?_ 3 _ rfl; (with_reducible repeat (first | refine blk_drewN ?_ _ | refine blk_drew ?_ | refine blk_alloc ?_ _)); refine blk_put (cs := #[.int .i64 0, .int .i64 0, .int .i64 0, .int .i64 0, .int .i64 0, .int .i64 0]) ?_ 2 _ rfl; (with_reducible repeat (first | refine blk_drewN ?_ _ | refine blk_drew ?_ | refine blk_alloc ?_ _)); refine blk_put (cs := #[.int .i64 0, .int .i64 0, .int .i64 0, .int .i64 0, .int .i64 0, .int .i64 0]) ?_ 1 _ rfl; (with_reducible repeat (first | refine blk_drewN ?_ _ | refine blk_drew ?_ | refine blk_alloc ?_ _)); refine blk_put (cs := #[.int .i64 0, .int .i64 0, .int .i64 0, .int .i64 0, .int .i64 0, .int .i64 0]) ?_ 0 _ rfl; (with_reducible repeat (first | refine blk_drewN ?_ _ | refine blk_drew ?_ | refine blk_alloc ?_ _)); exact BK124.out) Try.underlying30 rfl (by kernel_rfl) (.tmp .nil)))) rfl ?_
                      exact ⟨_, by first | rfl | (simp [errW_none, errW_some] <;> rfl) | (simp [*, errW_none, errW_some] <;> rfl), by first | exact Kd.R_nil _ _ _ _ _ | exact Kd.N_nil _ _ _ _ _ | exact Kd.V_nil _ _ _ _ _ | exact Kd.Q_nil _ _ _ _ _ | exact Kd.S_nil _ _ _ _ _, by repeat (first | (with_reducible first | exact HB.out | apply below_alloc | apply pw_below_drewN | apply below_drew1 | refine below_set ?_ GE123.out | refine below_set ?_ GE124.out | refine below_set ?_ GE125.out) | exact HB.out)⟩
                    · replace c54 := Bool.eq_false_iff.mpr c54
                      subst c54
                      have H1 : (if (wrap64 (x126001_1 + x126002_1)) > 0 then (if a1_1 = 2 then (some (([] : List Nat), 0, 0, 0, 0, 0, 0, 61)) else (some (x8_1, x126000_1, x126001_1, x126002_1, x126003_1, x126004_1, x126005_1, 0))) else (some (x8_1, x126000_1, x126001_1, x126002_1, x126003_1, x126004_1, x126005_1, 0))) = some (r1, r2, r3, r4, r5, r6, r7, r8) := by rw [if_neg (show ¬ (false = true) by decide)] at H; exact H
                      clear H
                      have H := H1
                      clear H1
                      by_cases c58 : (wrap64 (x126001_1 + x126002_1)) > 0
                      · rw [if_pos c58] at H
                        have c58b0 : decide (0 < (wrap64 (x126001_1 + x126002_1))) = true := decide_eq_true c58
                        clear c58
                        by_cases c59 : a1_1 = 2
                        · rw [if_pos c59] at H
                          have c59b0 : (a1_1 == 2) = true := beq_iff_eq.mpr c59
                          have c59b1 : (a1_1 != 2) = false := bne_eq_false_iff_eq.mpr c59
                          clear c59
                          simp only [Option.some.injEq, Prod.mk.injEq] at H
                          obtain ⟨rfl, rfl, rfl, rfl, rfl, rfl, rfl, rfl⟩ := H
                          have hnb60 := NB125_123.out
                          have hnc60 := NB123_125.out
                          have hnb61 := NB125_124.out
                          have hnc61 := NB124_125.out
                          have hcz62_0 : wc.cell? ⟨gb125, 0, none⟩ = some (.int .i64 x126000_1) := (blk_cell BK125.out 0).trans rfl
                          have hcz62_1 : wc.cell? ⟨gb125, 1, none⟩ = some (.int .i64 x126001_1) := (blk_cell BK125.out 1).trans rfl
                          have hcz62_2 : wc.cell? ⟨gb125, 2, none⟩ = some (.int .i64 x126002_1) := (blk_cell BK125.out 2).trans rfl
                          have hcz62_3 : wc.cell? ⟨gb125, 3, none⟩ = some (.int .i64 x126003_1) := (blk_cell BK125.out 3).trans rfl
                          have hcz62_4 : wc.cell? ⟨gb125, 4, none⟩ = some (.int .i64 x126004_1) := (blk_cell BK125.out 4).trans rfl
                          have hcz62_5 : wc.cell? ⟨gb125, 5, none⟩ = some (.int .i64 x126005_1) := (blk_cell BK125.out 5).trans rfl
                          have hfz62_0 := blk_frozen BK125.out 0
                          have hfz62_1 := blk_frozen BK125.out 1
                          have hfz62_2 := blk_frozen BK125.out 2
                          have hfz62_3 := blk_frozen BK125.out 3
                          have hfz62_4 := blk_frozen BK125.out 4
                          have hfz62_5 := blk_frozen BK125.out 5
                          have hnb63 := NB123_124.out
                          have hnc63 := NB124_123.out
                          have hcz64_0 : wc.cell? ⟨gb123, 0, none⟩ = some (.int .i64 a1_0) := (blk_cell BK123.out 0).trans rfl
                          have hcz64_1 : wc.cell? ⟨gb123, 1, none⟩ = some (.int .i64 a1_1) := (blk_cell BK123.out 1).trans rfl
                          have hfz64_0 := blk_frozen BK123.out 0
                          have hfz64_1 := blk_frozen BK123.out 1
                          have hcz65_0 : wc.cell? ⟨gb124, 0, none⟩ = some (.int .i64 0) := (blk_cell BK124.out 0).trans rfl
                          have hcz65_1 : wc.cell? ⟨gb124, 1, none⟩ = some (.int .i64 0) := (blk_cell BK124.out 1).trans rfl
                          have hcz65_2 : wc.cell? ⟨gb124, 2, none⟩ = some (.int .i64 0) := (blk_cell BK124.out 2).trans rfl
                          have hcz65_3 : wc.cell? ⟨gb124, 3, none⟩ = some (.int .i64 0) := (blk_cell BK124.out 3).trans rfl
                          have hcz65_4 : wc.cell? ⟨gb124, 4, none⟩ = some (.int .i64 0) := (blk_cell BK124.out 4).trans rfl
                          have hcz65_5 : wc.cell? ⟨gb124, 5, none⟩ = some (.int .i64 0) := (blk_cell BK124.out 5).trans rfl
                          have hfz65_0 := blk_frozen BK124.out 0
                          have hfz65_1 := blk_frozen BK124.out 1
                          have hfz65_2 := blk_frozen BK124.out 2
                          have hfz65_3 := blk_frozen BK124.out 3
                          have hfz65_4 := blk_frozen BK124.out 4
                          have hfz65_5 := blk_frozen BK124.out 5
                          go_wp2
                          refine bodyPost_ret (results_list (rs := [.tmp 4, .cell 5 30, .tmp 6]) rfl (by simp) (.tmp (.cell gb124 30 #[.int .i64 0, .int .i64 0, .int .i64 0, .int .i64 0, .int .i64 0, .int .i64 0] (0, 0) _ rfl (by (with_reducible repeat (first | refine blk_drewN ?_ _ | refine blk_drew ?_ | refine blk_alloc ?_ _)); refine blk_put (cs := #[.int .i64 0, .int .i64 0, .int .i64 0, .int .i64 0, .int .i64 0, .int .i64 0]) ?_ 5 _ rfl; (with_reducible repeat (first | refine blk_drewN ?_ _ | refine blk_drew ?_ | refine blk_alloc ?_ _)); refine blk_put (cs := #[.int .i64 0, .int .i64 0, .int .i64 0, .int .i64 0, .int .i64 0, .int .i64 0]) ?_ 4 _ rfl; (with_reducible repeat (first | refine blk_drewN ?_ _ | refine blk_drew ?_ | refine blk_alloc ?_ _)); refine blk_put (cs := #[.int .i64 0, .int .i64 0, .int .i64 0, .int .i64 0, .int .i64 0, .int .i64 0]) ?_ 3 _ rfl; (with_reducible repeat (first | refine blk_drewN ?_ _ | refine blk_drew ?_ | refine blk_alloc ?_ _)); refine blk_put (cs := #[.int .i64 0, .int .i64 0, .int .i64 0, .int .i64 0, .int .i64 0, .int .i64 0]) ?_ 2 _ rfl; (with_reducible repeat (first | refine blk_drewN ?_ _ | refine blk_drew ?_ | refine blk_alloc ?_ _)); refine blk_put (cs := #[.int .i64 0, .int .i64 0, .int .i64 0, .int .i64 0, .int .i64 0, .int .i64 0]) ?_ 1 _ rfl; (with_reducible repeat (first | refine blk_drewN ?_ _ | refine blk_drew ?_ | refine blk_alloc ?_ _)); refine blk_put (cs := #[.int .i64 0, .int .i64 0, .int .i64 0, .int .i64 0, .int .i64 0, .int .i64 0]) ?_ 0 _ rfl; (with_reducible repeat (first | refine blk_drewN ?_ _ | refine blk_drew ?_ | refine blk_alloc ?_ _)); exact BK124.out) Try.underlying30 rfl (by kernel_rfl) (.tmp .nil)))) rfl ?_
                          exact ⟨_, by first | rfl | (simp [errW_none, errW_some] <;> rfl) | (simp [*, errW_none, errW_some] <;> rfl), by first | exact Kd.R_nil _ _ _ _ _ | exact Kd.N_nil _ _ _ _ _ | exact Kd.V_nil _ _ _ _ _ | exact Kd.Q_nil _ _ _ _ _ | exact Kd.S_nil _ _ _ _ _, by repeat (first | (with_reducible first | exact HB.out | apply below_alloc | apply pw_below_drewN | apply below_drew1 | refine below_set ?_ GE123.out | refine below_set ?_ GE124.out | refine below_set ?_ GE125.out) | exact HB.out)⟩
                        · rw [if_neg c59] at H
                          have c59b0 : (a1_1 == 2) = false := beq_eq_false_iff_ne.mpr c59
                          have c59b1 : (a1_1 != 2) = true := bne_iff_ne.mpr c59
                          simp only [Option.some.injEq, Prod.mk.injEq] at H
                          obtain ⟨rfl, rfl, rfl, rfl, rfl, rfl, rfl, rfl⟩ := H
                          have hnb66 := NB125_123.out
                          have hnc66 := NB123_125.out
                          have hnb67 := NB125_124.out
                          have hnc67 := NB124_125.out
                          have hcz68_0 : wc.cell? ⟨gb125, 0, none⟩ = some (.int .i64 x126000_1) := (blk_cell BK125.out 0).trans rfl
                          have hcz68_1 : wc.cell? ⟨gb125, 1, none⟩ = some (.int .i64 x126001_1) := (blk_cell BK125.out 1).trans rfl
                          have hcz68_2 : wc.cell? ⟨gb125, 2, none⟩ = some (.int .i64 x126002_1) := (blk_cell BK125.out 2).trans rfl
                          have hcz68_3 : wc.cell? ⟨gb125, 3, none⟩ = some (.int .i64 x126003_1) := (blk_cell BK125.out 3).trans rfl
                          have hcz68_4 : wc.cell? ⟨gb125, 4, none⟩ = some (.int .i64 x126004_1) := (blk_cell BK125.out 4).trans rfl
                          have hcz68_5 : wc.cell? ⟨gb125, 5, none⟩ = some (.int .i64 x126005_1) := (blk_cell BK125.out 5).trans rfl
                          have hfz68_0 := blk_frozen BK125.out 0
                          have hfz68_1 := blk_frozen BK125.out 1
                          have hfz68_2 := blk_frozen BK125.out 2
                          have hfz68_3 := blk_frozen BK125.out 3
                          have hfz68_4 := blk_frozen BK125.out 4
                          have hfz68_5 := blk_frozen BK125.out 5
                          have hnb69 := NB123_124.out
                          have hnc69 := NB124_123.out
                          have hcz70_0 : wc.cell? ⟨gb123, 0, none⟩ = some (.int .i64 a1_0) := (blk_cell BK123.out 0).trans rfl
                          have hcz70_1 : wc.cell? ⟨gb123, 1, none⟩ = some (.int .i64 a1_1) := (blk_cell BK123.out 1).trans rfl
                          have hfz70_0 := blk_frozen BK123.out 0
                          have hfz70_1 := blk_frozen BK123.out 1
                          try go_wp2
                          have n0_ := Aside0.mk (Kd.R_drew HO_8.out)
                          have n1_ := Aside0.mk (blk_drew BK123.out)
                          have n2_ := Aside0.mk (blk_drew BK124.out)
                          have n3_ := Aside0.mk (blk_drew BK125.out)
                          have n4_ := Aside0.mk (below_drew1 HB.out)
                          clear HO_8
                          clear BK123
                          clear BK124
                          clear BK125
                          clear HB
                          have HO_8 := n0_
                          have BK123 := n1_
                          have BK124 := n2_
                          have BK125 := n3_
                          have HB := n4_
                          clear n0_ n1_ n2_ n3_ n4_
                          refine start_ (n := 5) (S := fun w' => w'.cell? ⟨gb125, 0, none⟩ = some (.int .i64 x126000_1) ∧ w'.cell? ⟨gb125, 1, none⟩ = some (.int .i64 x126001_1) ∧ w'.cell? ⟨gb125, 2, none⟩ = some (.int .i64 x126002_1) ∧ w'.cell? ⟨gb125, 3, none⟩ = some (.int .i64 x126003_1) ∧ w'.cell? ⟨gb125, 4, none⟩ = some (.int .i64 x126004_1) ∧ w'.cell? ⟨gb125, 5, none⟩ = some (.int .i64 x126005_1)) (ds := []) #[false, false, false, false, false] (by kernel_rfl) rfl rfl ⟨(blk_cell BK125.out 0).trans rfl, (blk_cell BK125.out 1).trans rfl, (blk_cell BK125.out 2).trans rfl, (blk_cell BK125.out 3).trans rfl, (blk_cell BK125.out 4).trans rfl, (blk_cell BK125.out 5).trans rfl⟩ (fun hHeld => ?_)
                          generalize wc.drew = w71 at HO_8 BK123 BK124 BK125 HB hHeld ⊢
                          refine pure_ (i := 0) (N := some 69) (v := ?_) (a' := ?_) #[true, false, false, false, false] rfl rfl (by kernel_rfl) (fun _ _ _ h => h) (Or.inl ⟨by rfl, ?_⟩) ?_ ?_
                          rotate_left
                          · intro w'
                            go_simp
                            with_reducible rfl
                          rotate_left
                          · simp only [Act.put, List.setIfInBounds_toArray, List.set_cons_zero, List.set_cons_succ, i64_w, i32_w]
                            rfl
                          refine pure_ (i := 2) (N := some 4) (v := ?_) (a' := ?_) #[true, false, true, false, false] rfl rfl (by kernel_rfl) (fun _ _ _ h => h) (Or.inl ⟨by rfl, ?_⟩) ?_ ?_
                          rotate_left
                          · intro w'
                            go_simp
                            with_reducible rfl
                          rotate_left
                          · simp only [Act.put, List.setIfInBounds_toArray, List.set_cons_zero, List.set_cons_succ, i64_w, i32_w]
                            rfl
                          refine take_ (i := 1) (N := some 70) (v := ?_) (a' := ?_) #[true, true, true, false, false] rfl rfl (by kernel_rfl) (fun _ _ _ h => h) (Or.inl ⟨by rfl, ?_⟩) hHeld ?_ ?_
                          rotate_left
                          · rintro w' ⟨s0, s1, s2, s3, s4, s5⟩
                            go_simp
                            with_reducible rfl
                          rotate_left
                          · simp only [Act.put, List.setIfInBounds_toArray, List.set_cons_zero, List.set_cons_succ, i64_w, i32_w]
                            rfl
                          refine one_ (i := 3) (N := none) #[true, true, true, true, false] rfl rfl (by kernel_rfl) (by decide) (fun K hK => ?_)
                          have hs72 : w71.cell? ⟨gb124, 0, none⟩ = some (.int .i64 0) := (blk_cell BK124.out 0).trans rfl
                          have hfs72 := blk_frozen BK124.out 0
                          have hns72_0 := NB123_124.out
                          have hns72_2 := NB125_124.out
                          have hms72_0 := NB124_123.out
                          have hms72_2 := NB124_125.out
                          have hs73 : w71.cell? ⟨gb124, 1, none⟩ = some (.int .i64 0) := (blk_cell BK124.out 1).trans rfl
                          have hfs73 := blk_frozen BK124.out 1
                          have hns73_0 := NB123_124.out
                          have hns73_2 := NB125_124.out
                          have hms73_0 := NB124_123.out
                          have hms73_2 := NB124_125.out
                          have hs74 : w71.cell? ⟨gb124, 2, none⟩ = some (.int .i64 0) := (blk_cell BK124.out 2).trans rfl
                          have hfs74 := blk_frozen BK124.out 2
                          have hns74_0 := NB123_124.out
                          have hns74_2 := NB125_124.out
                          have hms74_0 := NB124_123.out
                          have hms74_2 := NB124_125.out
                          have hs75 : w71.cell? ⟨gb124, 3, none⟩ = some (.int .i64 0) := (blk_cell BK124.out 3).trans rfl
                          have hfs75 := blk_frozen BK124.out 3
                          have hns75_0 := NB123_124.out
                          have hns75_2 := NB125_124.out
                          have hms75_0 := NB124_123.out
                          have hms75_2 := NB124_125.out
                          have hs76 : w71.cell? ⟨gb124, 4, none⟩ = some (.int .i64 0) := (blk_cell BK124.out 4).trans rfl
                          have hfs76 := blk_frozen BK124.out 4
                          have hns76_0 := NB123_124.out
                          have hns76_2 := NB125_124.out
                          have hms76_0 := NB124_123.out
                          have hms76_2 := NB124_125.out
                          have hs77 : w71.cell? ⟨gb124, 5, none⟩ = some (.int .i64 0) := (blk_cell BK124.out 5).trans rfl
                          have hfs77 := blk_frozen BK124.out 5
                          have hns77_0 := NB123_124.out
                          have hns77_2 := NB125_124.out
                          have hms77_0 := NB124_123.out
                          have hms77_2 := NB124_125.out
                          refine skip_ (w1 := ?_) (by rfl) rfl ?_ ?_
                          rotate_left
                          · go_simp
                            rfl
                          refine hK.out _ _ ⟨((cell_far (p := ⟨gb124, _, none⟩) NB125_124.out _).trans (((cell_far (p := ⟨gb124, _, none⟩) NB125_124.out _).trans (((cell_far (p := ⟨gb124, _, none⟩) NB125_124.out _).trans (((cell_far (p := ⟨gb124, _, none⟩) NB125_124.out _).trans (((cell_far (p := ⟨gb124, _, none⟩) NB125_124.out _).trans (((cell_far (p := ⟨gb124, _, none⟩) NB125_124.out _).trans (hHeld.1)))))))))))), ((cell_far (p := ⟨gb124, _, none⟩) NB125_124.out _).trans (((cell_far (p := ⟨gb124, _, none⟩) NB125_124.out _).trans (((cell_far (p := ⟨gb124, _, none⟩) NB125_124.out _).trans (((cell_far (p := ⟨gb124, _, none⟩) NB125_124.out _).trans (((cell_far (p := ⟨gb124, _, none⟩) NB125_124.out _).trans (((cell_far (p := ⟨gb124, _, none⟩) NB125_124.out _).trans (hHeld.2.1)))))))))))), ((cell_far (p := ⟨gb124, _, none⟩) NB125_124.out _).trans (((cell_far (p := ⟨gb124, _, none⟩) NB125_124.out _).trans (((cell_far (p := ⟨gb124, _, none⟩) NB125_124.out _).trans (((cell_far (p := ⟨gb124, _, none⟩) NB125_124.out _).trans (((cell_far (p := ⟨gb124, _, none⟩) NB125_124.out _).trans (((cell_far (p := ⟨gb124, _, none⟩) NB125_124.out _).trans (hHeld.2.2.1)))))))))))), ((cell_far (p := ⟨gb124, _, none⟩) NB125_124.out _).trans (((cell_far (p := ⟨gb124, _, none⟩) NB125_124.out _).trans (((cell_far (p := ⟨gb124, _, none⟩) NB125_124.out _).trans (((cell_far (p := ⟨gb124, _, none⟩) NB125_124.out _).trans (((cell_far (p := ⟨gb124, _, none⟩) NB125_124.out _).trans (((cell_far (p := ⟨gb124, _, none⟩) NB125_124.out _).trans (hHeld.2.2.2.1)))))))))))), ((cell_far (p := ⟨gb124, _, none⟩) NB125_124.out _).trans (((cell_far (p := ⟨gb124, _, none⟩) NB125_124.out _).trans (((cell_far (p := ⟨gb124, _, none⟩) NB125_124.out _).trans (((cell_far (p := ⟨gb124, _, none⟩) NB125_124.out _).trans (((cell_far (p := ⟨gb124, _, none⟩) NB125_124.out _).trans (((cell_far (p := ⟨gb124, _, none⟩) NB125_124.out _).trans (hHeld.2.2.2.2.1)))))))))))), ((cell_far (p := ⟨gb124, _, none⟩) NB125_124.out _).trans (((cell_far (p := ⟨gb124, _, none⟩) NB125_124.out _).trans (((cell_far (p := ⟨gb124, _, none⟩) NB125_124.out _).trans (((cell_far (p := ⟨gb124, _, none⟩) NB125_124.out _).trans (((cell_far (p := ⟨gb124, _, none⟩) NB125_124.out _).trans (((cell_far (p := ⟨gb124, _, none⟩) NB125_124.out _).trans (hHeld.2.2.2.2.2))))))))))))⟩ (fun hHeld => ?_)
                          clear hK K
                          refine pure_ (i := 4) (N := some 6) (v := ?_) (a' := ?_) #[true, true, true, true, true] rfl rfl (by kernel_rfl) (fun _ _ _ h => h) (Or.inl ⟨by rfl, ?_⟩) ?_ ?_
                          rotate_left
                          · intro w'
                            go_simp
                            with_reducible rfl
                          rotate_left
                          · simp only [Act.put, List.setIfInBounds_toArray, List.set_cons_zero, List.set_cons_succ, i64_w, i32_w]
                            rfl
                          refine done_ (by kernel_rfl) ?_
                          try go_wp2
                          refine bodyPost_ret (results_list (rs := [.tmp 4, .cell 5 30, .tmp 6]) rfl (by simp) (.tmp (.cell gb124 30 #[.int .i64 x126000_1, .int .i64 x126001_1, .int .i64 x126002_1, .int .i64 x126003_1, .int .i64 x126004_1, .int .i64 x126005_1] (0, 0) _ rfl (by (with_reducible repeat (first | refine blk_drewN ?_ _ | refine blk_drew ?_ | refine blk_alloc ?_ _)); refine blk_put (cs := #[.int .i64 x126000_1, .int .i64 x126001_1, .int .i64 x126002_1, .int .i64 x126003_1, .int .i64 x126004_1, .int .i64 0]) ?_ 5 _ rfl; (with_reducible repeat (first | refine blk_drewN ?_ _ | refine blk_drew ?_ | refine blk_alloc ?_ _)); refine blk_put (cs := #[.int .i64 x126000_1, .int .i64 x126001_1, .int .i64 x126002_1, .int .i64 x126003_1, .int .i64 0, .int .i64 0]) ?_ 4 _ rfl; (with_reducible repeat (first | refine blk_drewN ?_ _ | refine blk_drew ?_ | refine blk_alloc ?_ _)); refine blk_put (cs := #[.int .i64 x126000_1, .int .i64 x126001_1, .int .i64 x126002_1, .int .i64 0, .int .i64 0, .int .i64 0]) ?_ 3 _ rfl; (with_reducible repeat (first | refine blk_drewN ?_ _ | refine blk_drew ?_ | refine blk_alloc ?_ _)); refine blk_put (cs := #[.int .i64 x126000_1, .int .i64 x126001_1, .int .i64 0, .int .i64 0, .int .i64 0, .int .i64 0]) ?_ 2 _ rfl; (with_reducible repeat (first | refine blk_drewN ?_ _ | refine blk_drew ?_ | refine blk_alloc ?_ _)); refine blk_put (cs := #[.int .i64 x126000_1, .int .i64 0, .int .i64 0, .int .i64 0, .int .i64 0, .int .i64 0]) ?_ 1 _ rfl; (with_reducible repeat (first | refine blk_drewN ?_ _ | refine blk_drew ?_ | refine blk_alloc ?_ _)); refine blk_put (cs := #[.int .i64 0, .int .i64 0, .int .i64 0, .int .i64 0, .int .i64 0, .int .i64 0]) ?_ 0 _ rfl; (with_reducible repeat (first | refine blk_drewN ?_ _ | refine blk_drew ?_ | refine blk_alloc ?_ _)); exact BK124.out) Try.underlying30 rfl (by kernel_rfl) (.tmp .nil)))) rfl ?_
                          exact ⟨_, by first | rfl | (simp [errW_none, errW_some] <;> rfl) | (simp [*, errW_none, errW_some] <;> rfl), by (with_reducible repeat (first | apply Kd.R_alloc | apply Kd.R_drewN | apply Kd.R_drew)); exact Kd.R_mono (Kd.R_far (p := ⟨gb124, 5, none⟩) (Kd.R_far (p := ⟨gb124, 4, none⟩) (Kd.R_far (p := ⟨gb124, 3, none⟩) (Kd.R_far (p := ⟨gb124, 2, none⟩) (Kd.R_far (p := ⟨gb124, 1, none⟩) (Kd.R_far (p := ⟨gb124, 0, none⟩) (Kd.R_types HO_8.out BK124.out (by decide)) (fun _ hk => hk.2) (.int .i64 x126000_1)) (fun _ hk => hk.2) (.int .i64 x126001_1)) (fun _ hk => hk.2) (.int .i64 x126002_1)) (fun _ hk => hk.2) (.int .i64 x126003_1)) (fun _ hk => hk.2) (.int .i64 x126004_1)) (fun _ hk => hk.2) (.int .i64 x126005_1)) (fun _ hk => trivial), by repeat (first | (with_reducible first | exact HB.out | apply below_alloc | apply pw_below_drewN | apply below_drew1 | refine below_set ?_ GE123.out | refine below_set ?_ GE124.out | refine below_set ?_ GE125.out) | exact HB.out)⟩
                      · rw [if_neg c58] at H
                        have c58b0 : decide (0 < (wrap64 (x126001_1 + x126002_1))) = false := decide_eq_false c58
                        clear c58
                        simp only [Option.some.injEq, Prod.mk.injEq] at H
                        obtain ⟨rfl, rfl, rfl, rfl, rfl, rfl, rfl, rfl⟩ := H
                        have hnb78 := NB125_123.out
                        have hnc78 := NB123_125.out
                        have hnb79 := NB125_124.out
                        have hnc79 := NB124_125.out
                        have hcz80_0 : wc.cell? ⟨gb125, 0, none⟩ = some (.int .i64 x126000_1) := (blk_cell BK125.out 0).trans rfl
                        have hcz80_1 : wc.cell? ⟨gb125, 1, none⟩ = some (.int .i64 x126001_1) := (blk_cell BK125.out 1).trans rfl
                        have hcz80_2 : wc.cell? ⟨gb125, 2, none⟩ = some (.int .i64 x126002_1) := (blk_cell BK125.out 2).trans rfl
                        have hcz80_3 : wc.cell? ⟨gb125, 3, none⟩ = some (.int .i64 x126003_1) := (blk_cell BK125.out 3).trans rfl
                        have hcz80_4 : wc.cell? ⟨gb125, 4, none⟩ = some (.int .i64 x126004_1) := (blk_cell BK125.out 4).trans rfl
                        have hcz80_5 : wc.cell? ⟨gb125, 5, none⟩ = some (.int .i64 x126005_1) := (blk_cell BK125.out 5).trans rfl
                        have hfz80_0 := blk_frozen BK125.out 0
                        have hfz80_1 := blk_frozen BK125.out 1
                        have hfz80_2 := blk_frozen BK125.out 2
                        have hfz80_3 := blk_frozen BK125.out 3
                        have hfz80_4 := blk_frozen BK125.out 4
                        have hfz80_5 := blk_frozen BK125.out 5
                        try go_wp2
                        have n0_ := Aside0.mk (Kd.R_drew HO_8.out)
                        have n1_ := Aside0.mk (blk_drew BK123.out)
                        have n2_ := Aside0.mk (blk_drew BK124.out)
                        have n3_ := Aside0.mk (blk_drew BK125.out)
                        have n4_ := Aside0.mk (below_drew1 HB.out)
                        clear HO_8
                        clear BK123
                        clear BK124
                        clear BK125
                        clear HB
                        have HO_8 := n0_
                        have BK123 := n1_
                        have BK124 := n2_
                        have BK125 := n3_
                        have HB := n4_
                        clear n0_ n1_ n2_ n3_ n4_
                        refine start_ (n := 5) (S := fun w' => w'.cell? ⟨gb125, 0, none⟩ = some (.int .i64 x126000_1) ∧ w'.cell? ⟨gb125, 1, none⟩ = some (.int .i64 x126001_1) ∧ w'.cell? ⟨gb125, 2, none⟩ = some (.int .i64 x126002_1) ∧ w'.cell? ⟨gb125, 3, none⟩ = some (.int .i64 x126003_1) ∧ w'.cell? ⟨gb125, 4, none⟩ = some (.int .i64 x126004_1) ∧ w'.cell? ⟨gb125, 5, none⟩ = some (.int .i64 x126005_1)) (ds := []) #[false, false, false, false, false] (by kernel_rfl) rfl rfl ⟨(blk_cell BK125.out 0).trans rfl, (blk_cell BK125.out 1).trans rfl, (blk_cell BK125.out 2).trans rfl, (blk_cell BK125.out 3).trans rfl, (blk_cell BK125.out 4).trans rfl, (blk_cell BK125.out 5).trans rfl⟩ (fun hHeld => ?_)
                        generalize wc.drew = w81 at HO_8 BK123 BK124 BK125 HB hHeld ⊢
                        refine pure_ (i := 0) (N := some 69) (v := ?_) (a' := ?_) #[true, false, false, false, false] rfl rfl (by kernel_rfl) (fun _ _ _ h => h) (Or.inl ⟨by rfl, ?_⟩) ?_ ?_
                        rotate_left
                        · intro w'
                          go_simp
                          with_reducible rfl
                        rotate_left
                        · simp only [Act.put, List.setIfInBounds_toArray, List.set_cons_zero, List.set_cons_succ, i64_w, i32_w]
                          rfl
                        refine pure_ (i := 2) (N := some 4) (v := ?_) (a' := ?_) #[true, false, true, false, false] rfl rfl (by kernel_rfl) (fun _ _ _ h => h) (Or.inl ⟨by rfl, ?_⟩) ?_ ?_
                        rotate_left
                        · intro w'
                          go_simp
                          with_reducible rfl
                        rotate_left
                        · simp only [Act.put, List.setIfInBounds_toArray, List.set_cons_zero, List.set_cons_succ, i64_w, i32_w]
                          rfl
                        refine take_ (i := 1) (N := some 70) (v := ?_) (a' := ?_) #[true, true, true, false, false] rfl rfl (by kernel_rfl) (fun _ _ _ h => h) (Or.inl ⟨by rfl, ?_⟩) hHeld ?_ ?_
                        rotate_left
                        · rintro w' ⟨s0, s1, s2, s3, s4, s5⟩
                          go_simp
                          with_reducible rfl
                        rotate_left
                        · simp only [Act.put, List.setIfInBounds_toArray, List.set_cons_zero, List.set_cons_succ, i64_w, i32_w]
                          rfl
                        refine one_ (i := 3) (N := none) #[true, true, true, true, false] rfl rfl (by kernel_rfl) (by decide) (fun K hK => ?_)
                        have hs82 : w81.cell? ⟨gb124, 0, none⟩ = some (.int .i64 0) := (blk_cell BK124.out 0).trans rfl
                        have hfs82 := blk_frozen BK124.out 0
                        have hns82_0 := NB123_124.out
                        have hns82_2 := NB125_124.out
                        have hms82_0 := NB124_123.out
                        have hms82_2 := NB124_125.out
                        have hs83 : w81.cell? ⟨gb124, 1, none⟩ = some (.int .i64 0) := (blk_cell BK124.out 1).trans rfl
                        have hfs83 := blk_frozen BK124.out 1
                        have hns83_0 := NB123_124.out
                        have hns83_2 := NB125_124.out
                        have hms83_0 := NB124_123.out
                        have hms83_2 := NB124_125.out
                        have hs84 : w81.cell? ⟨gb124, 2, none⟩ = some (.int .i64 0) := (blk_cell BK124.out 2).trans rfl
                        have hfs84 := blk_frozen BK124.out 2
                        have hns84_0 := NB123_124.out
                        have hns84_2 := NB125_124.out
                        have hms84_0 := NB124_123.out
                        have hms84_2 := NB124_125.out
                        have hs85 : w81.cell? ⟨gb124, 3, none⟩ = some (.int .i64 0) := (blk_cell BK124.out 3).trans rfl
                        have hfs85 := blk_frozen BK124.out 3
                        have hns85_0 := NB123_124.out
                        have hns85_2 := NB125_124.out
                        have hms85_0 := NB124_123.out
                        have hms85_2 := NB124_125.out
                        have hs86 : w81.cell? ⟨gb124, 4, none⟩ = some (.int .i64 0) := (blk_cell BK124.out 4).trans rfl
                        have hfs86 := blk_frozen BK124.out 4
                        have hns86_0 := NB123_124.out
                        have hns86_2 := NB125_124.out
                        have hms86_0 := NB124_123.out
                        have hms86_2 := NB124_125.out
                        have hs87 : w81.cell? ⟨gb124, 5, none⟩ = some (.int .i64 0) := (blk_cell BK124.out 5).trans rfl
                        have hfs87 := blk_frozen BK124.out 5
                        have hns87_0 := NB123_124.out
                        have hns87_2 := NB125_124.out
                        have hms87_0 := NB124_123.out
                        have hms87_2 := NB124_125.out
                        refine skip_ (w1 := ?_) (by rfl) rfl ?_ ?_
                        rotate_left
                        · go_simp
                          rfl
                        refine hK.out _ _ ⟨((cell_far (p := ⟨gb124, _, none⟩) NB125_124.out _).trans (((cell_far (p := ⟨gb124, _, none⟩) NB125_124.out _).trans (((cell_far (p := ⟨gb124, _, none⟩) NB125_124.out _).trans (((cell_far (p := ⟨gb124, _, none⟩) NB125_124.out _).trans (((cell_far (p := ⟨gb124, _, none⟩) NB125_124.out _).trans (((cell_far (p := ⟨gb124, _, none⟩) NB125_124.out _).trans (hHeld.1)))))))))))), ((cell_far (p := ⟨gb124, _, none⟩) NB125_124.out _).trans (((cell_far (p := ⟨gb124, _, none⟩) NB125_124.out _).trans (((cell_far (p := ⟨gb124, _, none⟩) NB125_124.out _).trans (((cell_far (p := ⟨gb124, _, none⟩) NB125_124.out _).trans (((cell_far (p := ⟨gb124, _, none⟩) NB125_124.out _).trans (((cell_far (p := ⟨gb124, _, none⟩) NB125_124.out _).trans (hHeld.2.1)))))))))))), ((cell_far (p := ⟨gb124, _, none⟩) NB125_124.out _).trans (((cell_far (p := ⟨gb124, _, none⟩) NB125_124.out _).trans (((cell_far (p := ⟨gb124, _, none⟩) NB125_124.out _).trans (((cell_far (p := ⟨gb124, _, none⟩) NB125_124.out _).trans (((cell_far (p := ⟨gb124, _, none⟩) NB125_124.out _).trans (((cell_far (p := ⟨gb124, _, none⟩) NB125_124.out _).trans (hHeld.2.2.1)))))))))))), ((cell_far (p := ⟨gb124, _, none⟩) NB125_124.out _).trans (((cell_far (p := ⟨gb124, _, none⟩) NB125_124.out _).trans (((cell_far (p := ⟨gb124, _, none⟩) NB125_124.out _).trans (((cell_far (p := ⟨gb124, _, none⟩) NB125_124.out _).trans (((cell_far (p := ⟨gb124, _, none⟩) NB125_124.out _).trans (((cell_far (p := ⟨gb124, _, none⟩) NB125_124.out _).trans (hHeld.2.2.2.1)))))))))))), ((cell_far (p := ⟨gb124, _, none⟩) NB125_124.out _).trans (((cell_far (p := ⟨gb124, _, none⟩) NB125_124.out _).trans (((cell_far (p := ⟨gb124, _, none⟩) NB125_124.out _).trans (((cell_far (p := ⟨gb124, _, none⟩) NB125_124.out _).trans (((cell_far (p := ⟨gb124, _, none⟩) NB125_124.out _).trans (((cell_far (p := ⟨gb124, _, none⟩) NB125_124.out _).trans (hHeld.2.2.2.2.1)))))))))))), ((cell_far (p := ⟨gb124, _, none⟩) NB125_124.out _).trans (((cell_far (p := ⟨gb124, _, none⟩) NB125_124.out _).trans (((cell_far (p := ⟨gb124, _, none⟩) NB125_124.out _).trans (((cell_far (p := ⟨gb124, _, none⟩) NB125_124.out _).trans (((cell_far (p := ⟨gb124, _, none⟩) NB125_124.out _).trans (((cell_far (p := ⟨gb124, _, none⟩) NB125_124.out _).trans (hHeld.2.2.2.2.2))))))))))))⟩ (fun hHeld => ?_)
                        clear hK K
                        refine pure_ (i := 4) (N := some 6) (v := ?_) (a' := ?_) #[true, true, true, true, true] rfl rfl (by kernel_rfl) (fun _ _ _ h => h) (Or.inl ⟨by rfl, ?_⟩) ?_ ?_
                        rotate_left
                        · intro w'
                          go_simp
                          with_reducible rfl
                        rotate_left
                        · simp only [Act.put, List.setIfInBounds_toArray, List.set_cons_zero, List.set_cons_succ, i64_w, i32_w]
                          rfl
                        refine done_ (by kernel_rfl) ?_
                        try go_wp2
                        refine bodyPost_ret (results_list (rs := [.tmp 4, .cell 5 30, .tmp 6]) rfl (by simp) (.tmp (.cell gb124 30 #[.int .i64 x126000_1, .int .i64 x126001_1, .int .i64 x126002_1, .int .i64 x126003_1, .int .i64 x126004_1, .int .i64 x126005_1] (0, 0) _ rfl (by (with_reducible repeat (first | refine blk_drewN ?_ _ | refine blk_drew ?_ | refine blk_alloc ?_ _)); refine blk_put (cs := #[.int .i64 x126000_1, .int .i64 x126001_1, .int .i64 x126002_1, .int .i64 x126003_1, .int .i64 x126004_1, .int .i64 0]) ?_ 5 _ rfl; (with_reducible repeat (first | refine blk_drewN ?_ _ | refine blk_drew ?_ | refine blk_alloc ?_ _)); refine blk_put (cs := #[.int .i64 x126000_1, .int .i64 x126001_1, .int .i64 x126002_1, .int .i64 x126003_1, .int .i64 0, .int .i64 0]) ?_ 4 _ rfl; (with_reducible repeat (first | refine blk_drewN ?_ _ | refine blk_drew ?_ | refine blk_alloc ?_ _)); refine blk_put (cs := #[.int .i64 x126000_1, .int .i64 x126001_1, .int .i64 x126002_1, .int .i64 0, .int .i64 0, .int .i64 0]) ?_ 3 _ rfl; (with_reducible repeat (first | refine blk_drewN ?_ _ | refine blk_drew ?_ | refine blk_alloc ?_ _)); refine blk_put (cs := #[.int .i64 x126000_1, .int .i64 x126001_1, .int .i64 0, .int .i64 0, .int .i64 0, .int .i64 0]) ?_ 2 _ rfl; (with_reducible repeat (first | refine blk_drewN ?_ _ | refine blk_drew ?_ | refine blk_alloc ?_ _)); refine blk_put (cs := #[.int .i64 x126000_1, .int .i64 0, .int .i64 0, .int .i64 0, .int .i64 0, .int .i64 0]) ?_ 1 _ rfl; (with_reducible repeat (first | refine blk_drewN ?_ _ | refine blk_drew ?_ | refine blk_alloc ?_ _)); refine blk_put (cs := #[.int .i64 0, .int .i64 0, .int .i64 0, .int .i64 0, .int .i64 0, .int .i64 0]) ?_ 0 _ rfl; (with_reducible repeat (first | refine blk_drewN ?_ _ | refine blk_drew ?_ | refine blk_alloc ?_ _)); exact BK124.out) Try.underlying30 rfl (by kernel_rfl) (.tmp .nil)))) rfl ?_
                        exact ⟨_, by first | rfl | (simp [errW_none, errW_some] <;> rfl) | (simp [*, errW_none, errW_some] <;> rfl), by (with_reducible repeat (first | apply Kd.R_alloc | apply Kd.R_drewN | apply Kd.R_drew)); exact Kd.R_mono (Kd.R_far (p := ⟨gb124, 5, none⟩) (Kd.R_far (p := ⟨gb124, 4, none⟩) (Kd.R_far (p := ⟨gb124, 3, none⟩) (Kd.R_far (p := ⟨gb124, 2, none⟩) (Kd.R_far (p := ⟨gb124, 1, none⟩) (Kd.R_far (p := ⟨gb124, 0, none⟩) (Kd.R_types HO_8.out BK124.out (by decide)) (fun _ hk => hk.2) (.int .i64 x126000_1)) (fun _ hk => hk.2) (.int .i64 x126001_1)) (fun _ hk => hk.2) (.int .i64 x126002_1)) (fun _ hk => hk.2) (.int .i64 x126003_1)) (fun _ hk => hk.2) (.int .i64 x126004_1)) (fun _ hk => hk.2) (.int .i64 x126005_1)) (fun _ hk => trivial), by repeat (first | (with_reducible first | exact HB.out | apply below_alloc | apply pw_below_drewN | apply below_drew1 | refine below_set ?_ GE123.out | refine below_set ?_ GE124.out | refine below_set ?_ GE125.out) | exact HB.out)⟩
        · rw [if_neg c21] at H
          exact absurd H (by simp)
      · rw [if_neg c20] at H
        exact absurd H (by simp)
  · replace c4 := Bool.eq_false_iff.mpr c4
    subst c4
    have H1 : (some (([] : List Nat), 0, 0, 0, 0, 0, 0, 1)) = some (r1, r2, r3, r4, r5, r6, r7, r8) := by rw [if_neg (show ¬ (false = true) by decide)] at H; exact H
    clear H
    have H := H1
    clear H1
    simp only [Option.some.injEq, Prod.mk.injEq] at H
    obtain ⟨rfl, rfl, rfl, rfl, rfl, rfl, rfl, rfl⟩ := H
    go_enter Try.func12, Try.ntmps12
    try go_wp2_with (first | ((with_reducible refine gate_dst (N := 3) rfl ?_); refine box_event ?hg (N := 3) ?hd (cs := #[.int .i64 a1_0, .int .i64 a1_1]) (t := 23) ?hr ?_; (case hd => rfl); (case hg => rfl); (case hr => first | (go_simp; done) | (go_simp; rfl)); intro gb123 hg w88 hbox hb; have n0_ := bs_ HB hb; have n1_ := Aside0.mk (hbox); have n2_ := ge_ HB hg; have n3_ := ge_ HB hg; clear HB; have HB := n0_; have BK123 := n1_; have GW123 := n2_; have GE123 := n3_; clear n0_ n1_ n2_ n3_; clear hb hbox hg) | ((with_reducible refine gate_dst (N := 5) rfl ?_); refine box_event ?hg (N := 5) ?hd (cs := #[.int .i64 0, .int .i64 0, .int .i64 0, .int .i64 0, .int .i64 0, .int .i64 0]) (t := 30) ?hr ?_; (case hd => rfl); (case hg => rfl); (case hr => first | (go_simp; done) | (go_simp; rfl)); intro gb124 hg w89 hbox hb; have n0_ := kb_ BK123 hb; have n1_ := bs_ HB hb; have n2_ := Aside0.mk (hbox); have n3_ := ge_ HB hg; have n4_ := ge_ HB hg; have n5_ := nlt_ BK123 hg; have n6_ := ngt_ BK123 hg; clear BK123; clear HB; have BK123 := n0_; have HB := n1_; have BK124 := n2_; have GW124 := n3_; have GE124 := n4_; have NB123_124 := n5_; have NB124_123 := n6_; clear n0_ n1_ n2_ n3_ n4_ n5_ n6_; clear hb hbox hg) | ((with_reducible refine gate_dst (N := 7) rfl ?_); refine box_event ?hg (N := 7) ?hd (cs := #[.int .i64 0, .int .i64 0, .int .i64 0, .int .i64 0, .int .i64 0, .int .i64 0]) (t := 30) ?hr ?_; (case hd => rfl); (case hg => rfl); (case hr => first | (go_simp; done) | (go_simp; rfl)); intro gb125 hg w90 hbox hb; have n0_ := kb_ BK123 hb; have n1_ := kb_ BK124 hb; have n2_ := bs_ HB hb; have n3_ := Aside0.mk (hbox); have n4_ := ge_ HB hg; have n5_ := ge_ HB hg; have n6_ := nlt_ BK123 hg; have n7_ := ngt_ BK123 hg; have n8_ := nlt_ BK124 hg; have n9_ := ngt_ BK124 hg; clear BK123; clear BK124; clear HB; have BK123 := n0_; have BK124 := n1_; have HB := n2_; have BK125 := n3_; have GW125 := n4_; have GE125 := n5_; have NB123_125 := n6_; have NB125_123 := n7_; have NB124_125 := n8_; have NB125_124 := n9_; clear n0_ n1_ n2_ n3_ n4_ n5_ n6_ n7_ n8_ n9_; clear hb hbox hg; have hnb91 := NB123_124.out; have hnc91 := NB124_123.out; have hnb92 := NB123_125.out; have hnc92 := NB125_123.out; have hcz93_0 : w90.cell? ⟨gb123, 0, none⟩ = some (.int .i64 a1_0) := (blk_cell BK123.out 0).trans rfl; have hcz93_1 : w90.cell? ⟨gb123, 1, none⟩ = some (.int .i64 a1_1) := (blk_cell BK123.out 1).trans rfl; have hfz93_0 := blk_frozen BK123.out 0; have hfz93_1 := blk_frozen BK123.out 1) | ((with_reducible refine gate_callee (f := 8) rfl ?_); refine goesL_ (some 13) rfl rfl Try.func8 (by kernel_rfl) rfl #[.agg #[.int .i64 a1_0, .int .i64 a1_1]] rfl (by (try simp only [List.map_toArray, List.map_cons, List.map_nil]); first | done | rfl | (simp only [List.length_drop, List.length_take]; rfl)) ?_; (with_reducible refine (policy_May.calls a1_0 a1_1 false _ A3.out).mono ?_); rintro e w94 ⟨rfl, hb⟩; refine ⟨_, rfl, ?_⟩; have n0_ := kb_ BK123 hb; have n1_ := kb_ BK124 hb; have n2_ := kb_ BK125 hb; have n3_ := bs_ HB hb; clear BK123; clear BK124; clear BK125; clear HB; have BK123 := n0_; have BK124 := n1_; have BK125 := n2_; have HB := n3_; clear n0_ n1_ n2_ n3_; (try clear hb); (try clear hb2); (try clear hk); (try clear hi)))
    have n0_ := Aside0.mk (blk_drew BK123.out)
    have n1_ := Aside0.mk (blk_drew BK124.out)
    have n2_ := Aside0.mk (blk_drew BK125.out)
    have n3_ := Aside0.mk (below_drew1 HB.out)
    clear BK123
    clear BK124
    clear BK125
    clear HB
    have BK123 := n0_
    have BK124 := n1_
    have BK125 := n2_
    have HB := n3_
    clear n0_ n1_ n2_ n3_
    refine start_ (n := 4) (S := fun w' => w'.cell? ⟨gb125, 0, none⟩ = some (.int .i64 0) ∧ w'.cell? ⟨gb125, 1, none⟩ = some (.int .i64 0) ∧ w'.cell? ⟨gb125, 2, none⟩ = some (.int .i64 0) ∧ w'.cell? ⟨gb125, 3, none⟩ = some (.int .i64 0) ∧ w'.cell? ⟨gb125, 4, none⟩ = some (.int .i64 0) ∧ w'.cell? ⟨gb125, 5, none⟩ = some (.int .i64 0)) (ds := []) #[false, false, false, false] (by kernel_rfl) rfl rfl ⟨(blk_cell BK125.out 0).trans rfl, (blk_cell BK125.out 1).trans rfl, (blk_cell BK125.out 2).trans rfl, (blk_cell BK125.out 3).trans rfl, (blk_cell BK125.out 4).trans rfl, (blk_cell BK125.out 5).trans rfl⟩ (fun hHeld => ?_)
    generalize w94.drew = w95 at BK123 BK124 BK125 HB hHeld ⊢
    refine pure_ (i := 1) (N := some 4) (v := ?_) (a' := ?_) #[false, true, false, false] rfl rfl (by kernel_rfl) (fun _ _ _ h => h) (Or.inl ⟨by rfl, ?_⟩) ?_ ?_
    rotate_left
    · intro w'
      go_simp
      with_reducible rfl
    rotate_left
    · simp only [Act.put, List.setIfInBounds_toArray, List.set_cons_zero, List.set_cons_succ, i64_w, i32_w]
      rfl
    refine take_ (i := 0) (N := some 15) (v := ?_) (a' := ?_) #[true, true, false, false] rfl rfl (by kernel_rfl) (fun _ _ _ h => h) (Or.inl ⟨by rfl, ?_⟩) hHeld ?_ ?_
    rotate_left
    · rintro w' ⟨s0, s1, s2, s3, s4, s5⟩
      go_simp
      with_reducible rfl
    rotate_left
    · simp only [Act.put, List.setIfInBounds_toArray, List.set_cons_zero, List.set_cons_succ, i64_w, i32_w]
      rfl
    refine one_ (i := 2) (N := none) #[true, true, true, false] rfl rfl (by kernel_rfl) (by decide) (fun K hK => ?_)
    have hs96 : w95.cell? ⟨gb124, 0, none⟩ = some (.int .i64 0) := (blk_cell BK124.out 0).trans rfl
    have hfs96 := blk_frozen BK124.out 0
    have hns96_0 := NB123_124.out
    have hns96_2 := NB125_124.out
    have hms96_0 := NB124_123.out
    have hms96_2 := NB124_125.out
    have hs97 : w95.cell? ⟨gb124, 1, none⟩ = some (.int .i64 0) := (blk_cell BK124.out 1).trans rfl
    have hfs97 := blk_frozen BK124.out 1
    have hns97_0 := NB123_124.out
    have hns97_2 := NB125_124.out
    have hms97_0 := NB124_123.out
    have hms97_2 := NB124_125.out
    have hs98 : w95.cell? ⟨gb124, 2, none⟩ = some (.int .i64 0) := (blk_cell BK124.out 2).trans rfl
    have hfs98 := blk_frozen BK124.out 2
    have hns98_0 := NB123_124.out
    have hns98_2 := NB125_124.out
    have hms98_0 := NB124_123.out
    have hms98_2 := NB124_125.out
    have hs99 : w95.cell? ⟨gb124, 3, none⟩ = some (.int .i64 0) := (blk_cell BK124.out 3).trans rfl
    have hfs99 := blk_frozen BK124.out 3
    have hns99_0 := NB123_124.out
    have hns99_2 := NB125_124.out
    have hms99_0 := NB124_123.out
    have hms99_2 := NB124_125.out
    have hs100 : w95.cell? ⟨gb124, 4, none⟩ = some (.int .i64 0) := (blk_cell BK124.out 4).trans rfl
    have hfs100 := blk_frozen BK124.out 4
    have hns100_0 := NB123_124.out
    have hns100_2 := NB125_124.out
    have hms100_0 := NB124_123.out
    have hms100_2 := NB124_125.out
    have hs101 : w95.cell? ⟨gb124, 5, none⟩ = some (.int .i64 0) := (blk_cell BK124.out 5).trans rfl
    have hfs101 := blk_frozen BK124.out 5
    have hns101_0 := NB123_124.out
    have hns101_2 := NB125_124.out
    have hms101_0 := NB124_123.out
    have hms101_2 := NB124_125.out
    refine skip_ (w1 := ?_) (by rfl) rfl ?_ ?_
    rotate_left
    · go_simp
      rfl
    refine hK.out _ _ ⟨((cell_far (p := ⟨gb124, _, none⟩) NB125_124.out _).trans (((cell_far (p := ⟨gb124, _, none⟩) NB125_124.out _).trans (((cell_far (p := ⟨gb124, _, none⟩) NB125_124.out _).trans (((cell_far (p := ⟨gb124, _, none⟩) NB125_124.out _).trans (((cell_far (p := ⟨gb124, _, none⟩) NB125_124.out _).trans (((cell_far (p := ⟨gb124, _, none⟩) NB125_124.out _).trans (hHeld.1)))))))))))), ((cell_far (p := ⟨gb124, _, none⟩) NB125_124.out _).trans (((cell_far (p := ⟨gb124, _, none⟩) NB125_124.out _).trans (((cell_far (p := ⟨gb124, _, none⟩) NB125_124.out _).trans (((cell_far (p := ⟨gb124, _, none⟩) NB125_124.out _).trans (((cell_far (p := ⟨gb124, _, none⟩) NB125_124.out _).trans (((cell_far (p := ⟨gb124, _, none⟩) NB125_124.out _).trans (hHeld.2.1)))))))))))), ((cell_far (p := ⟨gb124, _, none⟩) NB125_124.out _).trans (((cell_far (p := ⟨gb124, _, none⟩) NB125_124.out _).trans (((cell_far (p := ⟨gb124, _, none⟩) NB125_124.out _).trans (((cell_far (p := ⟨gb124, _, none⟩) NB125_124.out _).trans (((cell_far (p := ⟨gb124, _, none⟩) NB125_124.out _).trans (((cell_far (p := ⟨gb124, _, none⟩) NB125_124.out _).trans (hHeld.2.2.1)))))))))))), ((cell_far (p := ⟨gb124, _, none⟩) NB125_124.out _).trans (((cell_far (p := ⟨gb124, _, none⟩) NB125_124.out _).trans (((cell_far (p := ⟨gb124, _, none⟩) NB125_124.out _).trans (((cell_far (p := ⟨gb124, _, none⟩) NB125_124.out _).trans (((cell_far (p := ⟨gb124, _, none⟩) NB125_124.out _).trans (((cell_far (p := ⟨gb124, _, none⟩) NB125_124.out _).trans (hHeld.2.2.2.1)))))))))))), ((cell_far (p := ⟨gb124, _, none⟩) NB125_124.out _).trans (((cell_far (p := ⟨gb124, _, none⟩) NB125_124.out _).trans (((cell_far (p := ⟨gb124, _, none⟩) NB125_124.out _).trans (((cell_far (p := ⟨gb124, _, none⟩) NB125_124.out _).trans (((cell_far (p := ⟨gb124, _, none⟩) NB125_124.out _).trans (((cell_far (p := ⟨gb124, _, none⟩) NB125_124.out _).trans (hHeld.2.2.2.2.1)))))))))))), ((cell_far (p := ⟨gb124, _, none⟩) NB125_124.out _).trans (((cell_far (p := ⟨gb124, _, none⟩) NB125_124.out _).trans (((cell_far (p := ⟨gb124, _, none⟩) NB125_124.out _).trans (((cell_far (p := ⟨gb124, _, none⟩) NB125_124.out _).trans (((cell_far (p := ⟨gb124, _, none⟩) NB125_124.out _).trans (((cell_far (p := ⟨gb124, _, none⟩) NB125_124.out _).trans (hHeld.2.2.2.2.2))))))))))))⟩ (fun hHeld => ?_)
    clear hK K
    refine pure_ (i := 3) (N := some 6) (v := ?_) (a' := ?_) #[true, true, true, true] rfl rfl (by kernel_rfl) (fun _ _ _ h => h) (Or.inl ⟨by rfl, ?_⟩) ?_ ?_
    rotate_left
    · intro w'
      go_simp
      with_reducible rfl
    rotate_left
    · simp only [Act.put, List.setIfInBounds_toArray, List.set_cons_zero, List.set_cons_succ, i64_w, i32_w]
      rfl
    refine done_ (by kernel_rfl) ?_
    try go_wp2
    refine bodyPost_ret (results_list (rs := [.tmp 4, .cell 5 30, .tmp 6]) rfl (by simp) (.tmp (.cell gb124 30 #[.int .i64 0, .int .i64 0, .int .i64 0, .int .i64 0, .int .i64 0, .int .i64 0] (0, 0) _ rfl (by (with_reducible repeat (first | refine blk_drewN ?_ _ | refine blk_drew ?_ | refine blk_alloc ?_ _)); refine blk_put (cs := #[.int .i64 0, .int .i64 0, .int .i64 0, .int .i64 0, .int .i64 0, .int .i64 0]) ?_ 5 _ rfl; (with_reducible repeat (first | refine blk_drewN ?_ _ | refine blk_drew ?_ | refine blk_alloc ?_ _)); refine blk_put (cs := #[.int .i64 0, .int .i64 0, .int .i64 0, .int .i64 0, .int .i64 0, .int .i64 0]) ?_ 4 _ rfl; (with_reducible repeat (first | refine blk_drewN ?_ _ | refine blk_drew ?_ | refine blk_alloc ?_ _)); refine blk_put (cs := #[.int .i64 0, .int .i64 0, .int .i64 0, .int .i64 0, .int .i64 0, .int .i64 0]) ?_ 3 _ rfl; (with_reducible repeat (first | refine blk_drewN ?_ _ | refine blk_drew ?_ | refine blk_alloc ?_ _)); refine blk_put (cs := #[.int .i64 0, .int .i64 0, .int .i64 0, .int .i64 0, .int .i64 0, .int .i64 0]) ?_ 2 _ rfl; (with_reducible repeat (first | refine blk_drewN ?_ _ | refine blk_drew ?_ | refine blk_alloc ?_ _)); refine blk_put (cs := #[.int .i64 0, .int .i64 0, .int .i64 0, .int .i64 0, .int .i64 0, .int .i64 0]) ?_ 1 _ rfl; (with_reducible repeat (first | refine blk_drewN ?_ _ | refine blk_drew ?_ | refine blk_alloc ?_ _)); refine blk_put (cs := #[.int .i64 0, .int .i64 0, .int .i64 0, .int .i64 0, .int .i64 0, .int .i64 0]) ?_ 0 _ rfl; (with_reducible repeat (first | refine blk_drewN ?_ _ | refine blk_drew ?_ | refine blk_alloc ?_ _)); exact BK124.out) Try.underlying30 rfl (by kernel_rfl) (.tmp .nil)))) rfl ?_
    exact ⟨_, by first | rfl | (simp [errW_none, errW_some] <;> rfl) | (simp [*, errW_none, errW_some] <;> rfl), by first | exact Kd.R_nil _ _ _ _ _ | exact Kd.N_nil _ _ _ _ _ | exact Kd.V_nil _ _ _ _ _ | exact Kd.Q_nil _ _ _ _ _ | exact Kd.S_nil _ _ _ _ _, by repeat (first | (with_reducible first | exact HB.out | apply below_alloc | apply pw_below_drewN | apply below_drew1 | refine below_set ?_ GE123.out | refine below_set ?_ GE124.out | refine below_set ?_ GE125.out) | exact HB.out)⟩

end Go.Proofs.Ytkoonpjlpobmeaa.Pr
-- written by this session's own program (wip/fprint.py), which widens the kit's print by floats
namespace Go.Proofs.Ytkoonpjlpobmeaa.Pr
open Go.RowKit Go.Proofs.YtkoonpjlpobmeaaW.PrintWords Go.Proofs.YtkoonpjlpobmeaaW.PrintLast Go.Proofs.YtkoonpjlpobmeaaW.PrintMore
attribute [local go_sem] max2_int min2_int max_two min_two max_three min_three max_four min_four   -- for this text's walks alone
set_option linter.unusedVariables false
set_option linter.unusedSimpArgs false

/-! ### policy_Verdict: function 18 -/
mutual
def policy_Verdict.j0 : Nat → Bool → Int → Int → Int → Int → Int → Int → Int → Int → Option (Nat × Bool)
  | 0, _, _, _, _, _, _, _, _, _ => none
  | k + 1, x15, x143000, x143001, x143002, x143003, x143004, x143005, x144000, x144001 => if x15 = true then (some (0, false)) else (if x143001 > 0 then (if x143002 > 0 then (policy_Verdict.j1 k (x144001 == 0) (x144001 == 0) x143000 x143001 x143002 x143003 x143004 x143005 x144000 x144001) else (policy_Verdict.j1 k (x144001 == 0) false x143000 x143001 x143002 x143003 x143004 x143005 x144000 x144001)) else (if x143002 > 0 then (policy_Verdict.j1 k false (x144001 == 0) x143000 x143001 x143002 x143003 x143004 x143005 x144000 x144001) else (policy_Verdict.j1 k false false x143000 x143001 x143002 x143003 x143004 x143005 x144000 x144001)))
def policy_Verdict.j1 : Nat → Bool → Bool → Int → Int → Int → Int → Int → Int → Int → Int → Option (Nat × Bool)
  | 0, _, _, _, _, _, _, _, _, _, _ => none
  | k + 1, x6, x7, x143000, x143001, x143002, x143003, x143004, x143005, x144000, x144001 => if x143000 > 0 then (policy_Verdict.j2 k x6 x7 (x144000 == 0)) else (policy_Verdict.j2 k x6 x7 false)
def policy_Verdict.j2 : Nat → Bool → Bool → Bool → Option (Nat × Bool)
  | 0, _, _, _ => none
  | k + 1, x6, x7, x32 => if x32 = true then (policy_Verdict.j3 k x6 x7 x32) else (if x6 = true then (policy_Verdict.j3 k x6 x7 x7) else (policy_Verdict.j3 k x6 x7 false))
def policy_Verdict.j3 : Nat → Bool → Bool → Bool → Option (Nat × Bool)
  | 0, _, _, _ => none
  | k + 1, x6, x7, x32 => if x32 = true then ((bits_NaN.f).bind fun t146 => (some (t146, true))) else (if x6 = true then ((math_Inf.f 1).bind fun t147 => (some (t147, true))) else (if x7 = true then ((math_Inf.f (-1)).bind fun t148 => (some (t148, true))) else (some (0, false))))
end
def policy_Verdict.f (k : Nat) (a0_0 : Int) (a0_1 : Int) (a0_2 : Int) (a0_3 : Int) (a0_4 : Int) (a0_5 : Int) (a1_0 : Int) (a1_1 : Int) : Option (Nat × Bool) := (policy_mayBe.f a0_0 a0_1 a0_2 a0_3 a0_4 a0_5).bind fun t144 => (if t144 = true then ((policy_May.f a1_0 a1_1).bind fun t145 => (policy_Verdict.j0 k (!t145) a0_0 a0_1 a0_2 a0_3 a0_4 a0_5 a1_0 a1_1)) else (policy_Verdict.j0 k true a0_0 a0_1 a0_2 a0_3 a0_4 a0_5 a1_0 a1_1))
theorem policy_Verdict.mono_l : ∀ k, (∀ y0 y1 y2 y3 y4 y5 y6 y7 y8, LeO (policy_Verdict.j0 k y0 y1 y2 y3 y4 y5 y6 y7 y8) (policy_Verdict.j0 (k + 1) y0 y1 y2 y3 y4 y5 y6 y7 y8)) ∧ (∀ y0 y1 y2 y3 y4 y5 y6 y7 y8 y9, LeO (policy_Verdict.j1 k y0 y1 y2 y3 y4 y5 y6 y7 y8 y9) (policy_Verdict.j1 (k + 1) y0 y1 y2 y3 y4 y5 y6 y7 y8 y9)) ∧ (∀ y0 y1 y2, LeO (policy_Verdict.j2 k y0 y1 y2) (policy_Verdict.j2 (k + 1) y0 y1 y2)) ∧ (∀ y0 y1 y2, LeO (policy_Verdict.j3 k y0 y1 y2) (policy_Verdict.j3 (k + 1) y0 y1 y2))
  | 0 => ⟨fun _ _ _ _ _ _ _ _ _ r h => by simp [policy_Verdict.j0] at h, fun _ _ _ _ _ _ _ _ _ _ r h => by simp [policy_Verdict.j1] at h, fun _ _ _ r h => by simp [policy_Verdict.j2] at h, fun _ _ _ r h => by simp [policy_Verdict.j3] at h⟩
  | k + 1 => by
    obtain ⟨ih0, ih1, ih2, ih3⟩ := policy_Verdict.mono_l k
    refine ⟨?_, ?_, ?_, ?_⟩
    · intro y0 y1 y2 y3 y4 y5 y6 y7 y8
      unfold policy_Verdict.j0
      repeat' first
      | (with_reducible exact ih0 _ _ _ _ _ _ _ _ _)
      | (with_reducible exact ih1 _ _ _ _ _ _ _ _ _ _)
      | (with_reducible exact ih2 _ _ _)
      | (with_reducible exact ih3 _ _ _)
      | (with_reducible exact LeO.refl _)
      | (with_reducible exact LeO.none _)
      | (with_reducible refine LeO.ite ?_ ?_)
      | (with_reducible refine LeO.bind ?_ (fun _ => ?_))
      | exact ih0 _ _ _ _ _ _ _ _ _
      | exact ih1 _ _ _ _ _ _ _ _ _ _
      | exact ih2 _ _ _
      | exact ih3 _ _ _
      | exact LeO.none _
      | refine LeO.ite ?_ ?_
      | refine LeO.bind ?_ (fun _ => ?_)
    · intro y0 y1 y2 y3 y4 y5 y6 y7 y8 y9
      unfold policy_Verdict.j1
      repeat' first
      | (with_reducible exact ih0 _ _ _ _ _ _ _ _ _)
      | (with_reducible exact ih1 _ _ _ _ _ _ _ _ _ _)
      | (with_reducible exact ih2 _ _ _)
      | (with_reducible exact ih3 _ _ _)
      | (with_reducible exact LeO.refl _)
      | (with_reducible exact LeO.none _)
      | (with_reducible refine LeO.ite ?_ ?_)
      | (with_reducible refine LeO.bind ?_ (fun _ => ?_))
      | exact ih0 _ _ _ _ _ _ _ _ _
      | exact ih1 _ _ _ _ _ _ _ _ _ _
      | exact ih2 _ _ _
      | exact ih3 _ _ _
      | exact LeO.none _
      | refine LeO.ite ?_ ?_
      | refine LeO.bind ?_ (fun _ => ?_)
    · intro y0 y1 y2
      unfold policy_Verdict.j2
      repeat' first
      | (with_reducible exact ih0 _ _ _ _ _ _ _ _ _)
      | (with_reducible exact ih1 _ _ _ _ _ _ _ _ _ _)
      | (with_reducible exact ih2 _ _ _)
      | (with_reducible exact ih3 _ _ _)
      | (with_reducible exact LeO.refl _)
      | (with_reducible exact LeO.none _)
      | (with_reducible refine LeO.ite ?_ ?_)
      | (with_reducible refine LeO.bind ?_ (fun _ => ?_))
      | exact ih0 _ _ _ _ _ _ _ _ _
      | exact ih1 _ _ _ _ _ _ _ _ _ _
      | exact ih2 _ _ _
      | exact ih3 _ _ _
      | exact LeO.none _
      | refine LeO.ite ?_ ?_
      | refine LeO.bind ?_ (fun _ => ?_)
    · intro y0 y1 y2
      unfold policy_Verdict.j3
      repeat' first
      | (with_reducible exact ih0 _ _ _ _ _ _ _ _ _)
      | (with_reducible exact ih1 _ _ _ _ _ _ _ _ _ _)
      | (with_reducible exact ih2 _ _ _)
      | (with_reducible exact ih3 _ _ _)
      | (with_reducible exact LeO.refl _)
      | (with_reducible exact LeO.none _)
      | (with_reducible refine LeO.ite ?_ ?_)
      | (with_reducible refine LeO.bind ?_ (fun _ => ?_))
      | exact ih0 _ _ _ _ _ _ _ _ _
      | exact ih1 _ _ _ _ _ _ _ _ _ _
      | exact ih2 _ _ _
      | exact ih3 _ _ _
      | exact LeO.none _
      | refine LeO.ite ?_ ?_
      | refine LeO.bind ?_ (fun _ => ?_)
theorem policy_Verdict.mono : ∀ a0 a1 a2 a3 a4 a5 a6 a7 k, LeO (policy_Verdict.f k a0 a1 a2 a3 a4 a5 a6 a7) (policy_Verdict.f (k + 1) a0 a1 a2 a3 a4 a5 a6 a7) := by
  intro a0 a1 a2 a3 a4 a5 a6 a7 k
  obtain ⟨ih0, ih1, ih2, ih3⟩ := policy_Verdict.mono_l k
  unfold policy_Verdict.f
  repeat' first
      | (with_reducible exact ih0 _ _ _ _ _ _ _ _ _)
      | (with_reducible exact ih1 _ _ _ _ _ _ _ _ _ _)
      | (with_reducible exact ih2 _ _ _)
      | (with_reducible exact ih3 _ _ _)
      | (with_reducible exact LeO.refl _)
      | (with_reducible exact LeO.none _)
      | (with_reducible refine LeO.ite ?_ ?_)
      | (with_reducible refine LeO.bind ?_ (fun _ => ?_))
      | exact ih0 _ _ _ _ _ _ _ _ _
      | exact ih1 _ _ _ _ _ _ _ _ _ _
      | exact ih2 _ _ _
      | exact ih3 _ _ _
      | exact LeO.none _
      | refine LeO.ite ?_ ?_
      | refine LeO.bind ?_ (fun _ => ?_)
set_option maxHeartbeats 3000000 in
set_option maxRecDepth 100000 in
theorem policy_Verdict.calls (k : Nat) (a0_0 : Int) (a0_1 : Int) (a0_2 : Int) (a0_3 : Int) (a0_4 : Int) (a0_5 : Int) (a1_0 : Int) (a1_1 : Int) (r1 : Nat) (r2 : Bool) (w : World) (h : policy_Verdict.f k a0_0 a0_1 a0_2 a0_3 a0_4 a0_5 a1_0 a1_1 = some (r1, r2)) :
    Calls Try.prog 18 #[.agg #[.int .i64 a0_0, .int .i64 a0_1, .int .i64 a0_2, .int .i64 a0_3, .int .i64 a0_4, .int .i64 a0_5], .agg #[.int .i64 a1_0, .int .i64 a1_1]] w fun e w' => e = .returned (.tuple #[.float .f64 r1, .bool r2]) ∧ Below w.heap.size w w' := by
  have hu30 := Try.underlying30
  have hu23 := Try.underlying23
  have HB := Aside0.mk (Below.refl w.heap.size w)
  have H : ((policy_mayBe.f a0_0 a0_1 a0_2 a0_3 a0_4 a0_5).bind fun t144 => (if t144 = true then ((policy_May.f a1_0 a1_1).bind fun t145 => (policy_Verdict.j0 k (!t145) a0_0 a0_1 a0_2 a0_3 a0_4 a0_5 a1_0 a1_1)) else (policy_Verdict.j0 k true a0_0 a0_1 a0_2 a0_3 a0_4 a0_5 a1_0 a1_1))) = some (r1, r2) := h
  clear h
  have HC3 := Aside0.mk H
  clear H
  go_enter Try.func18, Try.ntmps18
  go_upto_region 1 with (first | ((with_reducible refine gate_dst (N := 2) rfl ?_); refine box_event ?hg (N := 2) ?hd (cs := #[.int .i64 a0_0, .int .i64 a0_1, .int .i64 a0_2, .int .i64 a0_3, .int .i64 a0_4, .int .i64 a0_5]) (t := 30) ?hr ?_; (case hd => rfl); (case hg => rfl); (case hr => first | (go_simp; done) | (go_simp; rfl)); intro gb142 hg w4 hbox hb; have n0_ := bs_ HB hb; have n1_ := Aside0.mk (hbox); have n2_ := ge_ HB hg; have n3_ := ge_ HB hg; clear HB; have HB := n0_; have BK142 := n1_; have GW142 := n2_; have GE142 := n3_; clear n0_ n1_ n2_ n3_; clear hb hbox hg) | ((with_reducible refine gate_dst (N := 3) rfl ?_); refine box_event ?hg (N := 3) ?hd (cs := #[.int .i64 a1_0, .int .i64 a1_1]) (t := 23) ?hr ?_; (case hd => rfl); (case hg => rfl); (case hr => first | (go_simp; done) | (go_simp; rfl)); intro gb143 hg w5 hbox hb; have n0_ := kb_ BK142 hb; have n1_ := bs_ HB hb; have n2_ := Aside0.mk (hbox); have n3_ := ge_ HB hg; have n4_ := ge_ HB hg; have n5_ := nlt_ BK142 hg; have n6_ := ngt_ BK142 hg; clear BK142; clear HB; have BK142 := n0_; have HB := n1_; have BK143 := n2_; have GW143 := n3_; have GE143 := n4_; have NB142_143 := n5_; have NB143_142 := n6_; clear n0_ n1_ n2_ n3_ n4_ n5_ n6_; clear hb hbox hg))
  repeat (go_quiet (first | ((with_reducible refine gate_dst (N := 2) rfl ?_); refine box_event ?hg (N := 2) ?hd (cs := #[.int .i64 a0_0, .int .i64 a0_1, .int .i64 a0_2, .int .i64 a0_3, .int .i64 a0_4, .int .i64 a0_5]) (t := 30) ?hr ?_; (case hd => rfl); (case hg => rfl); (case hr => first | (go_simp; done) | (go_simp; rfl)); intro gb142 hg w4 hbox hb; have n0_ := bs_ HB hb; have n1_ := Aside0.mk (hbox); have n2_ := ge_ HB hg; have n3_ := ge_ HB hg; clear HB; have HB := n0_; have BK142 := n1_; have GW142 := n2_; have GE142 := n3_; clear n0_ n1_ n2_ n3_; clear hb hbox hg) | ((with_reducible refine gate_dst (N := 3) rfl ?_); refine box_event ?hg (N := 3) ?hd (cs := #[.int .i64 a1_0, .int .i64 a1_1]) (t := 23) ?hr ?_; (case hd => rfl); (case hg => rfl); (case hr => first | (go_simp; done) | (go_simp; rfl)); intro gb143 hg w5 hbox hb; have n0_ := kb_ BK142 hb; have n1_ := bs_ HB hb; have n2_ := Aside0.mk (hbox); have n3_ := ge_ HB hg; have n4_ := ge_ HB hg; have n5_ := nlt_ BK142 hg; have n6_ := ngt_ BK142 hg; clear BK142; clear HB; have BK142 := n0_; have HB := n1_; have BK143 := n2_; have GW143 := n3_; have GE143 := n4_; have NB142_143 := n5_; have NB143_142 := n6_; clear n0_ n1_ n2_ n3_ n4_ n5_ n6_; clear hb hbox hg)); go_upto_region 1 with (first | ((with_reducible refine gate_dst (N := 2) rfl ?_); refine box_event ?hg (N := 2) ?hd (cs := #[.int .i64 a0_0, .int .i64 a0_1, .int .i64 a0_2, .int .i64 a0_3, .int .i64 a0_4, .int .i64 a0_5]) (t := 30) ?hr ?_; (case hd => rfl); (case hg => rfl); (case hr => first | (go_simp; done) | (go_simp; rfl)); intro gb142 hg w4 hbox hb; have n0_ := bs_ HB hb; have n1_ := Aside0.mk (hbox); have n2_ := ge_ HB hg; have n3_ := ge_ HB hg; clear HB; have HB := n0_; have BK142 := n1_; have GW142 := n2_; have GE142 := n3_; clear n0_ n1_ n2_ n3_; clear hb hbox hg) | ((with_reducible refine gate_dst (N := 3) rfl ?_); refine box_event ?hg (N := 3) ?hd (cs := #[.int .i64 a1_0, .int .i64 a1_1]) (t := 23) ?hr ?_; (case hd => rfl); (case hg => rfl); (case hr => first | (go_simp; done) | (go_simp; rfl)); intro gb143 hg w5 hbox hb; have n0_ := kb_ BK142 hb; have n1_ := bs_ HB hb; have n2_ := Aside0.mk (hbox); have n3_ := ge_ HB hg; have n4_ := ge_ HB hg; have n5_ := nlt_ BK142 hg; have n6_ := ngt_ BK142 hg; clear BK142; clear HB; have BK142 := n0_; have HB := n1_; have BK143 := n2_; have GW143 := n3_; have GE143 := n4_; have NB142_143 := n5_; have NB143_142 := n6_; clear n0_ n1_ n2_ n3_ n4_ n5_ n6_; clear hb hbox hg)))
  (try simp only [Act.put, List.setIfInBounds_toArray, List.set_cons_zero, List.set_cons_succ])
  go_cut [15] (fun v15 wc => ∃ (kq : Nat) (x15_2 : Bool), v15 = .bool x15_2 ∧ Aside0 (policy_Verdict.j0 kq x15_2 a0_0 a0_1 a0_2 a0_3 a0_4 a0_5 a1_0 a1_1 = some (r1, r2)) ∧ Aside0 (kq ≤ k) ∧ Aside0 (wc.heap[gb142]? = some (.cells #[.int .i64 a0_0, .int .i64 a0_1, .int .i64 a0_2, .int .i64 a0_3, .int .i64 a0_4, .int .i64 a0_5] 30 (0, 0))) ∧ Aside0 (wc.heap[gb143]? = some (.cells #[.int .i64 a1_0, .int .i64 a1_1] 23 (0, 0))) ∧ Aside0 (Below w.heap.size w wc))
  case first =>
    have H := HC3.out
    clear HC3
    replace H := Option.bind_eq_some_iff.mp H
    obtain ⟨t144, A60, H⟩ := H
    replace H : (if t144 = true then ((policy_May.f a1_0 a1_1).bind fun t145 => (policy_Verdict.j0 k (!t145) a0_0 a0_1 a0_2 a0_3 a0_4 a0_5 a1_0 a1_1)) else (policy_Verdict.j0 k true a0_0 a0_1 a0_2 a0_3 a0_4 a0_5 a1_0 a1_1)) = some (r1, r2) := H
    have A6 := Aside0.mk A60
    clear A60
    by_cases c7 : t144 = true
    · subst c7
      have H1 : ((policy_May.f a1_0 a1_1).bind fun t145 => (policy_Verdict.j0 k (!t145) a0_0 a0_1 a0_2 a0_3 a0_4 a0_5 a1_0 a1_1)) = some (r1, r2) := by rw [if_pos rfl] at H; exact H
      clear H
      have H := H1
      clear H1
      replace H := Option.bind_eq_some_iff.mp H
      obtain ⟨t145, A80, H⟩ := H
      replace H : (policy_Verdict.j0 k (!t145) a0_0 a0_1 a0_2 a0_3 a0_4 a0_5 a1_0 a1_1) = some (r1, r2) := H
      have A8 := Aside0.mk A80
      clear A80
      have H' := Aside0.mk H
      clear H
      have hnb9 := NB142_143.out
      have hnc9 := NB143_142.out
      have hcz10_0 : w5.cell? ⟨gb142, 0, none⟩ = some (.int .i64 a0_0) := (blk_cell BK142.out 0).trans rfl
      have hcz10_1 : w5.cell? ⟨gb142, 1, none⟩ = some (.int .i64 a0_1) := (blk_cell BK142.out 1).trans rfl
      have hcz10_2 : w5.cell? ⟨gb142, 2, none⟩ = some (.int .i64 a0_2) := (blk_cell BK142.out 2).trans rfl
      have hcz10_3 : w5.cell? ⟨gb142, 3, none⟩ = some (.int .i64 a0_3) := (blk_cell BK142.out 3).trans rfl
      have hcz10_4 : w5.cell? ⟨gb142, 4, none⟩ = some (.int .i64 a0_4) := (blk_cell BK142.out 4).trans rfl
      have hcz10_5 : w5.cell? ⟨gb142, 5, none⟩ = some (.int .i64 a0_5) := (blk_cell BK142.out 5).trans rfl
      have hfz10_0 := blk_frozen BK142.out 0
      have hfz10_1 := blk_frozen BK142.out 1
      have hfz10_2 := blk_frozen BK142.out 2
      have hfz10_3 := blk_frozen BK142.out 3
      have hfz10_4 := blk_frozen BK142.out 4
      have hfz10_5 := blk_frozen BK142.out 5
      go_wp2_with (first | (go_at_call 33; (with_reducible refine (policy_mayBe.calls a0_0 a0_1 a0_2 a0_3 a0_4 a0_5 true _ A6.out).mono ?_); rintro e w11 ⟨rfl, hb⟩; have n0_ := kb_ BK142 hb; have n1_ := kb_ BK143 hb; have n2_ := bs_ HB hb; clear BK142; clear BK143; clear HB; have BK142 := n0_; have BK143 := n1_; have HB := n2_; clear n0_ n1_ n2_; (try clear hb); (try clear hb2); (try clear hk); (try clear hi); have hcz12_0 : w11.cell? ⟨gb143, 0, none⟩ = some (.int .i64 a1_0) := (blk_cell BK143.out 0).trans rfl; have hcz12_1 : w11.cell? ⟨gb143, 1, none⟩ = some (.int .i64 a1_1) := (blk_cell BK143.out 1).trans rfl; have hfz12_0 := blk_frozen BK143.out 0; have hfz12_1 := blk_frozen BK143.out 1) | (go_at_call 8; (with_reducible refine (policy_May.calls a1_0 a1_1 t145 _ A8.out).mono ?_); rintro e w13 ⟨rfl, hb⟩; have n0_ := kb_ BK142 hb; have n1_ := kb_ BK143 hb; have n2_ := bs_ HB hb; clear BK142; clear BK143; clear HB; have BK142 := n0_; have BK143 := n1_; have HB := n2_; clear n0_ n1_ n2_; (try clear hb); (try clear hb2); (try clear hk); (try clear hi)))
      repeat (go_quiet (first | (go_at_call 33; (with_reducible refine (policy_mayBe.calls a0_0 a0_1 a0_2 a0_3 a0_4 a0_5 true _ A6.out).mono ?_); rintro e w11 ⟨rfl, hb⟩; have n0_ := kb_ BK142 hb; have n1_ := kb_ BK143 hb; have n2_ := bs_ HB hb; clear BK142; clear BK143; clear HB; have BK142 := n0_; have BK143 := n1_; have HB := n2_; clear n0_ n1_ n2_; (try clear hb); (try clear hb2); (try clear hk); (try clear hi); have hcz12_0 : w11.cell? ⟨gb143, 0, none⟩ = some (.int .i64 a1_0) := (blk_cell BK143.out 0).trans rfl; have hcz12_1 : w11.cell? ⟨gb143, 1, none⟩ = some (.int .i64 a1_1) := (blk_cell BK143.out 1).trans rfl; have hfz12_0 := blk_frozen BK143.out 0; have hfz12_1 := blk_frozen BK143.out 1) | (go_at_call 8; (with_reducible refine (policy_May.calls a1_0 a1_1 t145 _ A8.out).mono ?_); rintro e w13 ⟨rfl, hb⟩; have n0_ := kb_ BK142 hb; have n1_ := kb_ BK143 hb; have n2_ := bs_ HB hb; clear BK142; clear BK143; clear HB; have BK142 := n0_; have BK143 := n1_; have HB := n2_; clear n0_ n1_ n2_; (try clear hb); (try clear hb2); (try clear hk); (try clear hi))); try go_wp2_with (first | (go_at_call 33; (with_reducible refine (policy_mayBe.calls a0_0 a0_1 a0_2 a0_3 a0_4 a0_5 true _ A6.out).mono ?_); rintro e w11 ⟨rfl, hb⟩; have n0_ := kb_ BK142 hb; have n1_ := kb_ BK143 hb; have n2_ := bs_ HB hb; clear BK142; clear BK143; clear HB; have BK142 := n0_; have BK143 := n1_; have HB := n2_; clear n0_ n1_ n2_; (try clear hb); (try clear hb2); (try clear hk); (try clear hi); have hcz12_0 : w11.cell? ⟨gb143, 0, none⟩ = some (.int .i64 a1_0) := (blk_cell BK143.out 0).trans rfl; have hcz12_1 : w11.cell? ⟨gb143, 1, none⟩ = some (.int .i64 a1_1) := (blk_cell BK143.out 1).trans rfl; have hfz12_0 := blk_frozen BK143.out 0; have hfz12_1 := blk_frozen BK143.out 1) | (go_at_call 8; (with_reducible refine (policy_May.calls a1_0 a1_1 t145 _ A8.out).mono ?_); rintro e w13 ⟨rfl, hb⟩; have n0_ := kb_ BK142 hb; have n1_ := kb_ BK143 hb; have n2_ := bs_ HB hb; clear BK142; clear BK143; clear HB; have BK142 := n0_; have BK143 := n1_; have HB := n2_; clear n0_ n1_ n2_; (try clear hb); (try clear hb2); (try clear hk); (try clear hi))))
      go_meet
      case rel => exact ⟨_, (!t145), (by first | rfl | (simp; done) | (simp [*]; done)), H', ⟨by first | omega | exact Nat.le_refl _⟩, ⟨by (with_reducible repeat (first | refine blk_drewN ?_ _ | refine blk_drew ?_ | refine blk_alloc ?_ _)); exact BK142.out⟩, ⟨by (with_reducible repeat (first | refine blk_drewN ?_ _ | refine blk_drew ?_ | refine blk_alloc ?_ _)); exact BK143.out⟩, ⟨by repeat (first | (with_reducible first | exact HB.out | apply below_alloc | apply pw_below_drewN | apply below_drew1 | refine below_set ?_ GE142.out | refine below_set ?_ GE143.out) | exact HB.out)⟩⟩
    · replace c7 := Bool.eq_false_iff.mpr c7
      subst c7
      have H1 : (policy_Verdict.j0 k true a0_0 a0_1 a0_2 a0_3 a0_4 a0_5 a1_0 a1_1) = some (r1, r2) := by rw [if_neg (show ¬ (false = true) by decide)] at H; exact H
      clear H
      have H := H1
      clear H1
      have H' := Aside0.mk H
      clear H
      have hnb14 := NB142_143.out
      have hnc14 := NB143_142.out
      have hcz15_0 : w5.cell? ⟨gb142, 0, none⟩ = some (.int .i64 a0_0) := (blk_cell BK142.out 0).trans rfl
      have hcz15_1 : w5.cell? ⟨gb142, 1, none⟩ = some (.int .i64 a0_1) := (blk_cell BK142.out 1).trans rfl
      have hcz15_2 : w5.cell? ⟨gb142, 2, none⟩ = some (.int .i64 a0_2) := (blk_cell BK142.out 2).trans rfl
      have hcz15_3 : w5.cell? ⟨gb142, 3, none⟩ = some (.int .i64 a0_3) := (blk_cell BK142.out 3).trans rfl
      have hcz15_4 : w5.cell? ⟨gb142, 4, none⟩ = some (.int .i64 a0_4) := (blk_cell BK142.out 4).trans rfl
      have hcz15_5 : w5.cell? ⟨gb142, 5, none⟩ = some (.int .i64 a0_5) := (blk_cell BK142.out 5).trans rfl
      have hfz15_0 := blk_frozen BK142.out 0
      have hfz15_1 := blk_frozen BK142.out 1
      have hfz15_2 := blk_frozen BK142.out 2
      have hfz15_3 := blk_frozen BK142.out 3
      have hfz15_4 := blk_frozen BK142.out 4
      have hfz15_5 := blk_frozen BK142.out 5
      go_wp2_with (first | (go_at_call 33; (with_reducible refine (policy_mayBe.calls a0_0 a0_1 a0_2 a0_3 a0_4 a0_5 false _ A6.out).mono ?_); rintro e w16 ⟨rfl, hb⟩; have n0_ := kb_ BK142 hb; have n1_ := kb_ BK143 hb; have n2_ := bs_ HB hb; clear BK142; clear BK143; clear HB; have BK142 := n0_; have BK143 := n1_; have HB := n2_; clear n0_ n1_ n2_; (try clear hb); (try clear hb2); (try clear hk); (try clear hi)))
      repeat (go_quiet (first | (go_at_call 33; (with_reducible refine (policy_mayBe.calls a0_0 a0_1 a0_2 a0_3 a0_4 a0_5 false _ A6.out).mono ?_); rintro e w16 ⟨rfl, hb⟩; have n0_ := kb_ BK142 hb; have n1_ := kb_ BK143 hb; have n2_ := bs_ HB hb; clear BK142; clear BK143; clear HB; have BK142 := n0_; have BK143 := n1_; have HB := n2_; clear n0_ n1_ n2_; (try clear hb); (try clear hb2); (try clear hk); (try clear hi))); try go_wp2_with (first | (go_at_call 33; (with_reducible refine (policy_mayBe.calls a0_0 a0_1 a0_2 a0_3 a0_4 a0_5 false _ A6.out).mono ?_); rintro e w16 ⟨rfl, hb⟩; have n0_ := kb_ BK142 hb; have n1_ := kb_ BK143 hb; have n2_ := bs_ HB hb; clear BK142; clear BK143; clear HB; have BK142 := n0_; have BK143 := n1_; have HB := n2_; clear n0_ n1_ n2_; (try clear hb); (try clear hb2); (try clear hk); (try clear hi))))
      go_meet
      case rel => exact ⟨_, (true), (by first | rfl | (simp; done) | (simp [*]; done)), H', ⟨by first | omega | exact Nat.le_refl _⟩, ⟨by (with_reducible repeat (first | refine blk_drewN ?_ _ | refine blk_drew ?_ | refine blk_alloc ?_ _)); exact BK142.out⟩, ⟨by (with_reducible repeat (first | refine blk_drewN ?_ _ | refine blk_drew ?_ | refine blk_alloc ?_ _)); exact BK143.out⟩, ⟨by repeat (first | (with_reducible first | exact HB.out | apply below_alloc | apply pw_below_drewN | apply below_drew1 | refine below_set ?_ GE142.out | refine below_set ?_ GE143.out) | exact HB.out)⟩⟩
  case rest =>
    clear HC3
    try clear c1
    try clear p2
    try clear c7
    try clear c9
    try clear c14
    try clear hcz10_0
    try clear hcz10_1
    try clear hcz10_2
    try clear hcz10_3
    try clear hcz10_4
    try clear hcz10_5
    try clear hcz12_0
    try clear hcz12_1
    try clear hcz15_0
    try clear hcz15_1
    try clear hcz15_2
    try clear hcz15_3
    try clear hcz15_4
    try clear hcz15_5
    try clear hfz10_0
    try clear hfz10_1
    try clear hfz10_2
    try clear hfz10_3
    try clear hfz10_4
    try clear hfz10_5
    try clear hfz12_0
    try clear hfz12_1
    try clear hfz15_0
    try clear hfz15_1
    try clear hfz15_2
    try clear hfz15_3
    try clear hfz15_4
    try clear hfz15_5
    obtain ⟨kq, x15_2, rfl, HA, HJ2, BK142, BK143, HB⟩ := hcut
    cases kq with
    | zero => exact absurd HA.out (by simp [policy_Verdict.j0])
    | succ kj2 =>
      have H := HA.out
      clear HA
      simp only [policy_Verdict.j0] at H
      by_cases c17 : x15_2 = true
      · subst c17
        have H1 : (some (0, false)) = some (r1, r2) := by rw [if_pos rfl] at H; exact H
        clear H
        have H := H1
        clear H1
        simp only [Option.some.injEq, Prod.mk.injEq] at H
        obtain ⟨rfl, rfl⟩ := H
        go_wp2
        repeat (go_quiet (fail); try go_wp2)
        go_ret2
        exact ⟨by first | rfl | (simp [errW_none, errW_some] <;> rfl) | (simp [*, errW_none, errW_some] <;> rfl), by repeat (first | (with_reducible first | exact HB.out | apply below_alloc | apply pw_below_drewN | apply below_drew1 | refine below_set ?_ GE142.out | refine below_set ?_ GE143.out) | exact HB.out)⟩
      · replace c17 := Bool.eq_false_iff.mpr c17
        subst c17
        have H1 : (if a0_1 > 0 then (if a0_2 > 0 then (policy_Verdict.j1 kj2 (a1_1 == 0) (a1_1 == 0) a0_0 a0_1 a0_2 a0_3 a0_4 a0_5 a1_0 a1_1) else (policy_Verdict.j1 kj2 (a1_1 == 0) false a0_0 a0_1 a0_2 a0_3 a0_4 a0_5 a1_0 a1_1)) else (if a0_2 > 0 then (policy_Verdict.j1 kj2 false (a1_1 == 0) a0_0 a0_1 a0_2 a0_3 a0_4 a0_5 a1_0 a1_1) else (policy_Verdict.j1 kj2 false false a0_0 a0_1 a0_2 a0_3 a0_4 a0_5 a1_0 a1_1))) = some (r1, r2) := by rw [if_neg (show ¬ (false = true) by decide)] at H; exact H
        clear H
        have H := H1
        clear H1
        have HC18 := Aside0.mk H
        clear H
        go_upto_region 3 with (fail)
        repeat (go_quiet (fail); go_upto_region 3 with (fail))
        go_cut [6, 7] (fun v6 v7 wc => ∃ (kq : Nat) (x6_17 : Bool) (x7_17 : Bool), v6 = .bool x6_17 ∧ v7 = .bool x7_17 ∧ Aside0 (policy_Verdict.j1 kq x6_17 x7_17 a0_0 a0_1 a0_2 a0_3 a0_4 a0_5 a1_0 a1_1 = some (r1, r2)) ∧ Aside0 (kq ≤ kj2) ∧ Aside0 (wc.heap[gb142]? = some (.cells #[.int .i64 a0_0, .int .i64 a0_1, .int .i64 a0_2, .int .i64 a0_3, .int .i64 a0_4, .int .i64 a0_5] 30 (0, 0))) ∧ Aside0 (wc.heap[gb143]? = some (.cells #[.int .i64 a1_0, .int .i64 a1_1] 23 (0, 0))) ∧ Aside0 (Below w.heap.size w wc))
        case first =>
          have H := HC18.out
          clear HC18
          by_cases c19 : a0_1 > 0
          · rw [if_pos c19] at H
            have c19b0 : decide (0 < a0_1) = true := decide_eq_true c19
            clear c19
            (first | rw [c19b0] | (simp only [i64_w, i32_w]; rw [c19b0]) | skip)
            by_cases c20 : a0_2 > 0
            · rw [if_pos c20] at H
              have c20b0 : decide (0 < a0_2) = true := decide_eq_true c20
              clear c20
              have H' := Aside0.mk H
              clear H
              have hnb21 := NB142_143.out
              have hnc21 := NB143_142.out
              have hcz22_0 : wc.cell? ⟨gb142, 0, none⟩ = some (.int .i64 a0_0) := (blk_cell BK142.out 0).trans rfl
              have hcz22_1 : wc.cell? ⟨gb142, 1, none⟩ = some (.int .i64 a0_1) := (blk_cell BK142.out 1).trans rfl
              have hcz22_2 : wc.cell? ⟨gb142, 2, none⟩ = some (.int .i64 a0_2) := (blk_cell BK142.out 2).trans rfl
              have hcz22_3 : wc.cell? ⟨gb142, 3, none⟩ = some (.int .i64 a0_3) := (blk_cell BK142.out 3).trans rfl
              have hcz22_4 : wc.cell? ⟨gb142, 4, none⟩ = some (.int .i64 a0_4) := (blk_cell BK142.out 4).trans rfl
              have hcz22_5 : wc.cell? ⟨gb142, 5, none⟩ = some (.int .i64 a0_5) := (blk_cell BK142.out 5).trans rfl
              have hfz22_0 := blk_frozen BK142.out 0
              have hfz22_1 := blk_frozen BK142.out 1
              have hfz22_2 := blk_frozen BK142.out 2
              have hfz22_3 := blk_frozen BK142.out 3
              have hfz22_4 := blk_frozen BK142.out 4
              have hfz22_5 := blk_frozen BK142.out 5
              have hcz23_0 : wc.cell? ⟨gb143, 0, none⟩ = some (.int .i64 a1_0) := (blk_cell BK143.out 0).trans rfl
              have hcz23_1 : wc.cell? ⟨gb143, 1, none⟩ = some (.int .i64 a1_1) := (blk_cell BK143.out 1).trans rfl
              have hfz23_0 := blk_frozen BK143.out 0
              have hfz23_1 := blk_frozen BK143.out 1
              go_wp2
              repeat (go_quiet (fail); try go_wp2)
              go_meet
              case rel => exact ⟨_, ((a1_1 == 0)), ((a1_1 == 0)), (by first | rfl | (simp; done) | (simp [*]; done)), (by first | rfl | (simp; done) | (simp [*]; done)), H', ⟨by have := HJ2.out; first | omega | exact Nat.le_refl _⟩, ⟨by (with_reducible repeat (first | refine blk_drewN ?_ _ | refine blk_drew ?_ | refine blk_alloc ?_ _)); exact BK142.out⟩, ⟨by (with_reducible repeat (first | refine blk_drewN ?_ _ | refine blk_drew ?_ | refine blk_alloc ?_ _)); exact BK143.out⟩, ⟨by repeat (first | (with_reducible first | exact HB.out | apply below_alloc | apply pw_below_drewN | apply below_drew1 | refine below_set ?_ GE142.out | refine below_set ?_ GE143.out) | exact HB.out)⟩⟩
            · rw [if_neg c20] at H
              have c20b0 : decide (0 < a0_2) = false := decide_eq_false c20
              clear c20
              have H' := Aside0.mk H
              clear H
              have hnb24 := NB142_143.out
              have hnc24 := NB143_142.out
              have hcz25_0 : wc.cell? ⟨gb142, 0, none⟩ = some (.int .i64 a0_0) := (blk_cell BK142.out 0).trans rfl
              have hcz25_1 : wc.cell? ⟨gb142, 1, none⟩ = some (.int .i64 a0_1) := (blk_cell BK142.out 1).trans rfl
              have hcz25_2 : wc.cell? ⟨gb142, 2, none⟩ = some (.int .i64 a0_2) := (blk_cell BK142.out 2).trans rfl
              have hcz25_3 : wc.cell? ⟨gb142, 3, none⟩ = some (.int .i64 a0_3) := (blk_cell BK142.out 3).trans rfl
              have hcz25_4 : wc.cell? ⟨gb142, 4, none⟩ = some (.int .i64 a0_4) := (blk_cell BK142.out 4).trans rfl
              have hcz25_5 : wc.cell? ⟨gb142, 5, none⟩ = some (.int .i64 a0_5) := (blk_cell BK142.out 5).trans rfl
              have hfz25_0 := blk_frozen BK142.out 0
              have hfz25_1 := blk_frozen BK142.out 1
              have hfz25_2 := blk_frozen BK142.out 2
              have hfz25_3 := blk_frozen BK142.out 3
              have hfz25_4 := blk_frozen BK142.out 4
              have hfz25_5 := blk_frozen BK142.out 5
              have hcz26_0 : wc.cell? ⟨gb143, 0, none⟩ = some (.int .i64 a1_0) := (blk_cell BK143.out 0).trans rfl
              have hcz26_1 : wc.cell? ⟨gb143, 1, none⟩ = some (.int .i64 a1_1) := (blk_cell BK143.out 1).trans rfl
              have hfz26_0 := blk_frozen BK143.out 0
              have hfz26_1 := blk_frozen BK143.out 1
              go_wp2
              repeat (go_quiet (fail); try go_wp2)
              go_meet
              case rel => exact ⟨_, ((a1_1 == 0)), (false), (by first | rfl | (simp; done) | (simp [*]; done)), (by first | rfl | (simp; done) | (simp [*]; done)), H', ⟨by have := HJ2.out; first | omega | exact Nat.le_refl _⟩, ⟨by (with_reducible repeat (first | refine blk_drewN ?_ _ | refine blk_drew ?_ | refine blk_alloc ?_ _)); exact BK142.out⟩, ⟨by (with_reducible repeat (first | refine blk_drewN ?_ _ | refine blk_drew ?_ | refine blk_alloc ?_ _)); exact BK143.out⟩, ⟨by repeat (first | (with_reducible first | exact HB.out | apply below_alloc | apply pw_below_drewN | apply below_drew1 | refine below_set ?_ GE142.out | refine below_set ?_ GE143.out) | exact HB.out)⟩⟩
          · rw [if_neg c19] at H
            have c19b0 : decide (0 < a0_1) = false := decide_eq_false c19
            clear c19
            (first | rw [c19b0] | (simp only [i64_w, i32_w]; rw [c19b0]) | skip)
            by_cases c27 : a0_2 > 0
            · rw [if_pos c27] at H
              have c27b0 : decide (0 < a0_2) = true := decide_eq_true c27
              clear c27
              have H' := Aside0.mk H
              clear H
              have hnb28 := NB142_143.out
              have hnc28 := NB143_142.out
              have hcz29_0 : wc.cell? ⟨gb142, 0, none⟩ = some (.int .i64 a0_0) := (blk_cell BK142.out 0).trans rfl
              have hcz29_1 : wc.cell? ⟨gb142, 1, none⟩ = some (.int .i64 a0_1) := (blk_cell BK142.out 1).trans rfl
              have hcz29_2 : wc.cell? ⟨gb142, 2, none⟩ = some (.int .i64 a0_2) := (blk_cell BK142.out 2).trans rfl
              have hcz29_3 : wc.cell? ⟨gb142, 3, none⟩ = some (.int .i64 a0_3) := (blk_cell BK142.out 3).trans rfl
              have hcz29_4 : wc.cell? ⟨gb142, 4, none⟩ = some (.int .i64 a0_4) := (blk_cell BK142.out 4).trans rfl
              have hcz29_5 : wc.cell? ⟨gb142, 5, none⟩ = some (.int .i64 a0_5) := (blk_cell BK142.out 5).trans rfl
              have hfz29_0 := blk_frozen BK142.out 0
              have hfz29_1 := blk_frozen BK142.out 1
              have hfz29_2 := blk_frozen BK142.out 2
              have hfz29_3 := blk_frozen BK142.out 3
              have hfz29_4 := blk_frozen BK142.out 4
              have hfz29_5 := blk_frozen BK142.out 5
              have hcz30_0 : wc.cell? ⟨gb143, 0, none⟩ = some (.int .i64 a1_0) := (blk_cell BK143.out 0).trans rfl
              have hcz30_1 : wc.cell? ⟨gb143, 1, none⟩ = some (.int .i64 a1_1) := (blk_cell BK143.out 1).trans rfl
              have hfz30_0 := blk_frozen BK143.out 0
              have hfz30_1 := blk_frozen BK143.out 1
              go_wp2
              repeat (go_quiet (fail); try go_wp2)
              go_meet
              case rel => exact ⟨_, (false), ((a1_1 == 0)), (by first | rfl | (simp; done) | (simp [*]; done)), (by first | rfl | (simp; done) | (simp [*]; done)), H', ⟨by have := HJ2.out; first | omega | exact Nat.le_refl _⟩, ⟨by (with_reducible repeat (first | refine blk_drewN ?_ _ | refine blk_drew ?_ | refine blk_alloc ?_ _)); exact BK142.out⟩, ⟨by (with_reducible repeat (first | refine blk_drewN ?_ _ | refine blk_drew ?_ | refine blk_alloc ?_ _)); exact BK143.out⟩, ⟨by repeat (first | (with_reducible first | exact HB.out | apply below_alloc | apply pw_below_drewN | apply below_drew1 | refine below_set ?_ GE142.out | refine below_set ?_ GE143.out) | exact HB.out)⟩⟩
            · rw [if_neg c27] at H
              have c27b0 : decide (0 < a0_2) = false := decide_eq_false c27
              clear c27
              have H' := Aside0.mk H
              clear H
              have hnb31 := NB142_143.out
              have hnc31 := NB143_142.out
              have hcz32_0 : wc.cell? ⟨gb142, 0, none⟩ = some (.int .i64 a0_0) := (blk_cell BK142.out 0).trans rfl
              have hcz32_1 : wc.cell? ⟨gb142, 1, none⟩ = some (.int .i64 a0_1) := (blk_cell BK142.out 1).trans rfl
              have hcz32_2 : wc.cell? ⟨gb142, 2, none⟩ = some (.int .i64 a0_2) := (blk_cell BK142.out 2).trans rfl
              have hcz32_3 : wc.cell? ⟨gb142, 3, none⟩ = some (.int .i64 a0_3) := (blk_cell BK142.out 3).trans rfl
              have hcz32_4 : wc.cell? ⟨gb142, 4, none⟩ = some (.int .i64 a0_4) := (blk_cell BK142.out 4).trans rfl
              have hcz32_5 : wc.cell? ⟨gb142, 5, none⟩ = some (.int .i64 a0_5) := (blk_cell BK142.out 5).trans rfl
              have hfz32_0 := blk_frozen BK142.out 0
              have hfz32_1 := blk_frozen BK142.out 1
              have hfz32_2 := blk_frozen BK142.out 2
              have hfz32_3 := blk_frozen BK142.out 3
              have hfz32_4 := blk_frozen BK142.out 4
              have hfz32_5 := blk_frozen BK142.out 5
              go_wp2
              repeat (go_quiet (fail); try go_wp2)
              go_meet
              case rel => exact ⟨_, (false), (false), (by first | rfl | (simp; done) | (simp [*]; done)), (by first | rfl | (simp; done) | (simp [*]; done)), H', ⟨by have := HJ2.out; first | omega | exact Nat.le_refl _⟩, ⟨by (with_reducible repeat (first | refine blk_drewN ?_ _ | refine blk_drew ?_ | refine blk_alloc ?_ _)); exact BK142.out⟩, ⟨by (with_reducible repeat (first | refine blk_drewN ?_ _ | refine blk_drew ?_ | refine blk_alloc ?_ _)); exact BK143.out⟩, ⟨by repeat (first | (with_reducible first | exact HB.out | apply below_alloc | apply pw_below_drewN | apply below_drew1 | refine below_set ?_ GE142.out | refine below_set ?_ GE143.out) | exact HB.out)⟩⟩
        case rest =>
          clear HC18
          try clear c1
          try clear c2
          try clear p2
          try clear c3
          try clear c7
          try clear c9
          try clear c14
          try clear c17
          try clear c18
          try clear c19
          try clear c19b0
          try clear c20
          try clear c20b0
          try clear c21
          try clear c24
          try clear c27
          try clear c27b0
          try clear c28
          try clear c31
          try clear hcz10_0
          try clear hcz10_1
          try clear hcz10_2
          try clear hcz10_3
          try clear hcz10_4
          try clear hcz10_5
          try clear hcz12_0
          try clear hcz12_1
          try clear hcz15_0
          try clear hcz15_1
          try clear hcz15_2
          try clear hcz15_3
          try clear hcz15_4
          try clear hcz15_5
          try clear hcz22_0
          try clear hcz22_1
          try clear hcz22_2
          try clear hcz22_3
          try clear hcz22_4
          try clear hcz22_5
          try clear hcz23_0
          try clear hcz23_1
          try clear hcz25_0
          try clear hcz25_1
          try clear hcz25_2
          try clear hcz25_3
          try clear hcz25_4
          try clear hcz25_5
          try clear hcz26_0
          try clear hcz26_1
          try clear hcz29_0
          try clear hcz29_1
          try clear hcz29_2
          try clear hcz29_3
          try clear hcz29_4
          try clear hcz29_5
          try clear hcz30_0
          try clear hcz30_1
          try clear hcz32_0
          try clear hcz32_1
          try clear hcz32_2
          try clear hcz32_3
          try clear hcz32_4
          try clear hcz32_5
          try clear hfz10_0
          try clear hfz10_1
          try clear hfz10_2
          try clear hfz10_3
          try clear hfz10_4
          try clear hfz10_5
          try clear hfz12_0
          try clear hfz12_1
          try clear hfz15_0
          try clear hfz15_1
          try clear hfz15_2
          try clear hfz15_3
          try clear hfz15_4
          try clear hfz15_5
          try clear hfz22_0
          try clear hfz22_1
          try clear hfz22_2
          try clear hfz22_3
          try clear hfz22_4
          try clear hfz22_5
          try clear hfz23_0
          try clear hfz23_1
          try clear hfz25_0
          try clear hfz25_1
          try clear hfz25_2
          try clear hfz25_3
          try clear hfz25_4
          try clear hfz25_5
          try clear hfz26_0
          try clear hfz26_1
          try clear hfz29_0
          try clear hfz29_1
          try clear hfz29_2
          try clear hfz29_3
          try clear hfz29_4
          try clear hfz29_5
          try clear hfz30_0
          try clear hfz30_1
          try clear hfz32_0
          try clear hfz32_1
          try clear hfz32_2
          try clear hfz32_3
          try clear hfz32_4
          try clear hfz32_5
          try clear p2
          obtain ⟨kq, x6_17, x7_17, rfl, rfl, HA, HJ17, BK142, BK143, HB⟩ := hcut
          cases kq with
          | zero => exact absurd HA.out (by simp [policy_Verdict.j1])
          | succ kj17 =>
            have H := HA.out
            clear HA
            simp only [policy_Verdict.j1] at H
            have HC33 := Aside0.mk H
            clear H
            go_upto_region 4 with (fail)
            repeat (go_quiet (fail); go_upto_region 4 with (fail))
            go_cut [32] (fun v32 wc => ∃ (kq : Nat) (x32_32 : Bool), v32 = .bool x32_32 ∧ Aside0 (policy_Verdict.j2 kq x6_17 x7_17 x32_32 = some (r1, r2)) ∧ Aside0 (kq ≤ kj17) ∧ Aside0 (wc.heap[gb142]? = some (.cells #[.int .i64 a0_0, .int .i64 a0_1, .int .i64 a0_2, .int .i64 a0_3, .int .i64 a0_4, .int .i64 a0_5] 30 (0, 0))) ∧ Aside0 (wc.heap[gb143]? = some (.cells #[.int .i64 a1_0, .int .i64 a1_1] 23 (0, 0))) ∧ Aside0 (Below w.heap.size w wc))
            case first =>
              have H := HC33.out
              clear HC33
              by_cases c34 : a0_0 > 0
              · rw [if_pos c34] at H
                have c34b0 : decide (0 < a0_0) = true := decide_eq_true c34
                clear c34
                (first | rw [c34b0] | (simp only [i64_w, i32_w]; rw [c34b0]) | skip)
                have H' := Aside0.mk H
                clear H
                have hnb35 := NB142_143.out
                have hnc35 := NB143_142.out
                have hcz36_0 : wc.cell? ⟨gb142, 0, none⟩ = some (.int .i64 a0_0) := (blk_cell BK142.out 0).trans rfl
                have hcz36_1 : wc.cell? ⟨gb142, 1, none⟩ = some (.int .i64 a0_1) := (blk_cell BK142.out 1).trans rfl
                have hcz36_2 : wc.cell? ⟨gb142, 2, none⟩ = some (.int .i64 a0_2) := (blk_cell BK142.out 2).trans rfl
                have hcz36_3 : wc.cell? ⟨gb142, 3, none⟩ = some (.int .i64 a0_3) := (blk_cell BK142.out 3).trans rfl
                have hcz36_4 : wc.cell? ⟨gb142, 4, none⟩ = some (.int .i64 a0_4) := (blk_cell BK142.out 4).trans rfl
                have hcz36_5 : wc.cell? ⟨gb142, 5, none⟩ = some (.int .i64 a0_5) := (blk_cell BK142.out 5).trans rfl
                have hfz36_0 := blk_frozen BK142.out 0
                have hfz36_1 := blk_frozen BK142.out 1
                have hfz36_2 := blk_frozen BK142.out 2
                have hfz36_3 := blk_frozen BK142.out 3
                have hfz36_4 := blk_frozen BK142.out 4
                have hfz36_5 := blk_frozen BK142.out 5
                have hcz37_0 : wc.cell? ⟨gb143, 0, none⟩ = some (.int .i64 a1_0) := (blk_cell BK143.out 0).trans rfl
                have hcz37_1 : wc.cell? ⟨gb143, 1, none⟩ = some (.int .i64 a1_1) := (blk_cell BK143.out 1).trans rfl
                have hfz37_0 := blk_frozen BK143.out 0
                have hfz37_1 := blk_frozen BK143.out 1
                go_wp2
                repeat (go_quiet (fail); try go_wp2)
                go_meet
                case rel => exact ⟨_, ((a1_0 == 0)), (by first | rfl | (simp; done) | (simp [*]; done)), H', ⟨by have := HJ2.out; have := HJ17.out; first | omega | exact Nat.le_refl _⟩, ⟨by (with_reducible repeat (first | refine blk_drewN ?_ _ | refine blk_drew ?_ | refine blk_alloc ?_ _)); exact BK142.out⟩, ⟨by (with_reducible repeat (first | refine blk_drewN ?_ _ | refine blk_drew ?_ | refine blk_alloc ?_ _)); exact BK143.out⟩, ⟨by repeat (first | (with_reducible first | exact HB.out | apply below_alloc | apply pw_below_drewN | apply below_drew1 | refine below_set ?_ GE142.out | refine below_set ?_ GE143.out) | exact HB.out)⟩⟩
              · rw [if_neg c34] at H
                have c34b0 : decide (0 < a0_0) = false := decide_eq_false c34
                clear c34
                (first | rw [c34b0] | (simp only [i64_w, i32_w]; rw [c34b0]) | skip)
                have H' := Aside0.mk H
                clear H
                have hnb38 := NB142_143.out
                have hnc38 := NB143_142.out
                have hcz39_0 : wc.cell? ⟨gb142, 0, none⟩ = some (.int .i64 a0_0) := (blk_cell BK142.out 0).trans rfl
                have hcz39_1 : wc.cell? ⟨gb142, 1, none⟩ = some (.int .i64 a0_1) := (blk_cell BK142.out 1).trans rfl
                have hcz39_2 : wc.cell? ⟨gb142, 2, none⟩ = some (.int .i64 a0_2) := (blk_cell BK142.out 2).trans rfl
                have hcz39_3 : wc.cell? ⟨gb142, 3, none⟩ = some (.int .i64 a0_3) := (blk_cell BK142.out 3).trans rfl
                have hcz39_4 : wc.cell? ⟨gb142, 4, none⟩ = some (.int .i64 a0_4) := (blk_cell BK142.out 4).trans rfl
                have hcz39_5 : wc.cell? ⟨gb142, 5, none⟩ = some (.int .i64 a0_5) := (blk_cell BK142.out 5).trans rfl
                have hfz39_0 := blk_frozen BK142.out 0
                have hfz39_1 := blk_frozen BK142.out 1
                have hfz39_2 := blk_frozen BK142.out 2
                have hfz39_3 := blk_frozen BK142.out 3
                have hfz39_4 := blk_frozen BK142.out 4
                have hfz39_5 := blk_frozen BK142.out 5
                go_wp2
                repeat (go_quiet (fail); try go_wp2)
                go_meet
                case rel => exact ⟨_, (false), (by first | rfl | (simp; done) | (simp [*]; done)), H', ⟨by have := HJ2.out; have := HJ17.out; first | omega | exact Nat.le_refl _⟩, ⟨by (with_reducible repeat (first | refine blk_drewN ?_ _ | refine blk_drew ?_ | refine blk_alloc ?_ _)); exact BK142.out⟩, ⟨by (with_reducible repeat (first | refine blk_drewN ?_ _ | refine blk_drew ?_ | refine blk_alloc ?_ _)); exact BK143.out⟩, ⟨by repeat (first | (with_reducible first | exact HB.out | apply below_alloc | apply pw_below_drewN | apply below_drew1 | refine below_set ?_ GE142.out | refine below_set ?_ GE143.out) | exact HB.out)⟩⟩
            case rest =>
              clear HC33
              try clear c1
              try clear c2
              try clear p2
              try clear c3
              try clear c7
              try clear c9
              try clear c14
              try clear c17
              try clear c18
              try clear c19
              try clear c19b0
              try clear c20
              try clear c20b0
              try clear c21
              try clear c24
              try clear c27
              try clear c27b0
              try clear c28
              try clear c31
              try clear c34
              try clear c34b0
              try clear c35
              try clear c38
              try clear hcz10_0
              try clear hcz10_1
              try clear hcz10_2
              try clear hcz10_3
              try clear hcz10_4
              try clear hcz10_5
              try clear hcz12_0
              try clear hcz12_1
              try clear hcz15_0
              try clear hcz15_1
              try clear hcz15_2
              try clear hcz15_3
              try clear hcz15_4
              try clear hcz15_5
              try clear hcz22_0
              try clear hcz22_1
              try clear hcz22_2
              try clear hcz22_3
              try clear hcz22_4
              try clear hcz22_5
              try clear hcz23_0
              try clear hcz23_1
              try clear hcz25_0
              try clear hcz25_1
              try clear hcz25_2
              try clear hcz25_3
              try clear hcz25_4
              try clear hcz25_5
              try clear hcz26_0
              try clear hcz26_1
              try clear hcz29_0
              try clear hcz29_1
              try clear hcz29_2
              try clear hcz29_3
              try clear hcz29_4
              try clear hcz29_5
              try clear hcz30_0
              try clear hcz30_1
              try clear hcz32_0
              try clear hcz32_1
              try clear hcz32_2
              try clear hcz32_3
              try clear hcz32_4
              try clear hcz32_5
              try clear hcz36_0
              try clear hcz36_1
              try clear hcz36_2
              try clear hcz36_3
              try clear hcz36_4
              try clear hcz36_5
              try clear hcz37_0
              try clear hcz37_1
              try clear hcz39_0
              try clear hcz39_1
              try clear hcz39_2
              try clear hcz39_3
              try clear hcz39_4
              try clear hcz39_5
              try clear hfz10_0
              try clear hfz10_1
              try clear hfz10_2
              try clear hfz10_3
              try clear hfz10_4
              try clear hfz10_5
              try clear hfz12_0
              try clear hfz12_1
              try clear hfz15_0
              try clear hfz15_1
              try clear hfz15_2
              try clear hfz15_3
              try clear hfz15_4
              try clear hfz15_5
              try clear hfz22_0
              try clear hfz22_1
              try clear hfz22_2
              try clear hfz22_3
              try clear hfz22_4
              try clear hfz22_5
              try clear hfz23_0
              try clear hfz23_1
              try clear hfz25_0
              try clear hfz25_1
              try clear hfz25_2
              try clear hfz25_3
              try clear hfz25_4
              try clear hfz25_5
              try clear hfz26_0
              try clear hfz26_1
              try clear hfz29_0
              try clear hfz29_1
              try clear hfz29_2
              try clear hfz29_3
              try clear hfz29_4
              try clear hfz29_5
              try clear hfz30_0
              try clear hfz30_1
              try clear hfz32_0
              try clear hfz32_1
              try clear hfz32_2
              try clear hfz32_3
              try clear hfz32_4
              try clear hfz32_5
              try clear hfz36_0
              try clear hfz36_1
              try clear hfz36_2
              try clear hfz36_3
              try clear hfz36_4
              try clear hfz36_5
              try clear hfz37_0
              try clear hfz37_1
              try clear hfz39_0
              try clear hfz39_1
              try clear hfz39_2
              try clear hfz39_3
              try clear hfz39_4
              try clear hfz39_5
              try clear p2
              obtain ⟨kq, x32_32, rfl, HA, HJ32, BK142, BK143, HB⟩ := hcut
              cases kq with
              | zero => exact absurd HA.out (by simp [policy_Verdict.j2])
              | succ kj32 =>
                have H := HA.out
                clear HA
                simp only [policy_Verdict.j2] at H
                have HC40 := Aside0.mk H
                clear H
                go_upto_if 32 with (fail)
                repeat (go_quiet (fail); go_upto_if 32 with (fail))
                go_cut [32] (fun v32 wc => ∃ (kq : Nat) (x32_39 : Bool), v32 = .bool x32_39 ∧ Aside0 (policy_Verdict.j3 kq x6_17 x7_17 x32_39 = some (r1, r2)) ∧ Aside0 (kq ≤ kj32) ∧ Aside0 (wc.heap[gb142]? = some (.cells #[.int .i64 a0_0, .int .i64 a0_1, .int .i64 a0_2, .int .i64 a0_3, .int .i64 a0_4, .int .i64 a0_5] 30 (0, 0))) ∧ Aside0 (wc.heap[gb143]? = some (.cells #[.int .i64 a1_0, .int .i64 a1_1] 23 (0, 0))) ∧ Aside0 (Below w.heap.size w wc))
                case first =>
                  have H := HC40.out
                  clear HC40
                  by_cases c41 : x32_32 = true
                  · subst c41
                    have H1 : (policy_Verdict.j3 kj32 x6_17 x7_17 true) = some (r1, r2) := by rw [if_pos rfl] at H; exact H
                    clear H
                    have H := H1
                    clear H1
                    have H' := Aside0.mk H
                    clear H
                    go_wp2
                    repeat (go_quiet (fail); try go_wp2)
                    go_meet
                    case rel => exact ⟨_, (true), (by first | rfl | (simp; done) | (simp [*]; done)), H', ⟨by have := HJ2.out; have := HJ17.out; have := HJ32.out; first | omega | exact Nat.le_refl _⟩, ⟨by (with_reducible repeat (first | refine blk_drewN ?_ _ | refine blk_drew ?_ | refine blk_alloc ?_ _)); exact BK142.out⟩, ⟨by (with_reducible repeat (first | refine blk_drewN ?_ _ | refine blk_drew ?_ | refine blk_alloc ?_ _)); exact BK143.out⟩, ⟨by repeat (first | (with_reducible first | exact HB.out | apply below_alloc | apply pw_below_drewN | apply below_drew1 | refine below_set ?_ GE142.out | refine below_set ?_ GE143.out) | exact HB.out)⟩⟩
                  · replace c41 := Bool.eq_false_iff.mpr c41
                    subst c41
                    have H1 : (if x6_17 = true then (policy_Verdict.j3 kj32 x6_17 x7_17 x7_17) else (policy_Verdict.j3 kj32 x6_17 x7_17 false)) = some (r1, r2) := by rw [if_neg (show ¬ (false = true) by decide)] at H; exact H
                    clear H
                    have H := H1
                    clear H1
                    by_cases c42 : x6_17 = true
                    · subst c42
                      have H1 : (policy_Verdict.j3 kj32 true x7_17 x7_17) = some (r1, r2) := by rw [if_pos rfl] at H; exact H
                      clear H
                      have H := H1
                      clear H1
                      have H' := Aside0.mk H
                      clear H
                      go_wp2
                      repeat (go_quiet (fail); try go_wp2)
                      go_meet
                      case rel => exact ⟨_, (x7_17), (by first | rfl | (simp; done) | (simp [*]; done)), H', ⟨by have := HJ2.out; have := HJ17.out; have := HJ32.out; first | omega | exact Nat.le_refl _⟩, ⟨by (with_reducible repeat (first | refine blk_drewN ?_ _ | refine blk_drew ?_ | refine blk_alloc ?_ _)); exact BK142.out⟩, ⟨by (with_reducible repeat (first | refine blk_drewN ?_ _ | refine blk_drew ?_ | refine blk_alloc ?_ _)); exact BK143.out⟩, ⟨by repeat (first | (with_reducible first | exact HB.out | apply below_alloc | apply pw_below_drewN | apply below_drew1 | refine below_set ?_ GE142.out | refine below_set ?_ GE143.out) | exact HB.out)⟩⟩
                    · replace c42 := Bool.eq_false_iff.mpr c42
                      subst c42
                      have H1 : (policy_Verdict.j3 kj32 false x7_17 false) = some (r1, r2) := by rw [if_neg (show ¬ (false = true) by decide)] at H; exact H
                      clear H
                      have H := H1
                      clear H1
                      have H' := Aside0.mk H
                      clear H
                      go_wp2
                      repeat (go_quiet (fail); try go_wp2)
                      go_meet
                      case rel => exact ⟨_, (false), (by first | rfl | (simp; done) | (simp [*]; done)), H', ⟨by have := HJ2.out; have := HJ17.out; have := HJ32.out; first | omega | exact Nat.le_refl _⟩, ⟨by (with_reducible repeat (first | refine blk_drewN ?_ _ | refine blk_drew ?_ | refine blk_alloc ?_ _)); exact BK142.out⟩, ⟨by (with_reducible repeat (first | refine blk_drewN ?_ _ | refine blk_drew ?_ | refine blk_alloc ?_ _)); exact BK143.out⟩, ⟨by repeat (first | (with_reducible first | exact HB.out | apply below_alloc | apply pw_below_drewN | apply below_drew1 | refine below_set ?_ GE142.out | refine below_set ?_ GE143.out) | exact HB.out)⟩⟩
                case rest =>
                  clear HC40
                  try clear c1
                  try clear c2
                  try clear p2
                  try clear c3
                  try clear c4
                  try clear c7
                  try clear c9
                  try clear c14
                  try clear c17
                  try clear c18
                  try clear c19
                  try clear c19b0
                  try clear c20
                  try clear c20b0
                  try clear c21
                  try clear c24
                  try clear c27
                  try clear c27b0
                  try clear c28
                  try clear c31
                  try clear c34
                  try clear c34b0
                  try clear c35
                  try clear c38
                  try clear c41
                  try clear c42
                  try clear hcz10_0
                  try clear hcz10_1
                  try clear hcz10_2
                  try clear hcz10_3
                  try clear hcz10_4
                  try clear hcz10_5
                  try clear hcz12_0
                  try clear hcz12_1
                  try clear hcz15_0
                  try clear hcz15_1
                  try clear hcz15_2
                  try clear hcz15_3
                  try clear hcz15_4
                  try clear hcz15_5
                  try clear hcz22_0
                  try clear hcz22_1
                  try clear hcz22_2
                  try clear hcz22_3
                  try clear hcz22_4
                  try clear hcz22_5
                  try clear hcz23_0
                  try clear hcz23_1
                  try clear hcz25_0
                  try clear hcz25_1
                  try clear hcz25_2
                  try clear hcz25_3
                  try clear hcz25_4
                  try clear hcz25_5
                  try clear hcz26_0
                  try clear hcz26_1
                  try clear hcz29_0
                  try clear hcz29_1
                  try clear hcz29_2
                  try clear hcz29_3
                  try clear hcz29_4
                  try clear hcz29_5
                  try clear hcz30_0
                  try clear hcz30_1
                  try clear hcz32_0
                  try clear hcz32_1
                  try clear hcz32_2
                  try clear hcz32_3
                  try clear hcz32_4
                  try clear hcz32_5
                  try clear hcz36_0
                  try clear hcz36_1
                  try clear hcz36_2
                  try clear hcz36_3
                  try clear hcz36_4
                  try clear hcz36_5
                  try clear hcz37_0
                  try clear hcz37_1
                  try clear hcz39_0
                  try clear hcz39_1
                  try clear hcz39_2
                  try clear hcz39_3
                  try clear hcz39_4
                  try clear hcz39_5
                  try clear hfz10_0
                  try clear hfz10_1
                  try clear hfz10_2
                  try clear hfz10_3
                  try clear hfz10_4
                  try clear hfz10_5
                  try clear hfz12_0
                  try clear hfz12_1
                  try clear hfz15_0
                  try clear hfz15_1
                  try clear hfz15_2
                  try clear hfz15_3
                  try clear hfz15_4
                  try clear hfz15_5
                  try clear hfz22_0
                  try clear hfz22_1
                  try clear hfz22_2
                  try clear hfz22_3
                  try clear hfz22_4
                  try clear hfz22_5
                  try clear hfz23_0
                  try clear hfz23_1
                  try clear hfz25_0
                  try clear hfz25_1
                  try clear hfz25_2
                  try clear hfz25_3
                  try clear hfz25_4
                  try clear hfz25_5
                  try clear hfz26_0
                  try clear hfz26_1
                  try clear hfz29_0
                  try clear hfz29_1
                  try clear hfz29_2
                  try clear hfz29_3
                  try clear hfz29_4
                  try clear hfz29_5
                  try clear hfz30_0
                  try clear hfz30_1
                  try clear hfz32_0
                  try clear hfz32_1
                  try clear hfz32_2
                  try clear hfz32_3
                  try clear hfz32_4
                  try clear hfz32_5
                  try clear hfz36_0
                  try clear hfz36_1
                  try clear hfz36_2
                  try clear hfz36_3
                  try clear hfz36_4
                  try clear hfz36_5
                  try clear hfz37_0
                  try clear hfz37_1
                  try clear hfz39_0
                  try clear hfz39_1
                  try clear hfz39_2
                  try clear hfz39_3
                  try clear hfz39_4
                  try clear hfz39_5
                  try clear p2
                  obtain ⟨kq, x32_39, rfl, HA, HJ39, BK142, BK143, HB⟩ := hcut
                  cases kq with
                  | zero => exact absurd HA.out (by simp [policy_Verdict.j3])
                  | succ kj39 =>
                    have H := HA.out
                    clear HA
                    simp only [policy_Verdict.j3] at H
                    by_cases c43 : x32_39 = true
                    · subst c43
                      have H1 : ((bits_NaN.f).bind fun t146 => (some (t146, true))) = some (r1, r2) := by rw [if_pos rfl] at H; exact H
                      clear H
                      have H := H1
                      clear H1
                      replace H := Option.bind_eq_some_iff.mp H
                      obtain ⟨t146, A440, H⟩ := H
                      replace H : (some (t146, true)) = some (r1, r2) := H
                      have A44 := Aside0.mk A440
                      clear A440
                      simp only [Option.some.injEq, Prod.mk.injEq] at H
                      obtain ⟨rfl, rfl⟩ := H
                      go_wp2_with (first | (go_at_call 34; (with_reducible refine (bits_NaN.calls  t146 _ A44.out).mono ?_); rintro e w' ⟨rfl, ⟨nd, rfl⟩⟩; (try first | exact ⟨rfl, _, World.drewN_drewN _ _ _⟩ | exact ⟨rfl, _, Eq.trans (World.drewN_drewN _ _ _) (congrArg (World.drewN _) (Nat.add_assoc _ _ _))⟩)))
                      repeat (go_quiet (first | (go_at_call 34; (with_reducible refine (bits_NaN.calls  t146 _ A44.out).mono ?_); rintro e w' ⟨rfl, ⟨nd, rfl⟩⟩; (try first | exact ⟨rfl, _, World.drewN_drewN _ _ _⟩ | exact ⟨rfl, _, Eq.trans (World.drewN_drewN _ _ _) (congrArg (World.drewN _) (Nat.add_assoc _ _ _))⟩))); try go_wp2_with (first | (go_at_call 34; (with_reducible refine (bits_NaN.calls  t146 _ A44.out).mono ?_); rintro e w' ⟨rfl, ⟨nd, rfl⟩⟩; (try first | exact ⟨rfl, _, World.drewN_drewN _ _ _⟩ | exact ⟨rfl, _, Eq.trans (World.drewN_drewN _ _ _) (congrArg (World.drewN _) (Nat.add_assoc _ _ _))⟩))))
                      go_ret2
                      exact ⟨by first | rfl | (simp [errW_none, errW_some] <;> rfl) | (simp [*, errW_none, errW_some] <;> rfl), by repeat (first | (with_reducible first | exact HB.out | apply below_alloc | apply pw_below_drewN | apply below_drew1 | refine below_set ?_ GE142.out | refine below_set ?_ GE143.out) | exact HB.out)⟩
                    · replace c43 := Bool.eq_false_iff.mpr c43
                      subst c43
                      have H1 : (if x6_17 = true then ((math_Inf.f 1).bind fun t147 => (some (t147, true))) else (if x7_17 = true then ((math_Inf.f (-1)).bind fun t148 => (some (t148, true))) else (some (0, false)))) = some (r1, r2) := by rw [if_neg (show ¬ (false = true) by decide)] at H; exact H
                      clear H
                      have H := H1
                      clear H1
                      by_cases c45 : x6_17 = true
                      · subst c45
                        have H1 : ((math_Inf.f 1).bind fun t147 => (some (t147, true))) = some (r1, r2) := by rw [if_pos rfl] at H; exact H
                        clear H
                        have H := H1
                        clear H1
                        replace H := Option.bind_eq_some_iff.mp H
                        obtain ⟨t147, A460, H⟩ := H
                        replace H : (some (t147, true)) = some (r1, r2) := H
                        have A46 := Aside0.mk A460
                        clear A460
                        simp only [Option.some.injEq, Prod.mk.injEq] at H
                        obtain ⟨rfl, rfl⟩ := H
                        go_wp2_with (first | (go_at_call 35; (with_reducible refine (math_Inf.calls 1 t147 _ A46.out).mono ?_); rintro e w' ⟨rfl, ⟨nd, rfl⟩⟩; (try first | exact ⟨rfl, _, World.drewN_drewN _ _ _⟩ | exact ⟨rfl, _, Eq.trans (World.drewN_drewN _ _ _) (congrArg (World.drewN _) (Nat.add_assoc _ _ _))⟩)))
                        repeat (go_quiet (first | (go_at_call 35; (with_reducible refine (math_Inf.calls 1 t147 _ A46.out).mono ?_); rintro e w' ⟨rfl, ⟨nd, rfl⟩⟩; (try first | exact ⟨rfl, _, World.drewN_drewN _ _ _⟩ | exact ⟨rfl, _, Eq.trans (World.drewN_drewN _ _ _) (congrArg (World.drewN _) (Nat.add_assoc _ _ _))⟩))); try go_wp2_with (first | (go_at_call 35; (with_reducible refine (math_Inf.calls 1 t147 _ A46.out).mono ?_); rintro e w' ⟨rfl, ⟨nd, rfl⟩⟩; (try first | exact ⟨rfl, _, World.drewN_drewN _ _ _⟩ | exact ⟨rfl, _, Eq.trans (World.drewN_drewN _ _ _) (congrArg (World.drewN _) (Nat.add_assoc _ _ _))⟩))))
                        go_ret2
                        exact ⟨by first | rfl | (simp [errW_none, errW_some] <;> rfl) | (simp [*, errW_none, errW_some] <;> rfl), by repeat (first | (with_reducible first | exact HB.out | apply below_alloc | apply pw_below_drewN | apply below_drew1 | refine below_set ?_ GE142.out | refine below_set ?_ GE143.out) | exact HB.out)⟩
                      · replace c45 := Bool.eq_false_iff.mpr c45
                        subst c45
                        have H1 : (if x7_17 = true then ((math_Inf.f (-1)).bind fun t148 => (some (t148, true))) else (some (0, false))) = some (r1, r2) := by rw [if_neg (show ¬ (false = true) by decide)] at H; exact H
                        clear H
                        have H := H1
                        clear H1
                        by_cases c47 : x7_17 = true
                        · subst c47
                          have H1 : ((math_Inf.f (-1)).bind fun t148 => (some (t148, true))) = some (r1, r2) := by rw [if_pos rfl] at H; exact H
                          clear H
                          have H := H1
                          clear H1
                          replace H := Option.bind_eq_some_iff.mp H
                          obtain ⟨t148, A480, H⟩ := H
                          replace H : (some (t148, true)) = some (r1, r2) := H
                          have A48 := Aside0.mk A480
                          clear A480
                          simp only [Option.some.injEq, Prod.mk.injEq] at H
                          obtain ⟨rfl, rfl⟩ := H
                          go_wp2_with (first | (go_at_call 35; (with_reducible refine (math_Inf.calls (-1) t148 _ A48.out).mono ?_); rintro e w' ⟨rfl, ⟨nd, rfl⟩⟩; (try first | exact ⟨rfl, _, World.drewN_drewN _ _ _⟩ | exact ⟨rfl, _, Eq.trans (World.drewN_drewN _ _ _) (congrArg (World.drewN _) (Nat.add_assoc _ _ _))⟩)))
                          repeat (go_quiet (first | (go_at_call 35; (with_reducible refine (math_Inf.calls (-1) t148 _ A48.out).mono ?_); rintro e w' ⟨rfl, ⟨nd, rfl⟩⟩; (try first | exact ⟨rfl, _, World.drewN_drewN _ _ _⟩ | exact ⟨rfl, _, Eq.trans (World.drewN_drewN _ _ _) (congrArg (World.drewN _) (Nat.add_assoc _ _ _))⟩))); try go_wp2_with (first | (go_at_call 35; (with_reducible refine (math_Inf.calls (-1) t148 _ A48.out).mono ?_); rintro e w' ⟨rfl, ⟨nd, rfl⟩⟩; (try first | exact ⟨rfl, _, World.drewN_drewN _ _ _⟩ | exact ⟨rfl, _, Eq.trans (World.drewN_drewN _ _ _) (congrArg (World.drewN _) (Nat.add_assoc _ _ _))⟩))))
                          go_ret2
                          exact ⟨by first | rfl | (simp [errW_none, errW_some] <;> rfl) | (simp [*, errW_none, errW_some] <;> rfl), by repeat (first | (with_reducible first | exact HB.out | apply below_alloc | apply pw_below_drewN | apply below_drew1 | refine below_set ?_ GE142.out | refine below_set ?_ GE143.out) | exact HB.out)⟩
                        · replace c47 := Bool.eq_false_iff.mpr c47
                          subst c47
                          have H1 : (some (0, false)) = some (r1, r2) := by rw [if_neg (show ¬ (false = true) by decide)] at H; exact H
                          clear H
                          have H := H1
                          clear H1
                          simp only [Option.some.injEq, Prod.mk.injEq] at H
                          obtain ⟨rfl, rfl⟩ := H
                          go_wp2
                          repeat (go_quiet (fail); try go_wp2)
                          go_ret2
                          exact ⟨by first | rfl | (simp [errW_none, errW_some] <;> rfl) | (simp [*, errW_none, errW_some] <;> rfl), by repeat (first | (with_reducible first | exact HB.out | apply below_alloc | apply pw_below_drewN | apply below_drew1 | refine below_set ?_ GE142.out | refine below_set ?_ GE143.out) | exact HB.out)⟩

end Go.Proofs.Ytkoonpjlpobmeaa.Pr
-- written by this session's own program (wip/fprint.py), which widens the kit's print by floats
namespace Go.Proofs.Ytkoonpjlpobmeaa.Pr
open Go.RowKit Go.Proofs.YtkoonpjlpobmeaaW.PrintWords Go.Proofs.YtkoonpjlpobmeaaW.PrintLast Go.Proofs.YtkoonpjlpobmeaaW.PrintMore
attribute [local go_sem] max2_int min2_int max_two min_two max_three min_three max_four min_four   -- for this text's walks alone
set_option linter.unusedVariables false
set_option linter.unusedSimpArgs false

attribute [local go_sem high] eqA23 eqA30
/-! ### l06_awake: function 7 -/
def l06_awake.f (k : Nat)  : Option (Bool) := (r06_TheNaN.f).bind fun t153 => ((r06_Zero.f true).bind fun t154 => ((r06_Inf.f false).bind fun t155 => ((some (([4607182418800017408, t153, t154, t155, 4612811918334230528] : List Nat) : List Nat)).bind fun y156 => ((policy_Plain.f).bind fun bt159 => ((policy_Sift.f k y156 bt159.1 bt159.2).bind fun bt162 => ((policy_Sift.f k y156 1 2).bind fun bt173 => ((policy_Verdict.f k 0 2 0 0 0 3 bt159.1 bt159.2).bind fun bt184 => ((policy_Nought.f 0 0 0 2 0 2 0).bind fun t186 => (if (bt159.1 == 0 && (bt159.2 == 0)) = true then (if (bt162.1.length : Int) = 3 then (if 2 < (bt162.1.length : Int) then (if (FloatKind.f64.format.order (rdOf (0 : Nat) bt162.1 2) 4612811918334230528 == some .eq) = true then (if (bt162.2.1 == 1 && (bt162.2.2.1 == 1 && (bt162.2.2.2.1 == 0 && (bt162.2.2.2.2.1 == 1 && (bt162.2.2.2.2.2.1 == 0 && (bt162.2.2.2.2.2.2.1 == 5)))))) = true then (if bt162.2.2.2.2.2.2.2 = 0 then (if bt173.2.2.2.2.2.2.2 = 61 then (if bt184.2 = true then ((r06_Inf.f false).bind fun t188 => ((r03_Alike.f bt184.1 t188).bind fun t189 => (if t189 = true then ((r06_Zero.f true).bind fun t190 => ((r03_Alike.f t186 t190).bind fun t191 => (some t191))) else (none)))) else (none)) else (none)) else (none)) else (none)) else (none)) else (none)) else (none)) else (none))))))))))
theorem l06_awake.mono : ∀ k, LeO (l06_awake.f k ) (l06_awake.f (k + 1) ) := by
  intro  k
  unfold l06_awake.f
  repeat' first
      | (with_reducible exact policy_Sift.mono _ _ _ _)
      | (with_reducible exact policy_Verdict.mono _ _ _ _ _ _ _ _ _)
      | (with_reducible exact LeO.refl _)
      | (with_reducible exact LeO.none _)
      | (with_reducible refine LeO.ite ?_ ?_)
      | (with_reducible refine LeO.bind ?_ (fun _ => ?_))
      | exact policy_Sift.mono _ _ _ _
      | exact policy_Verdict.mono _ _ _ _ _ _ _ _ _
      | exact LeO.none _
      | refine LeO.ite ?_ ?_
      | refine LeO.bind ?_ (fun _ => ?_)
set_option maxHeartbeats 3000000 in
set_option maxRecDepth 100000 in
theorem l06_awake.calls (k : Nat)  (r : Bool) (w : World) (h : l06_awake.f k  = some r) :
    Calls Try.prog 7 #[] w fun e w' => e = .returned (.bool r) ∧ Below w.heap.size w w' := by
  have hu23 := Try.underlying23
  have hu30 := Try.underlying30
  have HB := Aside0.mk (Below.refl w.heap.size w)
  have H : ((r06_TheNaN.f).bind fun t153 => ((r06_Zero.f true).bind fun t154 => ((r06_Inf.f false).bind fun t155 => ((some (([4607182418800017408, t153, t154, t155, 4612811918334230528] : List Nat) : List Nat)).bind fun y156 => ((policy_Plain.f).bind fun bt159 => ((policy_Sift.f k y156 bt159.1 bt159.2).bind fun bt162 => ((policy_Sift.f k y156 1 2).bind fun bt173 => ((policy_Verdict.f k 0 2 0 0 0 3 bt159.1 bt159.2).bind fun bt184 => ((policy_Nought.f 0 0 0 2 0 2 0).bind fun t186 => (if (bt159.1 == 0 && (bt159.2 == 0)) = true then (if (bt162.1.length : Int) = 3 then (if 2 < (bt162.1.length : Int) then (if (FloatKind.f64.format.order (rdOf (0 : Nat) bt162.1 2) 4612811918334230528 == some .eq) = true then (if (bt162.2.1 == 1 && (bt162.2.2.1 == 1 && (bt162.2.2.2.1 == 0 && (bt162.2.2.2.2.1 == 1 && (bt162.2.2.2.2.2.1 == 0 && (bt162.2.2.2.2.2.2.1 == 5)))))) = true then (if bt162.2.2.2.2.2.2.2 = 0 then (if bt173.2.2.2.2.2.2.2 = 61 then (if bt184.2 = true then ((r06_Inf.f false).bind fun t188 => ((r03_Alike.f bt184.1 t188).bind fun t189 => (if t189 = true then ((r06_Zero.f true).bind fun t190 => ((r03_Alike.f t186 t190).bind fun t191 => (some t191))) else (none)))) else (none)) else (none)) else (none)) else (none)) else (none)) else (none)) else (none)) else (none))))))))))) = some r := h
  clear h
  replace H := Option.bind_eq_some_iff.mp H
  obtain ⟨t153, A10, H⟩ := H
  replace H : ((r06_Zero.f true).bind fun t154 => ((r06_Inf.f false).bind fun t155 => ((some (([4607182418800017408, t153, t154, t155, 4612811918334230528] : List Nat) : List Nat)).bind fun y156 => ((policy_Plain.f).bind fun bt159 => ((policy_Sift.f k y156 bt159.1 bt159.2).bind fun bt162 => ((policy_Sift.f k y156 1 2).bind fun bt173 => ((policy_Verdict.f k 0 2 0 0 0 3 bt159.1 bt159.2).bind fun bt184 => ((policy_Nought.f 0 0 0 2 0 2 0).bind fun t186 => (if (bt159.1 == 0 && (bt159.2 == 0)) = true then (if (bt162.1.length : Int) = 3 then (if 2 < (bt162.1.length : Int) then (if (FloatKind.f64.format.order (rdOf (0 : Nat) bt162.1 2) 4612811918334230528 == some .eq) = true then (if (bt162.2.1 == 1 && (bt162.2.2.1 == 1 && (bt162.2.2.2.1 == 0 && (bt162.2.2.2.2.1 == 1 && (bt162.2.2.2.2.2.1 == 0 && (bt162.2.2.2.2.2.2.1 == 5)))))) = true then (if bt162.2.2.2.2.2.2.2 = 0 then (if bt173.2.2.2.2.2.2.2 = 61 then (if bt184.2 = true then ((r06_Inf.f false).bind fun t188 => ((r03_Alike.f bt184.1 t188).bind fun t189 => (if t189 = true then ((r06_Zero.f true).bind fun t190 => ((r03_Alike.f t186 t190).bind fun t191 => (some t191))) else (none)))) else (none)) else (none)) else (none)) else (none)) else (none)) else (none)) else (none)) else (none)))))))))) = some r := H
  have A1 := Aside0.mk A10
  clear A10
  replace H := Option.bind_eq_some_iff.mp H
  obtain ⟨t154, A20, H⟩ := H
  replace H : ((r06_Inf.f false).bind fun t155 => ((some (([4607182418800017408, t153, t154, t155, 4612811918334230528] : List Nat) : List Nat)).bind fun y156 => ((policy_Plain.f).bind fun bt159 => ((policy_Sift.f k y156 bt159.1 bt159.2).bind fun bt162 => ((policy_Sift.f k y156 1 2).bind fun bt173 => ((policy_Verdict.f k 0 2 0 0 0 3 bt159.1 bt159.2).bind fun bt184 => ((policy_Nought.f 0 0 0 2 0 2 0).bind fun t186 => (if (bt159.1 == 0 && (bt159.2 == 0)) = true then (if (bt162.1.length : Int) = 3 then (if 2 < (bt162.1.length : Int) then (if (FloatKind.f64.format.order (rdOf (0 : Nat) bt162.1 2) 4612811918334230528 == some .eq) = true then (if (bt162.2.1 == 1 && (bt162.2.2.1 == 1 && (bt162.2.2.2.1 == 0 && (bt162.2.2.2.2.1 == 1 && (bt162.2.2.2.2.2.1 == 0 && (bt162.2.2.2.2.2.2.1 == 5)))))) = true then (if bt162.2.2.2.2.2.2.2 = 0 then (if bt173.2.2.2.2.2.2.2 = 61 then (if bt184.2 = true then ((r06_Inf.f false).bind fun t188 => ((r03_Alike.f bt184.1 t188).bind fun t189 => (if t189 = true then ((r06_Zero.f true).bind fun t190 => ((r03_Alike.f t186 t190).bind fun t191 => (some t191))) else (none)))) else (none)) else (none)) else (none)) else (none)) else (none)) else (none)) else (none)) else (none))))))))) = some r := H
  have A2 := Aside0.mk A20
  clear A20
  replace H := Option.bind_eq_some_iff.mp H
  obtain ⟨t155, A30, H⟩ := H
  replace H : ((some (([4607182418800017408, t153, t154, t155, 4612811918334230528] : List Nat) : List Nat)).bind fun y156 => ((policy_Plain.f).bind fun bt159 => ((policy_Sift.f k y156 bt159.1 bt159.2).bind fun bt162 => ((policy_Sift.f k y156 1 2).bind fun bt173 => ((policy_Verdict.f k 0 2 0 0 0 3 bt159.1 bt159.2).bind fun bt184 => ((policy_Nought.f 0 0 0 2 0 2 0).bind fun t186 => (if (bt159.1 == 0 && (bt159.2 == 0)) = true then (if (bt162.1.length : Int) = 3 then (if 2 < (bt162.1.length : Int) then (if (FloatKind.f64.format.order (rdOf (0 : Nat) bt162.1 2) 4612811918334230528 == some .eq) = true then (if (bt162.2.1 == 1 && (bt162.2.2.1 == 1 && (bt162.2.2.2.1 == 0 && (bt162.2.2.2.2.1 == 1 && (bt162.2.2.2.2.2.1 == 0 && (bt162.2.2.2.2.2.2.1 == 5)))))) = true then (if bt162.2.2.2.2.2.2.2 = 0 then (if bt173.2.2.2.2.2.2.2 = 61 then (if bt184.2 = true then ((r06_Inf.f false).bind fun t188 => ((r03_Alike.f bt184.1 t188).bind fun t189 => (if t189 = true then ((r06_Zero.f true).bind fun t190 => ((r03_Alike.f t186 t190).bind fun t191 => (some t191))) else (none)))) else (none)) else (none)) else (none)) else (none)) else (none)) else (none)) else (none)) else (none)))))))) = some r := H
  have A3 := Aside0.mk A30
  clear A30
  obtain ⟨y156, hy156⟩ : ∃ y_ : List Nat, y_ = (([4607182418800017408, t153, t154, t155, 4612811918334230528] : List Nat)) := ⟨_, rfl⟩
  replace H : ((policy_Plain.f).bind fun bt159 => ((policy_Sift.f k y156 bt159.1 bt159.2).bind fun bt162 => ((policy_Sift.f k y156 1 2).bind fun bt173 => ((policy_Verdict.f k 0 2 0 0 0 3 bt159.1 bt159.2).bind fun bt184 => ((policy_Nought.f 0 0 0 2 0 2 0).bind fun t186 => (if (bt159.1 == 0 && (bt159.2 == 0)) = true then (if (bt162.1.length : Int) = 3 then (if 2 < (bt162.1.length : Int) then (if (FloatKind.f64.format.order (rdOf (0 : Nat) bt162.1 2) 4612811918334230528 == some .eq) = true then (if (bt162.2.1 == 1 && (bt162.2.2.1 == 1 && (bt162.2.2.2.1 == 0 && (bt162.2.2.2.2.1 == 1 && (bt162.2.2.2.2.2.1 == 0 && (bt162.2.2.2.2.2.2.1 == 5)))))) = true then (if bt162.2.2.2.2.2.2.2 = 0 then (if bt173.2.2.2.2.2.2.2 = 61 then (if bt184.2 = true then ((r06_Inf.f false).bind fun t188 => ((r03_Alike.f bt184.1 t188).bind fun t189 => (if t189 = true then ((r06_Zero.f true).bind fun t190 => ((r03_Alike.f t186 t190).bind fun t191 => (some t191))) else (none)))) else (none)) else (none)) else (none)) else (none)) else (none)) else (none)) else (none)) else (none))))))) = some r := by first | (rw [hy156]; with_reducible exact H) | (have H2_ := (Option.bind_some _ _).symm.trans H; rw [hy156]; with_reducible exact H2_) | (have H2_ := (Option.bind_some _ _).symm.trans H; with_reducible exact H2_) | with_reducible exact H | (rw [hy156]; exact H) | exact H
  have Ny156 := Aside0.mk hy156
  clear hy156
  replace H := Option.bind_eq_some_iff.mp H
  obtain ⟨⟨t159, t160⟩, A40, H⟩ := H
  replace H : ((policy_Sift.f k y156 t159 t160).bind fun bt162 => ((policy_Sift.f k y156 1 2).bind fun bt173 => ((policy_Verdict.f k 0 2 0 0 0 3 t159 t160).bind fun bt184 => ((policy_Nought.f 0 0 0 2 0 2 0).bind fun t186 => (if (t159 == 0 && (t160 == 0)) = true then (if (bt162.1.length : Int) = 3 then (if 2 < (bt162.1.length : Int) then (if (FloatKind.f64.format.order (rdOf (0 : Nat) bt162.1 2) 4612811918334230528 == some .eq) = true then (if (bt162.2.1 == 1 && (bt162.2.2.1 == 1 && (bt162.2.2.2.1 == 0 && (bt162.2.2.2.2.1 == 1 && (bt162.2.2.2.2.2.1 == 0 && (bt162.2.2.2.2.2.2.1 == 5)))))) = true then (if bt162.2.2.2.2.2.2.2 = 0 then (if bt173.2.2.2.2.2.2.2 = 61 then (if bt184.2 = true then ((r06_Inf.f false).bind fun t188 => ((r03_Alike.f bt184.1 t188).bind fun t189 => (if t189 = true then ((r06_Zero.f true).bind fun t190 => ((r03_Alike.f t186 t190).bind fun t191 => (some t191))) else (none)))) else (none)) else (none)) else (none)) else (none)) else (none)) else (none)) else (none)) else (none)))))) = some r := H
  have A4 := Aside0.mk A40
  clear A40
  replace H := Option.bind_eq_some_iff.mp H
  obtain ⟨⟨t162, t165, t166, t167, t168, t169, t170, t171⟩, A50, H⟩ := H
  replace H : ((policy_Sift.f k y156 1 2).bind fun bt173 => ((policy_Verdict.f k 0 2 0 0 0 3 t159 t160).bind fun bt184 => ((policy_Nought.f 0 0 0 2 0 2 0).bind fun t186 => (if (t159 == 0 && (t160 == 0)) = true then (if (t162.length : Int) = 3 then (if 2 < (t162.length : Int) then (if (FloatKind.f64.format.order (rdOf (0 : Nat) t162 2) 4612811918334230528 == some .eq) = true then (if (t165 == 1 && (t166 == 1 && (t167 == 0 && (t168 == 1 && (t169 == 0 && (t170 == 5)))))) = true then (if t171 = 0 then (if bt173.2.2.2.2.2.2.2 = 61 then (if bt184.2 = true then ((r06_Inf.f false).bind fun t188 => ((r03_Alike.f bt184.1 t188).bind fun t189 => (if t189 = true then ((r06_Zero.f true).bind fun t190 => ((r03_Alike.f t186 t190).bind fun t191 => (some t191))) else (none)))) else (none)) else (none)) else (none)) else (none)) else (none)) else (none)) else (none)) else (none))))) = some r := H
  have A5 := Aside0.mk A50
  clear A50
  replace H := Option.bind_eq_some_iff.mp H
  obtain ⟨⟨t173, t176, t177, t178, t179, t180, t181, t182⟩, A60, H⟩ := H
  replace H : ((policy_Verdict.f k 0 2 0 0 0 3 t159 t160).bind fun bt184 => ((policy_Nought.f 0 0 0 2 0 2 0).bind fun t186 => (if (t159 == 0 && (t160 == 0)) = true then (if (t162.length : Int) = 3 then (if 2 < (t162.length : Int) then (if (FloatKind.f64.format.order (rdOf (0 : Nat) t162 2) 4612811918334230528 == some .eq) = true then (if (t165 == 1 && (t166 == 1 && (t167 == 0 && (t168 == 1 && (t169 == 0 && (t170 == 5)))))) = true then (if t171 = 0 then (if t182 = 61 then (if bt184.2 = true then ((r06_Inf.f false).bind fun t188 => ((r03_Alike.f bt184.1 t188).bind fun t189 => (if t189 = true then ((r06_Zero.f true).bind fun t190 => ((r03_Alike.f t186 t190).bind fun t191 => (some t191))) else (none)))) else (none)) else (none)) else (none)) else (none)) else (none)) else (none)) else (none)) else (none)))) = some r := H
  have A6 := Aside0.mk A60
  clear A60
  replace H := Option.bind_eq_some_iff.mp H
  obtain ⟨⟨t184, t185⟩, A70, H⟩ := H
  replace H : ((policy_Nought.f 0 0 0 2 0 2 0).bind fun t186 => (if (t159 == 0 && (t160 == 0)) = true then (if (t162.length : Int) = 3 then (if 2 < (t162.length : Int) then (if (FloatKind.f64.format.order (rdOf (0 : Nat) t162 2) 4612811918334230528 == some .eq) = true then (if (t165 == 1 && (t166 == 1 && (t167 == 0 && (t168 == 1 && (t169 == 0 && (t170 == 5)))))) = true then (if t171 = 0 then (if t182 = 61 then (if t185 = true then ((r06_Inf.f false).bind fun t188 => ((r03_Alike.f t184 t188).bind fun t189 => (if t189 = true then ((r06_Zero.f true).bind fun t190 => ((r03_Alike.f t186 t190).bind fun t191 => (some t191))) else (none)))) else (none)) else (none)) else (none)) else (none)) else (none)) else (none)) else (none)) else (none))) = some r := H
  have A7 := Aside0.mk A70
  clear A70
  replace H := Option.bind_eq_some_iff.mp H
  obtain ⟨t186, A80, H⟩ := H
  replace H : (if (t159 == 0 && (t160 == 0)) = true then (if (t162.length : Int) = 3 then (if 2 < (t162.length : Int) then (if (FloatKind.f64.format.order (rdOf (0 : Nat) t162 2) 4612811918334230528 == some .eq) = true then (if (t165 == 1 && (t166 == 1 && (t167 == 0 && (t168 == 1 && (t169 == 0 && (t170 == 5)))))) = true then (if t171 = 0 then (if t182 = 61 then (if t185 = true then ((r06_Inf.f false).bind fun t188 => ((r03_Alike.f t184 t188).bind fun t189 => (if t189 = true then ((r06_Zero.f true).bind fun t190 => ((r03_Alike.f t186 t190).bind fun t191 => (some t191))) else (none)))) else (none)) else (none)) else (none)) else (none)) else (none)) else (none)) else (none)) else (none)) = some r := H
  have A8 := Aside0.mk A80
  clear A80
  by_cases c9 : (t159 == 0 && (t160 == 0)) = true
  · rw [if_pos c9] at H
    have c9b0 : (t159 == 0 && (t160 == 0)) = true := c9
    (try (have c9b1 : decide (t159 = 0 && (t160 == 0)) = true := by simpa using c9))
    (try (have c9b2 : (t159 == 0 && (t160 == 0)) = true := by simpa using c9))
    clear c9
    by_cases c10 : (t162.length : Int) = 3
    · rw [if_pos c10] at H
      have c10b0 : ((t162.length : Int) == 3) = true := beq_iff_eq.mpr c10
      have c10b1 : ((t162.length : Int) != 3) = false := bne_eq_false_iff_eq.mpr c10
      clear c10
      by_cases c11 : 2 < (t162.length : Int)
      · rw [if_pos c11] at H
        have c11b0 : decide (2 < (t162.length : Int)) = true := decide_eq_true c11
        have c11b1 : decide (2 < t162.length) = true := decide_eq_true (by omega)
        clear c11
        by_cases c12 : (FloatKind.f64.format.order (rdOf (0 : Nat) t162 2) 4612811918334230528 == some .eq) = true
        · rw [if_pos c12] at H
          have c12b0 : (FloatKind.f64.format.order (rdOf (0 : Nat) t162 2) 4612811918334230528 == some .eq) = true := c12
          clear c12
          by_cases c13 : (t165 == 1 && (t166 == 1 && (t167 == 0 && (t168 == 1 && (t169 == 0 && (t170 == 5)))))) = true
          · rw [if_pos c13] at H
            have c13b0 : (t165 == 1 && (t166 == 1 && (t167 == 0 && (t168 == 1 && (t169 == 0 && (t170 == 5)))))) = true := c13
            (try (have c13b1 : decide (t165 = 1 && (t166 == 1 && (t167 == 0 && (t168 == 1 && (t169 == 0 && (t170 == 5)))))) = true := by simpa using c13))
            (try (have c13b2 : (t165 == 1 && (t166 == 1 && (t167 == 0 && (t168 == 1 && (t169 == 0 && (t170 == 5)))))) = true := by simpa using c13))
            clear c13
            by_cases c14 : t171 = 0
            · rw [if_pos c14] at H
              have c14b0 : (t171 == 0) = true := beq_iff_eq.mpr c14
              have c14b1 : (t171 != 0) = false := bne_eq_false_iff_eq.mpr c14
              clear c14
              by_cases c15 : t182 = 61
              · rw [if_pos c15] at H
                have c15b0 : (t182 == 61) = true := beq_iff_eq.mpr c15
                have c15b1 : (t182 != 61) = false := bne_eq_false_iff_eq.mpr c15
                clear c15
                by_cases c16 : t185 = true
                · subst c16
                  have H1 : ((r06_Inf.f false).bind fun t188 => ((r03_Alike.f t184 t188).bind fun t189 => (if t189 = true then ((r06_Zero.f true).bind fun t190 => ((r03_Alike.f t186 t190).bind fun t191 => (some t191))) else (none)))) = some r := by rw [if_pos rfl] at H; exact H
                  clear H
                  have H := H1
                  clear H1
                  replace H := Option.bind_eq_some_iff.mp H
                  obtain ⟨t188, A170, H⟩ := H
                  replace H : ((r03_Alike.f t184 t188).bind fun t189 => (if t189 = true then ((r06_Zero.f true).bind fun t190 => ((r03_Alike.f t186 t190).bind fun t191 => (some t191))) else (none))) = some r := H
                  have A17 := Aside0.mk A170
                  clear A170
                  replace H := Option.bind_eq_some_iff.mp H
                  obtain ⟨t189, A180, H⟩ := H
                  replace H : (if t189 = true then ((r06_Zero.f true).bind fun t190 => ((r03_Alike.f t186 t190).bind fun t191 => (some t191))) else (none)) = some r := H
                  have A18 := Aside0.mk A180
                  clear A180
                  by_cases c19 : t189 = true
                  · subst c19
                    have H1 : ((r06_Zero.f true).bind fun t190 => ((r03_Alike.f t186 t190).bind fun t191 => (some t191))) = some r := by rw [if_pos rfl] at H; exact H
                    clear H
                    have H := H1
                    clear H1
                    replace H := Option.bind_eq_some_iff.mp H
                    obtain ⟨t190, A200, H⟩ := H
                    replace H : ((r03_Alike.f t186 t190).bind fun t191 => (some t191)) = some r := H
                    have A20 := Aside0.mk A200
                    clear A200
                    replace H := Option.bind_eq_some_iff.mp H
                    obtain ⟨t191, A210, H⟩ := H
                    replace H : (some t191) = some r := H
                    have A21 := Aside0.mk A210
                    clear A210
                    obtain rfl := Option.some.inj H
                    go_enter Try.func7, Try.ntmps7
                    go_wp2_with (first | ((with_reducible refine gate_callee (f := 25) rfl ?_); refine goesL_ (some 12) rfl rfl Try.func25 (by kernel_rfl) rfl #[] rfl (by (try simp only [List.map_toArray, List.map_cons, List.map_nil]); first | done | rfl | (simp only [List.length_drop, List.length_take]; rfl)) ?_; (with_reducible refine (r06_TheNaN.calls  t153 _ A1.out).mono ?_); rintro e w' ⟨rfl, ⟨nd, rfl⟩⟩; refine ⟨_, rfl, ?_⟩) | ((with_reducible refine gate_callee (f := 24) rfl ?_); refine goesL_ (some 13) rfl rfl Try.func24 (by kernel_rfl) rfl #[.bool true] rfl (by (try simp only [List.map_toArray, List.map_cons, List.map_nil]); first | done | rfl | (simp only [List.length_drop, List.length_take]; rfl)) ?_; (with_reducible refine (r06_Zero.calls true t154 _ A2.out).mono ?_); rintro e w' ⟨rfl, ⟨nd, rfl⟩⟩; refine ⟨_, rfl, ?_⟩) | ((with_reducible refine gate_callee (f := 26) rfl ?_); refine goesL_ (some 14) rfl rfl Try.func26 (by kernel_rfl) rfl #[.bool false] rfl (by (try simp only [List.map_toArray, List.map_cons, List.map_nil]); first | done | rfl | (simp only [List.length_drop, List.length_take]; rfl)) ?_; (with_reducible refine (r06_Inf.calls false t155 _ A3.out).mono ?_); rintro e w' ⟨rfl, ⟨nd, rfl⟩⟩; refine ⟨_, rfl, ?_⟩) | ((with_reducible refine gate_dst (N := 15) rfl ?_); (try (refine gate_guard (by rfl) ?_; dsimp only)); refine Kd.R_lit (Kd.float .f64) _ 41 ?hg (N := 15) ?hd (xs := ([4607182418800017408, t153, t154, t155, 4612811918334230528] : List Nat)) (inner := [.float .f64 4607182418800017408, .float .f64 t153, .float .f64 t154, .float .f64 t155, .float .f64 4612811918334230528]) (ok := fun _ => True) (okp := fun _ => True) ?hr ?hp (fun _ hk => hk) trivial (Below.refl _ _) (Nat.le_refl _) (by simp) ?_; (case hd => rfl); (case hg => rfl); (case hr => first | (go_simp; done) | (go_simp; rfl)); (case hp => exact (Reps.one (show Kd.M (Kd.float .f64) _ _ _ 4607182418800017408 [.float .f64 4607182418800017408] from rfl) (Reps.one (show Kd.M (Kd.float .f64) _ _ _ t153 [.float .f64 t153] from rfl) (Reps.one (show Kd.M (Kd.float .f64) _ _ _ t154 [.float .f64 t154] from rfl) (Reps.one (show Kd.M (Kd.float .f64) _ _ _ t155 [.float .f64 t155] from rfl) (Reps.one (show Kd.M (Kd.float .f64) _ _ _ 4612811918334230528 [.float .f64 4612811918334230528] from rfl) (Reps.none _ _))))))); intro v157 w22 ho23 hb hg_ hnew_; clear hg_ hnew_; (first | rw [← Ny156.out] at ho23 | (simp only [Int.reduceToNat] at ho23; rw [← Ny156.out] at ho23)); have n0_ := Aside0.mk (Kd.R_lower ho23 (below_size (bl_ HB))); have n1_ := bs_ HB hb; clear HB; have HO158 := n0_; have HB := n1_; clear n0_ n1_; clear hb ho23) | ((with_reducible refine gate_callee (f := 9) rfl ?_); refine goesL_ (some 16) rfl rfl Try.func9 (by kernel_rfl) rfl #[] rfl (by (try simp only [List.map_toArray, List.map_cons, List.map_nil]); first | done | rfl | (simp only [List.length_drop, List.length_take]; rfl)) ?_; (with_reducible refine (policy_Plain.calls  t159 t160 _ A4.out).mono ?_); rintro e w24 ⟨rfl, hb⟩; refine ⟨_, rfl, ?_⟩; have n0_ := Aside0.mk (Kd.R_below (by (with_reducible repeat (first | apply Kd.R_alloc | apply Kd.R_drewN | apply Kd.R_drew)); exact HO158.out) hb); have n1_ := bs_ HB hb; clear HO158; clear HB; have HO158 := n0_; have HB := n1_; clear n0_ n1_; (try clear hb); (try clear hb2); (try clear hk); (try clear hi)) | ((with_reducible refine gate_dst (N := 2) rfl ?_); (try (refine gate_guard (by rfl) ?_; dsimp only)); refine box_event ?hg (N := 2) ?hd (cs := #[.int .i64 0, .int .i64 0]) (t := 23) ?hr ?_; (case hd => rfl); (case hg => rfl); (case hr => first | (go_simp; done) | (go_simp; rfl)); intro gb161 hg w25 hbox hb; have n0_ := Aside0.mk (Kd.R_below (by (with_reducible repeat (first | apply Kd.R_alloc | apply Kd.R_drewN | apply Kd.R_drew)); exact HO158.out) hb); have n1_ := bs_ HB hb; have n2_ := Aside0.mk (hbox); have n3_ := ge_ HB hg; have n4_ := ge_ HB hg; clear HO158; clear HB; have HO158 := n0_; have HB := n1_; have BK161 := n2_; have GW161 := n3_; have GE161 := n4_; clear n0_ n1_ n2_ n3_ n4_; clear hb hbox hg; have hcz26_0 : w25.cell? ⟨gb161, 0, none⟩ = some (.int .i64 0) := (blk_cell BK161.out 0).trans rfl; have hcz26_1 : w25.cell? ⟨gb161, 1, none⟩ = some (.int .i64 0) := (blk_cell BK161.out 1).trans rfl; have hfz26_0 := blk_frozen BK161.out 0; have hfz26_1 := blk_frozen BK161.out 1; obtain ⟨Ao27, co27, eo27⟩ := Kd.R_slice HO158.out; subst eo27) | ((with_reducible refine gate_callee (f := 12) rfl ?_); refine goesL_ (some 20) rfl rfl Try.func12 (by kernel_rfl) rfl #[.slice Ao27 y156.length co27, .agg #[.int .i64 t159, .int .i64 t160]] rfl (by (try simp only [List.map_toArray, List.map_cons, List.map_nil]); first | done | rfl | (simp only [List.length_drop, List.length_take]; rfl)) ?_; (with_reducible refine (policy_Sift.calls k _ _ y156 t159 t160 t162 t165 t166 t167 t168 t169 t170 t171 _ ?side1 ?side2 A5.out).mono ?_); (case side1 => refine (Kd.R_reads' (e := 41) (base := w.heap.size) (ok := fun k_ => True) (n := y156.length) (c := co27) ?_).2.2; exact (by (with_reducible repeat (first | apply Kd.R_alloc | apply Kd.R_drewN | apply Kd.R_drew)); exact (Kd.R_mono (Kd.R_far (p := ⟨gb161, 1, none⟩) (Kd.R_far (p := ⟨gb161, 0, none⟩) (Kd.R_types HO158.out BK161.out (by decide)) (fun _ hk => hk.2) (.int .i64 t159)) (fun _ hk => hk.2) (.int .i64 t160)) (fun _ h_ => h_.1)))); (case side2 => exact (Kd.R_reads' HO158.out).2.1); rintro e w28 ⟨v163, rfl, ho0, hb⟩; refine ⟨_, rfl, ?_⟩; have n0_ := Aside0.mk (Kd.R_elder' (by (with_reducible repeat (first | apply Kd.R_alloc | apply Kd.R_drewN | apply Kd.R_drew)); exact (Kd.R_mono (Kd.R_far (p := ⟨gb161, 1, none⟩) (Kd.R_far (p := ⟨gb161, 0, none⟩) (Kd.R_types HO158.out BK161.out (by decide)) (fun _ hk => hk.2) (.int .i64 t159)) (fun _ hk => hk.2) (.int .i64 t160)) (fun _ h_ => h_.1))) (Kd.R_base ho0) hb); have n1_ := Aside0.mk (Kd.R_lower (Kd.R_new' ho0 (Kd.R_lt (by (with_reducible repeat (first | apply Kd.R_alloc | apply Kd.R_drewN | apply Kd.R_drew)); exact (Kd.R_mono (Kd.R_far (p := ⟨gb161, 1, none⟩) (Kd.R_far (p := ⟨gb161, 0, none⟩) (Kd.R_types HO158.out BK161.out (by decide)) (fun _ hk => hk.2) (.int .i64 t159)) (fun _ hk => hk.2) (.int .i64 t160)) (fun _ h_ => h_.1))))) (below_size (bl_ HB))); have n2_ := Aside0.mk (blk_below (g := gb161) (o := .cells #[.int .i64 t159, .int .i64 t160] 23 (0, 0)) (by (with_reducible repeat (first | refine blk_drewN ?_ _ | refine blk_drew ?_ | refine blk_alloc ?_ _)); refine blk_put (cs := #[.int .i64 t159, .int .i64 0]) ?_ 1 _ rfl; (with_reducible repeat (first | refine blk_drewN ?_ _ | refine blk_drew ?_ | refine blk_alloc ?_ _)); refine blk_put (cs := #[.int .i64 0, .int .i64 0]) ?_ 0 _ rfl; (with_reducible repeat (first | refine blk_drewN ?_ _ | refine blk_drew ?_ | refine blk_alloc ?_ _)); exact BK161.out) hb); have n3_ := bs_ HB hb; clear HO158; clear BK161; clear HB; have HO158 := n0_; have HO164 := n1_; have BK161 := n2_; have HB := n3_; clear n0_ n1_ n2_ n3_; (try clear hb); (try clear hb2); (try clear hk); (try clear hi); (try clear ho0)) | ((with_reducible refine gate_dst (N := 4) rfl ?_); (try (refine gate_guard (by rfl) ?_; dsimp only)); refine box_event ?hg (N := 4) ?hd (cs := #[.int .i64 0, .int .i64 0, .int .i64 0, .int .i64 0, .int .i64 0, .int .i64 0]) (t := 30) ?hr ?_; (case hd => rfl); (case hg => rfl); (case hr => first | (go_simp; done) | (go_simp; rfl)); intro gb172 hg w29 hbox hb; have n0_ := Aside0.mk (Kd.R_below (by (with_reducible repeat (first | apply Kd.R_alloc | apply Kd.R_drewN | apply Kd.R_drew)); exact HO158.out) hb); have n1_ := Aside0.mk (Kd.R_below (by (with_reducible repeat (first | apply Kd.R_alloc | apply Kd.R_drewN | apply Kd.R_drew)); exact HO164.out) hb); have n2_ := kb_ BK161 hb; have n3_ := bs_ HB hb; have n4_ := Aside0.mk (hbox); have n5_ := ge_ HB hg; have n6_ := ge_ HB hg; have n7_ := nlt_ BK161 hg; have n8_ := ngt_ BK161 hg; clear HO158; clear HO164; clear BK161; clear HB; have HO158 := n0_; have HO164 := n1_; have BK161 := n2_; have HB := n3_; have BK172 := n4_; have GW172 := n5_; have GE172 := n6_; have NB161_172 := n7_; have NB172_161 := n8_; clear n0_ n1_ n2_ n3_ n4_ n5_ n6_ n7_ n8_; clear hb hbox hg; have hnb30 := NB172_161.out; have hnc30 := NB161_172.out; have hcz31_0 : w29.cell? ⟨gb172, 0, none⟩ = some (.int .i64 0) := (blk_cell BK172.out 0).trans rfl; have hcz31_1 : w29.cell? ⟨gb172, 1, none⟩ = some (.int .i64 0) := (blk_cell BK172.out 1).trans rfl; have hcz31_2 : w29.cell? ⟨gb172, 2, none⟩ = some (.int .i64 0) := (blk_cell BK172.out 2).trans rfl; have hcz31_3 : w29.cell? ⟨gb172, 3, none⟩ = some (.int .i64 0) := (blk_cell BK172.out 3).trans rfl; have hcz31_4 : w29.cell? ⟨gb172, 4, none⟩ = some (.int .i64 0) := (blk_cell BK172.out 4).trans rfl; have hcz31_5 : w29.cell? ⟨gb172, 5, none⟩ = some (.int .i64 0) := (blk_cell BK172.out 5).trans rfl; have hfz31_0 := blk_frozen BK172.out 0; have hfz31_1 := blk_frozen BK172.out 1; have hfz31_2 := blk_frozen BK172.out 2; have hfz31_3 := blk_frozen BK172.out 3; have hfz31_4 := blk_frozen BK172.out 4; have hfz31_5 := blk_frozen BK172.out 5) | ((with_reducible refine gate_callee (f := 12) rfl ?_); refine goesL_ (some 27) rfl rfl Try.func12 (by kernel_rfl) rfl #[.slice Ao27 y156.length co27, .agg #[.int .i64 1, .int .i64 2]] rfl (by (try simp only [List.map_toArray, List.map_cons, List.map_nil]); first | done | rfl | (simp only [List.length_drop, List.length_take]; rfl)) ?_; (with_reducible refine (policy_Sift.calls k _ _ y156 1 2 t173 t176 t177 t178 t179 t180 t181 t182 _ ?side1 ?side2 A6.out).mono ?_); (case side1 => refine (Kd.R_reads' (e := 41) (base := w.heap.size) (ok := fun k_ => (True ∧ some k_ ≠ (v163 : Value).ownBlock)) (n := y156.length) (c := co27) ?_).2.2; exact (by (with_reducible repeat (first | apply Kd.R_alloc | apply Kd.R_drewN | apply Kd.R_drew)); exact (Kd.R_mono (Kd.R_far (p := ⟨gb172, 5, none⟩) (Kd.R_far (p := ⟨gb172, 4, none⟩) (Kd.R_far (p := ⟨gb172, 3, none⟩) (Kd.R_far (p := ⟨gb172, 2, none⟩) (Kd.R_far (p := ⟨gb172, 1, none⟩) (Kd.R_far (p := ⟨gb172, 0, none⟩) (Kd.R_types HO158.out BK172.out (by decide)) (fun _ hk => hk.2) (.int .i64 t165)) (fun _ hk => hk.2) (.int .i64 t166)) (fun _ hk => hk.2) (.int .i64 t167)) (fun _ hk => hk.2) (.int .i64 t168)) (fun _ hk => hk.2) (.int .i64 t169)) (fun _ hk => hk.2) (.int .i64 t170)) (fun _ h_ => h_.1)))); (case side2 => exact (Kd.R_reads' HO158.out).2.1); rintro e w32 ⟨v174, rfl, ho0, hb⟩; refine ⟨_, rfl, ?_⟩; have n0_ := Aside0.mk (Kd.R_elder' (by (with_reducible repeat (first | apply Kd.R_alloc | apply Kd.R_drewN | apply Kd.R_drew)); exact (Kd.R_mono (Kd.R_far (p := ⟨gb172, 5, none⟩) (Kd.R_far (p := ⟨gb172, 4, none⟩) (Kd.R_far (p := ⟨gb172, 3, none⟩) (Kd.R_far (p := ⟨gb172, 2, none⟩) (Kd.R_far (p := ⟨gb172, 1, none⟩) (Kd.R_far (p := ⟨gb172, 0, none⟩) (Kd.R_types HO158.out BK172.out (by decide)) (fun _ hk => hk.2) (.int .i64 t165)) (fun _ hk => hk.2) (.int .i64 t166)) (fun _ hk => hk.2) (.int .i64 t167)) (fun _ hk => hk.2) (.int .i64 t168)) (fun _ hk => hk.2) (.int .i64 t169)) (fun _ hk => hk.2) (.int .i64 t170)) (fun _ h_ => h_.1))) (Kd.R_base ho0) hb); have n1_ := Aside0.mk (Kd.R_elder' (by (with_reducible repeat (first | apply Kd.R_alloc | apply Kd.R_drewN | apply Kd.R_drew)); exact (Kd.R_mono (Kd.R_far (p := ⟨gb172, 5, none⟩) (Kd.R_far (p := ⟨gb172, 4, none⟩) (Kd.R_far (p := ⟨gb172, 3, none⟩) (Kd.R_far (p := ⟨gb172, 2, none⟩) (Kd.R_far (p := ⟨gb172, 1, none⟩) (Kd.R_far (p := ⟨gb172, 0, none⟩) (Kd.R_types HO164.out BK172.out (by decide)) (fun _ hk => hk.2) (.int .i64 t165)) (fun _ hk => hk.2) (.int .i64 t166)) (fun _ hk => hk.2) (.int .i64 t167)) (fun _ hk => hk.2) (.int .i64 t168)) (fun _ hk => hk.2) (.int .i64 t169)) (fun _ hk => hk.2) (.int .i64 t170)) (fun _ h_ => h_.1))) (Kd.R_base ho0) hb); have n2_ := Aside0.mk (Kd.R_lower (Kd.R_new' (Kd.R_new' ho0 (Kd.R_lt (by (with_reducible repeat (first | apply Kd.R_alloc | apply Kd.R_drewN | apply Kd.R_drew)); exact (Kd.R_mono (Kd.R_far (p := ⟨gb172, 5, none⟩) (Kd.R_far (p := ⟨gb172, 4, none⟩) (Kd.R_far (p := ⟨gb172, 3, none⟩) (Kd.R_far (p := ⟨gb172, 2, none⟩) (Kd.R_far (p := ⟨gb172, 1, none⟩) (Kd.R_far (p := ⟨gb172, 0, none⟩) (Kd.R_types HO158.out BK172.out (by decide)) (fun _ hk => hk.2) (.int .i64 t165)) (fun _ hk => hk.2) (.int .i64 t166)) (fun _ hk => hk.2) (.int .i64 t167)) (fun _ hk => hk.2) (.int .i64 t168)) (fun _ hk => hk.2) (.int .i64 t169)) (fun _ hk => hk.2) (.int .i64 t170)) (fun _ h_ => h_.1))))) (Kd.R_lt (by (with_reducible repeat (first | apply Kd.R_alloc | apply Kd.R_drewN | apply Kd.R_drew)); exact (Kd.R_mono (Kd.R_far (p := ⟨gb172, 5, none⟩) (Kd.R_far (p := ⟨gb172, 4, none⟩) (Kd.R_far (p := ⟨gb172, 3, none⟩) (Kd.R_far (p := ⟨gb172, 2, none⟩) (Kd.R_far (p := ⟨gb172, 1, none⟩) (Kd.R_far (p := ⟨gb172, 0, none⟩) (Kd.R_types HO164.out BK172.out (by decide)) (fun _ hk => hk.2) (.int .i64 t165)) (fun _ hk => hk.2) (.int .i64 t166)) (fun _ hk => hk.2) (.int .i64 t167)) (fun _ hk => hk.2) (.int .i64 t168)) (fun _ hk => hk.2) (.int .i64 t169)) (fun _ hk => hk.2) (.int .i64 t170)) (fun _ h_ => h_.1))))) (below_size (bl_ HB))); have n3_ := Aside0.mk (blk_below (g := gb161) (o := .cells #[.int .i64 t159, .int .i64 t160] 23 (0, 0)) (by (with_reducible repeat (first | refine blk_drewN ?_ _ | refine blk_drew ?_ | refine blk_alloc ?_ _)); refine blk_far ?_ NB161_172.out _; (with_reducible repeat (first | refine blk_drewN ?_ _ | refine blk_drew ?_ | refine blk_alloc ?_ _)); refine blk_far ?_ NB161_172.out _; (with_reducible repeat (first | refine blk_drewN ?_ _ | refine blk_drew ?_ | refine blk_alloc ?_ _)); refine blk_far ?_ NB161_172.out _; (with_reducible repeat (first | refine blk_drewN ?_ _ | refine blk_drew ?_ | refine blk_alloc ?_ _)); refine blk_far ?_ NB161_172.out _; (with_reducible repeat (first | refine blk_drewN ?_ _ | refine blk_drew ?_ | refine blk_alloc ?_ _)); refine blk_far ?_ NB161_172.out _; (with_reducible repeat (first | refine blk_drewN ?_ _ | refine blk_drew ?_ | refine blk_alloc ?_ _)); refine blk_far ?_ NB161_172.out _; (with_reducible repeat (first | refine blk_drewN ?_ _ | refine blk_drew ?_ | refine blk_alloc ?_ _)); exact BK161.out) hb); have n4_ := Aside0.mk (blk_below (g := gb172) (o := .cells #[.int .i64 t165, .int .i64 t166, .int .i64 t167, .int .i64 t168, .int .i64 t169, .int .i64 t170] 30 (0, 0)) (by (with_reducible repeat (first | refine blk_drewN ?_ _ | refine blk_drew ?_ | refine blk_alloc ?_ _)); refine blk_put (cs := #[.int .i64 t165, .int .i64 t166, .int .i64 t167, .int .i64 t168, .int .i64 t169, .int .i64 0]) ?_ 5 _ rfl; (with_reducible repeat (first | refine blk_drewN ?_ _ | refine blk_drew ?_ | refine blk_alloc ?_ _)); refine blk_put (cs := #[.int .i64 t165, .int .i64 t166, .int .i64 t167, .int .i64 t168, .int .i64 0, .int .i64 0]) ?_ 4 _ rfl; (with_reducible repeat (first | refine blk_drewN ?_ _ | refine blk_drew ?_ | refine blk_alloc ?_ _)); refine blk_put (cs := #[.int .i64 t165, .int .i64 t166, .int .i64 t167, .int .i64 0, .int .i64 0, .int .i64 0]) ?_ 3 _ rfl; (with_reducible repeat (first | refine blk_drewN ?_ _ | refine blk_drew ?_ | refine blk_alloc ?_ _)); refine blk_put (cs := #[.int .i64 t165, .int .i64 t166, .int .i64 0, .int .i64 0, .int .i64 0, .int .i64 0]) ?_ 2 _ rfl; (with_reducible repeat (first | refine blk_drewN ?_ _ | refine blk_drew ?_ | refine blk_alloc ?_ _)); refine blk_put (cs := #[.int .i64 t165, .int .i64 0, .int .i64 0, .int .i64 0, .int .i64 0, .int .i64 0]) ?_ 1 _ rfl; (with_reducible repeat (first | refine blk_drewN ?_ _ | refine blk_drew ?_ | refine blk_alloc ?_ _)); refine blk_put (cs := #[.int .i64 0, .int .i64 0, .int .i64 0, .int .i64 0, .int .i64 0, .int .i64 0]) ?_ 0 _ rfl; (with_reducible repeat (first | refine blk_drewN ?_ _ | refine blk_drew ?_ | refine blk_alloc ?_ _)); exact BK172.out) hb); have n5_ := bs_ HB hb; clear HO158; clear HO164; clear BK161; clear BK172; clear HB; have HO158 := n0_; have HO164 := n1_; have HO175 := n2_; have BK161 := n3_; have BK172 := n4_; have HB := n5_; clear n0_ n1_ n2_ n3_ n4_ n5_; (try clear hb); (try clear hb2); (try clear hk); (try clear hi); (try clear ho0)) | ((with_reducible refine gate_dst (N := 7) rfl ?_); (try (refine gate_guard (by rfl) ?_; dsimp only)); refine box_event ?hg (N := 7) ?hd (cs := #[.int .i64 0, .int .i64 0, .int .i64 0, .int .i64 0, .int .i64 0, .int .i64 0]) (t := 30) ?hr ?_; (case hd => rfl); (case hg => rfl); (case hr => first | (go_simp; done) | (go_simp; rfl)); intro gb183 hg w33 hbox hb; have n0_ := Aside0.mk (Kd.R_below (by (with_reducible repeat (first | apply Kd.R_alloc | apply Kd.R_drewN | apply Kd.R_drew)); exact HO158.out) hb); have n1_ := Aside0.mk (Kd.R_below (by (with_reducible repeat (first | apply Kd.R_alloc | apply Kd.R_drewN | apply Kd.R_drew)); exact HO164.out) hb); have n2_ := Aside0.mk (Kd.R_below (by (with_reducible repeat (first | apply Kd.R_alloc | apply Kd.R_drewN | apply Kd.R_drew)); exact HO175.out) hb); have n3_ := kb_ BK161 hb; have n4_ := kb_ BK172 hb; have n5_ := bs_ HB hb; have n6_ := Aside0.mk (hbox); have n7_ := ge_ HB hg; have n8_ := ge_ HB hg; have n9_ := nlt_ BK161 hg; have n10_ := ngt_ BK161 hg; have n11_ := nlt_ BK172 hg; have n12_ := ngt_ BK172 hg; clear HO158; clear HO164; clear HO175; clear BK161; clear BK172; clear HB; have HO158 := n0_; have HO164 := n1_; have HO175 := n2_; have BK161 := n3_; have BK172 := n4_; have HB := n5_; have BK183 := n6_; have GW183 := n7_; have GE183 := n8_; have NB161_183 := n9_; have NB183_161 := n10_; have NB172_183 := n11_; have NB183_172 := n12_; clear n0_ n1_ n2_ n3_ n4_ n5_ n6_ n7_ n8_ n9_ n10_ n11_ n12_; clear hb hbox hg; have hnb34 := NB183_161.out; have hnc34 := NB161_183.out; have hnb35 := NB183_172.out; have hnc35 := NB172_183.out; have hcz36_0 : w33.cell? ⟨gb183, 0, none⟩ = some (.int .i64 0) := (blk_cell BK183.out 0).trans rfl; have hcz36_1 : w33.cell? ⟨gb183, 1, none⟩ = some (.int .i64 0) := (blk_cell BK183.out 1).trans rfl; have hcz36_2 : w33.cell? ⟨gb183, 2, none⟩ = some (.int .i64 0) := (blk_cell BK183.out 2).trans rfl; have hcz36_3 : w33.cell? ⟨gb183, 3, none⟩ = some (.int .i64 0) := (blk_cell BK183.out 3).trans rfl; have hcz36_4 : w33.cell? ⟨gb183, 4, none⟩ = some (.int .i64 0) := (blk_cell BK183.out 4).trans rfl; have hcz36_5 : w33.cell? ⟨gb183, 5, none⟩ = some (.int .i64 0) := (blk_cell BK183.out 5).trans rfl; have hfz36_0 := blk_frozen BK183.out 0; have hfz36_1 := blk_frozen BK183.out 1; have hfz36_2 := blk_frozen BK183.out 2; have hfz36_3 := blk_frozen BK183.out 3; have hfz36_4 := blk_frozen BK183.out 4; have hfz36_5 := blk_frozen BK183.out 5; have hcz37_0 : w33.cell? ⟨gb161, 0, none⟩ = some (.int .i64 t159) := (blk_cell BK161.out 0).trans rfl; have hcz37_1 : w33.cell? ⟨gb161, 1, none⟩ = some (.int .i64 t160) := (blk_cell BK161.out 1).trans rfl; have hfz37_0 := blk_frozen BK161.out 0; have hfz37_1 := blk_frozen BK161.out 1) | ((with_reducible refine gate_callee (f := 18) rfl ?_); refine goesL_ (some 34) rfl rfl Try.func18 (by kernel_rfl) rfl #[.agg #[.int .i64 0, .int .i64 2, .int .i64 0, .int .i64 0, .int .i64 0, .int .i64 3], .agg #[.int .i64 t159, .int .i64 t160]] rfl (by (try simp only [List.map_toArray, List.map_cons, List.map_nil]); first | done | rfl | (simp only [List.length_drop, List.length_take]; rfl)) ?_; (with_reducible refine (policy_Verdict.calls k 0 2 0 0 0 3 t159 t160 t184 true _ A7.out).mono ?_); rintro e w38 ⟨rfl, hb⟩; refine ⟨_, rfl, ?_⟩; have n0_ := Aside0.mk (Kd.R_below (by (with_reducible repeat (first | apply Kd.R_alloc | apply Kd.R_drewN | apply Kd.R_drew)); exact (Kd.R_mono (Kd.R_far (p := ⟨gb183, 5, none⟩) (Kd.R_far (p := ⟨gb183, 4, none⟩) (Kd.R_far (p := ⟨gb183, 3, none⟩) (Kd.R_far (p := ⟨gb183, 2, none⟩) (Kd.R_far (p := ⟨gb183, 1, none⟩) (Kd.R_far (p := ⟨gb183, 0, none⟩) (Kd.R_types HO158.out BK183.out (by decide)) (fun _ hk => hk.2) (.int .i64 t176)) (fun _ hk => hk.2) (.int .i64 t177)) (fun _ hk => hk.2) (.int .i64 t178)) (fun _ hk => hk.2) (.int .i64 t179)) (fun _ hk => hk.2) (.int .i64 t180)) (fun _ hk => hk.2) (.int .i64 t181)) (fun _ h_ => h_.1))) hb); have n1_ := Aside0.mk (Kd.R_below (by (with_reducible repeat (first | apply Kd.R_alloc | apply Kd.R_drewN | apply Kd.R_drew)); exact (Kd.R_mono (Kd.R_far (p := ⟨gb183, 5, none⟩) (Kd.R_far (p := ⟨gb183, 4, none⟩) (Kd.R_far (p := ⟨gb183, 3, none⟩) (Kd.R_far (p := ⟨gb183, 2, none⟩) (Kd.R_far (p := ⟨gb183, 1, none⟩) (Kd.R_far (p := ⟨gb183, 0, none⟩) (Kd.R_types HO164.out BK183.out (by decide)) (fun _ hk => hk.2) (.int .i64 t176)) (fun _ hk => hk.2) (.int .i64 t177)) (fun _ hk => hk.2) (.int .i64 t178)) (fun _ hk => hk.2) (.int .i64 t179)) (fun _ hk => hk.2) (.int .i64 t180)) (fun _ hk => hk.2) (.int .i64 t181)) (fun _ h_ => h_.1))) hb); have n2_ := Aside0.mk (Kd.R_below (by (with_reducible repeat (first | apply Kd.R_alloc | apply Kd.R_drewN | apply Kd.R_drew)); exact (Kd.R_mono (Kd.R_far (p := ⟨gb183, 5, none⟩) (Kd.R_far (p := ⟨gb183, 4, none⟩) (Kd.R_far (p := ⟨gb183, 3, none⟩) (Kd.R_far (p := ⟨gb183, 2, none⟩) (Kd.R_far (p := ⟨gb183, 1, none⟩) (Kd.R_far (p := ⟨gb183, 0, none⟩) (Kd.R_types HO175.out BK183.out (by decide)) (fun _ hk => hk.2) (.int .i64 t176)) (fun _ hk => hk.2) (.int .i64 t177)) (fun _ hk => hk.2) (.int .i64 t178)) (fun _ hk => hk.2) (.int .i64 t179)) (fun _ hk => hk.2) (.int .i64 t180)) (fun _ hk => hk.2) (.int .i64 t181)) (fun _ h_ => h_.1))) hb); have n3_ := Aside0.mk (blk_below (g := gb161) (o := .cells #[.int .i64 t159, .int .i64 t160] 23 (0, 0)) (by (with_reducible repeat (first | refine blk_drewN ?_ _ | refine blk_drew ?_ | refine blk_alloc ?_ _)); refine blk_far ?_ NB161_183.out _; (with_reducible repeat (first | refine blk_drewN ?_ _ | refine blk_drew ?_ | refine blk_alloc ?_ _)); refine blk_far ?_ NB161_183.out _; (with_reducible repeat (first | refine blk_drewN ?_ _ | refine blk_drew ?_ | refine blk_alloc ?_ _)); refine blk_far ?_ NB161_183.out _; (with_reducible repeat (first | refine blk_drewN ?_ _ | refine blk_drew ?_ | refine blk_alloc ?_ _)); refine blk_far ?_ NB161_183.out _; (with_reducible repeat (first | refine blk_drewN ?_ _ | refine blk_drew ?_ | refine blk_alloc ?_ _)); refine blk_far ?_ NB161_183.out _; (with_reducible repeat (first | refine blk_drewN ?_ _ | refine blk_drew ?_ | refine blk_alloc ?_ _)); refine blk_far ?_ NB161_183.out _; (with_reducible repeat (first | refine blk_drewN ?_ _ | refine blk_drew ?_ | refine blk_alloc ?_ _)); exact BK161.out) hb); have n4_ := Aside0.mk (blk_below (g := gb172) (o := .cells #[.int .i64 t165, .int .i64 t166, .int .i64 t167, .int .i64 t168, .int .i64 t169, .int .i64 t170] 30 (0, 0)) (by (with_reducible repeat (first | refine blk_drewN ?_ _ | refine blk_drew ?_ | refine blk_alloc ?_ _)); refine blk_far ?_ NB172_183.out _; (with_reducible repeat (first | refine blk_drewN ?_ _ | refine blk_drew ?_ | refine blk_alloc ?_ _)); refine blk_far ?_ NB172_183.out _; (with_reducible repeat (first | refine blk_drewN ?_ _ | refine blk_drew ?_ | refine blk_alloc ?_ _)); refine blk_far ?_ NB172_183.out _; (with_reducible repeat (first | refine blk_drewN ?_ _ | refine blk_drew ?_ | refine blk_alloc ?_ _)); refine blk_far ?_ NB172_183.out _; (with_reducible repeat (first | refine blk_drewN ?_ _ | refine blk_drew ?_ | refine blk_alloc ?_ _)); refine blk_far ?_ NB172_183.out _; (with_reducible repeat (first | refine blk_drewN ?_ _ | refine blk_drew ?_ | refine blk_alloc ?_ _)); refine blk_far ?_ NB172_183.out _; (with_reducible repeat (first | refine blk_drewN ?_ _ | refine blk_drew ?_ | refine blk_alloc ?_ _)); exact BK172.out) hb); have n5_ := Aside0.mk (blk_below (g := gb183) (o := .cells #[.int .i64 t176, .int .i64 t177, .int .i64 t178, .int .i64 t179, .int .i64 t180, .int .i64 t181] 30 (0, 0)) (by (with_reducible repeat (first | refine blk_drewN ?_ _ | refine blk_drew ?_ | refine blk_alloc ?_ _)); refine blk_put (cs := #[.int .i64 t176, .int .i64 t177, .int .i64 t178, .int .i64 t179, .int .i64 t180, .int .i64 0]) ?_ 5 _ rfl; (with_reducible repeat (first | refine blk_drewN ?_ _ | refine blk_drew ?_ | refine blk_alloc ?_ _)); refine blk_put (cs := #[.int .i64 t176, .int .i64 t177, .int .i64 t178, .int .i64 t179, .int .i64 0, .int .i64 0]) ?_ 4 _ rfl; (with_reducible repeat (first | refine blk_drewN ?_ _ | refine blk_drew ?_ | refine blk_alloc ?_ _)); refine blk_put (cs := #[.int .i64 t176, .int .i64 t177, .int .i64 t178, .int .i64 0, .int .i64 0, .int .i64 0]) ?_ 3 _ rfl; (with_reducible repeat (first | refine blk_drewN ?_ _ | refine blk_drew ?_ | refine blk_alloc ?_ _)); refine blk_put (cs := #[.int .i64 t176, .int .i64 t177, .int .i64 0, .int .i64 0, .int .i64 0, .int .i64 0]) ?_ 2 _ rfl; (with_reducible repeat (first | refine blk_drewN ?_ _ | refine blk_drew ?_ | refine blk_alloc ?_ _)); refine blk_put (cs := #[.int .i64 t176, .int .i64 0, .int .i64 0, .int .i64 0, .int .i64 0, .int .i64 0]) ?_ 1 _ rfl; (with_reducible repeat (first | refine blk_drewN ?_ _ | refine blk_drew ?_ | refine blk_alloc ?_ _)); refine blk_put (cs := #[.int .i64 0, .int .i64 0, .int .i64 0, .int .i64 0, .int .i64 0, .int .i64 0]) ?_ 0 _ rfl; (with_reducible repeat (first | refine blk_drewN ?_ _ | refine blk_drew ?_ | refine blk_alloc ?_ _)); exact BK183.out) hb); have n6_ := bs_ HB hb; clear HO158; clear HO164; clear HO175; clear BK161; clear BK172; clear BK183; clear HB; have HO158 := n0_; have HO164 := n1_; have HO175 := n2_; have BK161 := n3_; have BK172 := n4_; have BK183 := n5_; have HB := n6_; clear n0_ n1_ n2_ n3_ n4_ n5_ n6_; (try clear hb); (try clear hb2); (try clear hk); (try clear hi)) | ((with_reducible refine gate_callee (f := 20) rfl ?_); refine goesL_ (some 38) rfl rfl Try.func20 (by kernel_rfl) rfl #[.agg #[.int .i64 0, .int .i64 0, .int .i64 0, .int .i64 2, .int .i64 0, .int .i64 2], .int .i64 0] rfl (by (try simp only [List.map_toArray, List.map_cons, List.map_nil]); first | done | rfl | (simp only [List.length_drop, List.length_take]; rfl)) ?_; (with_reducible refine (policy_Nought.calls 0 0 0 2 0 2 0 t186 _ A8.out).mono ?_); rintro e w39 ⟨rfl, hb⟩; refine ⟨_, rfl, ?_⟩; have n0_ := Aside0.mk (Kd.R_below (by (with_reducible repeat (first | apply Kd.R_alloc | apply Kd.R_drewN | apply Kd.R_drew)); exact HO158.out) hb); have n1_ := Aside0.mk (Kd.R_below (by (with_reducible repeat (first | apply Kd.R_alloc | apply Kd.R_drewN | apply Kd.R_drew)); exact HO164.out) hb); have n2_ := Aside0.mk (Kd.R_below (by (with_reducible repeat (first | apply Kd.R_alloc | apply Kd.R_drewN | apply Kd.R_drew)); exact HO175.out) hb); have n3_ := kb_ BK161 hb; have n4_ := kb_ BK172 hb; have n5_ := kb_ BK183 hb; have n6_ := bs_ HB hb; clear HO158; clear HO164; clear HO175; clear BK161; clear BK172; clear BK183; clear HB; have HO158 := n0_; have HO164 := n1_; have HO175 := n2_; have BK161 := n3_; have BK172 := n4_; have BK183 := n5_; have HB := n6_; clear n0_ n1_ n2_ n3_ n4_ n5_ n6_; (try clear hb); (try clear hb2); (try clear hk); (try clear hi); have hcz40_0 : w39.cell? ⟨gb161, 0, none⟩ = some (.int .i64 t159) := (blk_cell BK161.out 0).trans rfl; have hcz40_1 : w39.cell? ⟨gb161, 1, none⟩ = some (.int .i64 t160) := (blk_cell BK161.out 1).trans rfl; have hfz40_0 := blk_frozen BK161.out 0; have hfz40_1 := blk_frozen BK161.out 1; obtain ⟨Ao41, co41, eo41⟩ := Kd.R_slice HO164.out; subst eo41; have p187 : 0 ≤ (2 : Int) := (by omega); have q187 : 2 < (t162.length : Int) := of_decide_eq_true (by first | (with_reducible assumption) | assumption); obtain ⟨ad187, e187, hx187_0⟩ := Kd.at_float (Kd.R_reads' HO164.out).2.2 2 p187 q187; cases e187; (try simp only [show (2 : Int).toNat = 2 from rfl, Nat.reduceMul, Nat.reduceEqDiff, Go.Addr.add, ↓reduceIte] at hx187_0); have qi187 : (2 < t162.length) = True := eq_true (by omega); (try rw [show ((2 : Int)).toNat = 2 from rfl] at hx187_0); replace p187 := eq_true p187; replace q187 := eq_true q187; have hcz42_0 : w39.cell? ⟨gb172, 0, none⟩ = some (.int .i64 t165) := (blk_cell BK172.out 0).trans rfl; have hcz42_1 : w39.cell? ⟨gb172, 1, none⟩ = some (.int .i64 t166) := (blk_cell BK172.out 1).trans rfl; have hcz42_2 : w39.cell? ⟨gb172, 2, none⟩ = some (.int .i64 t167) := (blk_cell BK172.out 2).trans rfl; have hcz42_3 : w39.cell? ⟨gb172, 3, none⟩ = some (.int .i64 t168) := (blk_cell BK172.out 3).trans rfl; have hcz42_4 : w39.cell? ⟨gb172, 4, none⟩ = some (.int .i64 t169) := (blk_cell BK172.out 4).trans rfl; have hcz42_5 : w39.cell? ⟨gb172, 5, none⟩ = some (.int .i64 t170) := (blk_cell BK172.out 5).trans rfl; have hfz42_0 := blk_frozen BK172.out 0; have hfz42_1 := blk_frozen BK172.out 1; have hfz42_2 := blk_frozen BK172.out 2; have hfz42_3 := blk_frozen BK172.out 3; have hfz42_4 := blk_frozen BK172.out 4; have hfz42_5 := blk_frozen BK172.out 5) | (go_at_call 26; (with_reducible refine (r06_Inf.calls false t188 _ A17.out).mono ?_); rintro e w' ⟨rfl, ⟨nd, rfl⟩⟩) | (go_at_call 21; (with_reducible refine (r03_Alike.calls t184 t188 true _ A18.out).mono ?_); rintro e w' ⟨rfl, ⟨nd, rfl⟩⟩) | (go_at_call 24; (with_reducible refine (r06_Zero.calls true t190 _ A20.out).mono ?_); rintro e w' ⟨rfl, ⟨nd, rfl⟩⟩) | (go_at_call 21; (with_reducible refine (r03_Alike.calls t186 t190 t191 _ A21.out).mono ?_); rintro e w' ⟨rfl, ⟨nd, rfl⟩⟩))
                    go_ret
                    exact ⟨by first | rfl | (simp [errW_none, errW_some] <;> rfl) | (simp [*, errW_none, errW_some] <;> rfl), by repeat (first | (with_reducible first | exact HB.out | apply below_alloc | apply pw_below_drewN | apply below_drew1 | refine below_set ?_ GE161.out | refine below_set ?_ GE172.out | refine below_set ?_ GE183.out) | exact HB.out)⟩
                  · replace c19 := Bool.eq_false_iff.mpr c19
                    subst c19
                    have H1 : (none) = some r := by rw [if_neg (show ¬ (false = true) by decide)] at H; exact H
                    clear H
                    have H := H1
                    clear H1
                    exact absurd H (by simp)
                · replace c16 := Bool.eq_false_iff.mpr c16
                  subst c16
                  have H1 : (none) = some r := by rw [if_neg (show ¬ (false = true) by decide)] at H; exact H
                  clear H
                  have H := H1
                  clear H1
                  exact absurd H (by simp)
              · rw [if_neg c15] at H
                exact absurd H (by simp)
            · rw [if_neg c14] at H
              exact absurd H (by simp)
          · rw [if_neg c13] at H
            exact absurd H (by simp)
        · rw [if_neg c12] at H
          exact absurd H (by simp)
      · rw [if_neg c11] at H
        exact absurd H (by simp)
    · rw [if_neg c10] at H
      exact absurd H (by simp)
  · rw [if_neg c9] at H
    exact absurd H (by simp)

/-! ### r06_May: function 10 -/
def r06_May.f (a0_0 : Int) (a0_1 : Int) : Option (Bool) := if a0_0 ≥ 0 then (if a0_0 ≤ 2 then (if a0_1 ≥ 0 then (some (decide (a0_1 ≤ 2))) else (some false)) else (some false)) else (some false)
set_option maxHeartbeats 3000000 in
set_option maxRecDepth 100000 in
theorem r06_May.calls (a0_0 : Int) (a0_1 : Int) (r : Bool) (w : World) (h : r06_May.f a0_0 a0_1 = some r) :
    Calls Try.prog 10 #[.agg #[.int .i64 a0_0, .int .i64 a0_1]] w fun e w' => e = .returned (.bool r) ∧ Below w.heap.size w w' := by
  have hu23 := Try.underlying23
  have HB := Aside0.mk (Below.refl w.heap.size w)
  have H : (if a0_0 ≥ 0 then (if a0_0 ≤ 2 then (if a0_1 ≥ 0 then (some (decide (a0_1 ≤ 2))) else (some false)) else (some false)) else (some false)) = some r := h
  clear h
  by_cases c2 : a0_0 ≥ 0
  · rw [if_pos c2] at H
    have c2b0 : decide (0 ≤ a0_0) = true := decide_eq_true c2
    clear c2
    by_cases c3 : a0_0 ≤ 2
    · rw [if_pos c3] at H
      have c3b0 : decide (a0_0 ≤ 2) = true := decide_eq_true c3
      clear c3
      by_cases c4 : a0_1 ≥ 0
      · rw [if_pos c4] at H
        have c4b0 : decide (0 ≤ a0_1) = true := decide_eq_true c4
        clear c4
        obtain rfl := Option.some.inj H
        go_enter Try.func10, Try.ntmps10
        go_wp2_with (first | ((with_reducible refine gate_dst (N := 1) rfl ?_); refine box_event ?hg (N := 1) ?hd (cs := #[.int .i64 a0_0, .int .i64 a0_1]) (t := 23) ?hr ?_; (case hd => rfl); (case hg => rfl); (case hr => first | (go_simp; done) | (go_simp; rfl)); intro gb192 hg w5 hbox hb; have n0_ := bs_ HB hb; have n1_ := Aside0.mk (hbox); have n2_ := ge_ HB hg; have n3_ := ge_ HB hg; clear HB; have HB := n0_; have BK192 := n1_; have GW192 := n2_; have GE192 := n3_; clear n0_ n1_ n2_ n3_; clear hb hbox hg; have hcz6_0 : w5.cell? ⟨gb192, 0, none⟩ = some (.int .i64 a0_0) := (blk_cell BK192.out 0).trans rfl; have hcz6_1 : w5.cell? ⟨gb192, 1, none⟩ = some (.int .i64 a0_1) := (blk_cell BK192.out 1).trans rfl; have hfz6_0 := blk_frozen BK192.out 0; have hfz6_1 := blk_frozen BK192.out 1))
        go_ret
        exact ⟨by first | rfl | (simp [errW_none, errW_some] <;> rfl) | (simp [*, errW_none, errW_some] <;> rfl), by repeat (first | (with_reducible first | exact HB.out | apply below_alloc | apply pw_below_drewN | apply below_drew1 | refine below_set ?_ GE192.out) | exact HB.out)⟩
      · rw [if_neg c4] at H
        have c4b0 : decide (0 ≤ a0_1) = false := decide_eq_false c4
        clear c4
        obtain rfl := Option.some.inj H
        go_enter Try.func10, Try.ntmps10
        go_wp2_with (first | ((with_reducible refine gate_dst (N := 1) rfl ?_); refine box_event ?hg (N := 1) ?hd (cs := #[.int .i64 a0_0, .int .i64 a0_1]) (t := 23) ?hr ?_; (case hd => rfl); (case hg => rfl); (case hr => first | (go_simp; done) | (go_simp; rfl)); intro gb192 hg w7 hbox hb; have n0_ := bs_ HB hb; have n1_ := Aside0.mk (hbox); have n2_ := ge_ HB hg; have n3_ := ge_ HB hg; clear HB; have HB := n0_; have BK192 := n1_; have GW192 := n2_; have GE192 := n3_; clear n0_ n1_ n2_ n3_; clear hb hbox hg; have hcz8_0 : w7.cell? ⟨gb192, 0, none⟩ = some (.int .i64 a0_0) := (blk_cell BK192.out 0).trans rfl; have hcz8_1 : w7.cell? ⟨gb192, 1, none⟩ = some (.int .i64 a0_1) := (blk_cell BK192.out 1).trans rfl; have hfz8_0 := blk_frozen BK192.out 0; have hfz8_1 := blk_frozen BK192.out 1))
        go_ret
        exact ⟨by first | rfl | (simp [errW_none, errW_some] <;> rfl) | (simp [*, errW_none, errW_some] <;> rfl), by repeat (first | (with_reducible first | exact HB.out | apply below_alloc | apply pw_below_drewN | apply below_drew1 | refine below_set ?_ GE192.out) | exact HB.out)⟩
    · rw [if_neg c3] at H
      have c3b0 : decide (a0_0 ≤ 2) = false := decide_eq_false c3
      clear c3
      obtain rfl := Option.some.inj H
      go_enter Try.func10, Try.ntmps10
      go_wp2_with (first | ((with_reducible refine gate_dst (N := 1) rfl ?_); refine box_event ?hg (N := 1) ?hd (cs := #[.int .i64 a0_0, .int .i64 a0_1]) (t := 23) ?hr ?_; (case hd => rfl); (case hg => rfl); (case hr => first | (go_simp; done) | (go_simp; rfl)); intro gb192 hg w9 hbox hb; have n0_ := bs_ HB hb; have n1_ := Aside0.mk (hbox); have n2_ := ge_ HB hg; have n3_ := ge_ HB hg; clear HB; have HB := n0_; have BK192 := n1_; have GW192 := n2_; have GE192 := n3_; clear n0_ n1_ n2_ n3_; clear hb hbox hg; have hcz10_0 : w9.cell? ⟨gb192, 0, none⟩ = some (.int .i64 a0_0) := (blk_cell BK192.out 0).trans rfl; have hcz10_1 : w9.cell? ⟨gb192, 1, none⟩ = some (.int .i64 a0_1) := (blk_cell BK192.out 1).trans rfl; have hfz10_0 := blk_frozen BK192.out 0; have hfz10_1 := blk_frozen BK192.out 1))
      go_ret
      exact ⟨by first | rfl | (simp [errW_none, errW_some] <;> rfl) | (simp [*, errW_none, errW_some] <;> rfl), by repeat (first | (with_reducible first | exact HB.out | apply below_alloc | apply pw_below_drewN | apply below_drew1 | refine below_set ?_ GE192.out) | exact HB.out)⟩
  · rw [if_neg c2] at H
    have c2b0 : decide (0 ≤ a0_0) = false := decide_eq_false c2
    clear c2
    obtain rfl := Option.some.inj H
    go_enter Try.func10, Try.ntmps10
    go_wp2_with (first | ((with_reducible refine gate_dst (N := 1) rfl ?_); refine box_event ?hg (N := 1) ?hd (cs := #[.int .i64 a0_0, .int .i64 a0_1]) (t := 23) ?hr ?_; (case hd => rfl); (case hg => rfl); (case hr => first | (go_simp; done) | (go_simp; rfl)); intro gb192 hg w11 hbox hb; have n0_ := bs_ HB hb; have n1_ := Aside0.mk (hbox); have n2_ := ge_ HB hg; have n3_ := ge_ HB hg; clear HB; have HB := n0_; have BK192 := n1_; have GW192 := n2_; have GE192 := n3_; clear n0_ n1_ n2_ n3_; clear hb hbox hg; have hcz12_0 : w11.cell? ⟨gb192, 0, none⟩ = some (.int .i64 a0_0) := (blk_cell BK192.out 0).trans rfl; have hcz12_1 : w11.cell? ⟨gb192, 1, none⟩ = some (.int .i64 a0_1) := (blk_cell BK192.out 1).trans rfl; have hfz12_0 := blk_frozen BK192.out 0; have hfz12_1 := blk_frozen BK192.out 1))
    go_ret
    exact ⟨by first | rfl | (simp [errW_none, errW_some] <;> rfl) | (simp [*, errW_none, errW_some] <;> rfl), by repeat (first | (with_reducible first | exact HB.out | apply below_alloc | apply pw_below_drewN | apply below_drew1 | refine below_set ?_ GE192.out) | exact HB.out)⟩

/-! ### l06_PolicyMays: function 3 -/
def l06_PolicyMays.f (k : Nat) (a0_0 : Int) (a0_1 : Int) : Option (Bool) := (l06_awake.f k).bind fun t194 => ((policy_May.f a0_0 a0_1).bind fun t195 => ((policy_Plain.f).bind fun bt196 => ((policy_May.f bt196.1 bt196.2).bind fun t198 => (if t194 = true then (if t198 = true then ((r06_May.f a0_0 a0_1).bind fun t199 => (some (t195 == t199))) else (none)) else (none)))))
theorem l06_PolicyMays.mono : ∀ a0 a1 k, LeO (l06_PolicyMays.f k a0 a1) (l06_PolicyMays.f (k + 1) a0 a1) := by
  intro a0 a1 k
  unfold l06_PolicyMays.f
  repeat' first
      | (with_reducible exact l06_awake.mono _)
      | (with_reducible exact LeO.refl _)
      | (with_reducible exact LeO.none _)
      | (with_reducible refine LeO.ite ?_ ?_)
      | (with_reducible refine LeO.bind ?_ (fun _ => ?_))
      | exact l06_awake.mono _
      | exact LeO.none _
      | refine LeO.ite ?_ ?_
      | refine LeO.bind ?_ (fun _ => ?_)
set_option maxHeartbeats 3000000 in
set_option maxRecDepth 100000 in
theorem l06_PolicyMays.calls (k : Nat) (a0_0 : Int) (a0_1 : Int) (r : Bool) (w : World) (h : l06_PolicyMays.f k a0_0 a0_1 = some r) :
    Calls Try.prog 3 #[.agg #[.int .i64 a0_0, .int .i64 a0_1]] w fun e w' => e = .returned (.bool r) ∧ Below w.heap.size w w' := by
  have hu23 := Try.underlying23
  have HB := Aside0.mk (Below.refl w.heap.size w)
  have H : ((l06_awake.f k).bind fun t194 => ((policy_May.f a0_0 a0_1).bind fun t195 => ((policy_Plain.f).bind fun bt196 => ((policy_May.f bt196.1 bt196.2).bind fun t198 => (if t194 = true then (if t198 = true then ((r06_May.f a0_0 a0_1).bind fun t199 => (some (t195 == t199))) else (none)) else (none)))))) = some r := h
  clear h
  replace H := Option.bind_eq_some_iff.mp H
  obtain ⟨t194, A20, H⟩ := H
  replace H : ((policy_May.f a0_0 a0_1).bind fun t195 => ((policy_Plain.f).bind fun bt196 => ((policy_May.f bt196.1 bt196.2).bind fun t198 => (if t194 = true then (if t198 = true then ((r06_May.f a0_0 a0_1).bind fun t199 => (some (t195 == t199))) else (none)) else (none))))) = some r := H
  have A2 := Aside0.mk A20
  clear A20
  replace H := Option.bind_eq_some_iff.mp H
  obtain ⟨t195, A30, H⟩ := H
  replace H : ((policy_Plain.f).bind fun bt196 => ((policy_May.f bt196.1 bt196.2).bind fun t198 => (if t194 = true then (if t198 = true then ((r06_May.f a0_0 a0_1).bind fun t199 => (some (t195 == t199))) else (none)) else (none)))) = some r := H
  have A3 := Aside0.mk A30
  clear A30
  replace H := Option.bind_eq_some_iff.mp H
  obtain ⟨⟨t196, t197⟩, A40, H⟩ := H
  replace H : ((policy_May.f t196 t197).bind fun t198 => (if t194 = true then (if t198 = true then ((r06_May.f a0_0 a0_1).bind fun t199 => (some (t195 == t199))) else (none)) else (none))) = some r := H
  have A4 := Aside0.mk A40
  clear A40
  replace H := Option.bind_eq_some_iff.mp H
  obtain ⟨t198, A50, H⟩ := H
  replace H : (if t194 = true then (if t198 = true then ((r06_May.f a0_0 a0_1).bind fun t199 => (some (t195 == t199))) else (none)) else (none)) = some r := H
  have A5 := Aside0.mk A50
  clear A50
  by_cases c6 : t194 = true
  · subst c6
    have H1 : (if t198 = true then ((r06_May.f a0_0 a0_1).bind fun t199 => (some (t195 == t199))) else (none)) = some r := by rw [if_pos rfl] at H; exact H
    clear H
    have H := H1
    clear H1
    by_cases c7 : t198 = true
    · subst c7
      have H1 : ((r06_May.f a0_0 a0_1).bind fun t199 => (some (t195 == t199))) = some r := by rw [if_pos rfl] at H; exact H
      clear H
      have H := H1
      clear H1
      replace H := Option.bind_eq_some_iff.mp H
      obtain ⟨t199, A80, H⟩ := H
      replace H : (some (t195 == t199)) = some r := H
      have A8 := Aside0.mk A80
      clear A80
      obtain rfl := Option.some.inj H
      go_enter Try.func3, Try.ntmps3
      go_wp2_with (first | ((with_reducible refine gate_dst (N := 1) rfl ?_); refine box_event ?hg (N := 1) ?hd (cs := #[.int .i64 a0_0, .int .i64 a0_1]) (t := 23) ?hr ?_; (case hd => rfl); (case hg => rfl); (case hr => first | (go_simp; done) | (go_simp; rfl)); intro gb193 hg w9 hbox hb; have n0_ := bs_ HB hb; have n1_ := Aside0.mk (hbox); have n2_ := ge_ HB hg; have n3_ := ge_ HB hg; clear HB; have HB := n0_; have BK193 := n1_; have GW193 := n2_; have GE193 := n3_; clear n0_ n1_ n2_ n3_; clear hb hbox hg) | ((with_reducible refine gate_callee (f := 7) rfl ?_); refine goesL_ (some 6) rfl rfl Try.func7 (by kernel_rfl) rfl #[] rfl (by (try simp only [List.map_toArray, List.map_cons, List.map_nil]); first | done | rfl | (simp only [List.length_drop, List.length_take]; rfl)) ?_; (with_reducible refine (l06_awake.calls k  true _ A2.out).mono ?_); rintro e w10 ⟨rfl, hb⟩; refine ⟨_, rfl, ?_⟩; have n0_ := kb_ BK193 hb; have n1_ := bs_ HB hb; clear BK193; clear HB; have BK193 := n0_; have HB := n1_; clear n0_ n1_; (try clear hb); (try clear hb2); (try clear hk); (try clear hi); have hcz11_0 : w10.cell? ⟨gb193, 0, none⟩ = some (.int .i64 a0_0) := (blk_cell BK193.out 0).trans rfl; have hcz11_1 : w10.cell? ⟨gb193, 1, none⟩ = some (.int .i64 a0_1) := (blk_cell BK193.out 1).trans rfl; have hfz11_0 := blk_frozen BK193.out 0; have hfz11_1 := blk_frozen BK193.out 1) | ((with_reducible refine gate_callee (f := 8) rfl ?_); refine goesL_ (some 8) rfl rfl Try.func8 (by kernel_rfl) rfl #[.agg #[.int .i64 a0_0, .int .i64 a0_1]] rfl (by (try simp only [List.map_toArray, List.map_cons, List.map_nil]); first | done | rfl | (simp only [List.length_drop, List.length_take]; rfl)) ?_; (with_reducible refine (policy_May.calls a0_0 a0_1 t195 _ A3.out).mono ?_); rintro e w12 ⟨rfl, hb⟩; refine ⟨_, rfl, ?_⟩; have n0_ := kb_ BK193 hb; have n1_ := bs_ HB hb; clear BK193; clear HB; have BK193 := n0_; have HB := n1_; clear n0_ n1_; (try clear hb); (try clear hb2); (try clear hk); (try clear hi)) | ((with_reducible refine gate_callee (f := 9) rfl ?_); refine goesL_ (some 9) rfl rfl Try.func9 (by kernel_rfl) rfl #[] rfl (by (try simp only [List.map_toArray, List.map_cons, List.map_nil]); first | done | rfl | (simp only [List.length_drop, List.length_take]; rfl)) ?_; (with_reducible refine (policy_Plain.calls  t196 t197 _ A4.out).mono ?_); rintro e w13 ⟨rfl, hb⟩; refine ⟨_, rfl, ?_⟩; have n0_ := kb_ BK193 hb; have n1_ := bs_ HB hb; clear BK193; clear HB; have BK193 := n0_; have HB := n1_; clear n0_ n1_; (try clear hb); (try clear hb2); (try clear hk); (try clear hi)) | ((with_reducible refine gate_callee (f := 8) rfl ?_); refine goesL_ (some 10) rfl rfl Try.func8 (by kernel_rfl) rfl #[.agg #[.int .i64 t196, .int .i64 t197]] rfl (by (try simp only [List.map_toArray, List.map_cons, List.map_nil]); first | done | rfl | (simp only [List.length_drop, List.length_take]; rfl)) ?_; (with_reducible refine (policy_May.calls t196 t197 true _ A5.out).mono ?_); rintro e w14 ⟨rfl, hb⟩; refine ⟨_, rfl, ?_⟩; have n0_ := kb_ BK193 hb; have n1_ := bs_ HB hb; clear BK193; clear HB; have BK193 := n0_; have HB := n1_; clear n0_ n1_; (try clear hb); (try clear hb2); (try clear hk); (try clear hi); have hcz15_0 : w14.cell? ⟨gb193, 0, none⟩ = some (.int .i64 a0_0) := (blk_cell BK193.out 0).trans rfl; have hcz15_1 : w14.cell? ⟨gb193, 1, none⟩ = some (.int .i64 a0_1) := (blk_cell BK193.out 1).trans rfl; have hfz15_0 := blk_frozen BK193.out 0; have hfz15_1 := blk_frozen BK193.out 1) | (go_at_call 10; (with_reducible refine (r06_May.calls a0_0 a0_1 t199 _ A8.out).mono ?_); rintro e w16 ⟨rfl, hb⟩; have n0_ := kb_ BK193 hb; have n1_ := bs_ HB hb; clear BK193; clear HB; have BK193 := n0_; have HB := n1_; clear n0_ n1_; (try clear hb); (try clear hb2); (try clear hk); (try clear hi)))
      go_ret
      exact ⟨by first | rfl | (simp [errW_none, errW_some] <;> rfl) | (simp [*, errW_none, errW_some] <;> rfl), by repeat (first | (with_reducible first | exact HB.out | apply below_alloc | apply pw_below_drewN | apply below_drew1 | refine below_set ?_ GE193.out) | exact HB.out)⟩
    · replace c7 := Bool.eq_false_iff.mpr c7
      subst c7
      have H1 : (none) = some r := by rw [if_neg (show ¬ (false = true) by decide)] at H; exact H
      clear H
      have H := H1
      clear H1
      exact absurd H (by simp)
  · replace c6 := Bool.eq_false_iff.mpr c6
    subst c6
    have H1 : (none) = some r := by rw [if_neg (show ¬ (false = true) by decide)] at H; exact H
    clear H
    have H := H1
    clear H1
    exact absurd H (by simp)

/-- THE ONE PURE STATEMENT of l06_PolicyMays: yours. -/
def l06_PolicyMays.Pure : Prop := ∀ (a0_0 : Int) (a0_1 : Int), (Lit.int .i64 a0_0).wf = true → (Lit.int .i64 a0_1).wf = true → ∃ k, l06_PolicyMays.f k a0_0 a0_1 = some true

/-! ### r06_within: function 42 -/
def r06_within.f (a0 : Int) : Option (Bool) := if a0 ≥ 0 then (some (decide (a0 ≤ 1099511627776))) else (some false)
set_option maxHeartbeats 3000000 in
set_option maxRecDepth 100000 in
theorem r06_within.calls (a0 : Int) (r : Bool) (w : World) (h : r06_within.f a0 = some r) :
    Calls Try.prog 42 #[.int .i64 a0] w fun e w' => e = .returned (.bool r) ∧ Drawn0 w w' := by
  have H : (if a0 ≥ 0 then (some (decide (a0 ≤ 1099511627776))) else (some false)) = some r := h
  clear h
  by_cases c2 : a0 ≥ 0
  · rw [if_pos c2] at H
    have c2b0 : decide (0 ≤ a0) = true := decide_eq_true c2
    clear c2
    obtain rfl := Option.some.inj H
    go_enter Try.func42, Try.ntmps42
    go_wp2
    go_ret
    exact ⟨by first | rfl | (simp; done) | (simp [*]; done), by repeat (first | exact Drawn0.refl _ | apply Drawn0.step)⟩
  · rw [if_neg c2] at H
    have c2b0 : decide (0 ≤ a0) = false := decide_eq_false c2
    clear c2
    obtain rfl := Option.some.inj H
    go_enter Try.func42, Try.ntmps42
    go_wp2
    go_ret
    exact ⟨by first | rfl | (simp; done) | (simp [*]; done), by repeat (first | exact Drawn0.refl _ | apply Drawn0.step)⟩

end Go.Proofs.Ytkoonpjlpobmeaa.Pr
-- written by this session's own program (wip/fprint.py), which widens the kit's print by floats
namespace Go.Proofs.Ytkoonpjlpobmeaa.Pr
open Go.RowKit Go.Proofs.YtkoonpjlpobmeaaW.PrintWords Go.Proofs.YtkoonpjlpobmeaaW.PrintLast Go.Proofs.YtkoonpjlpobmeaaW.PrintMore
attribute [local go_sem] max2_int min2_int max_two min_two max_three min_three max_four min_four   -- for this text's walks alone
set_option linter.unusedVariables false
set_option linter.unusedSimpArgs false

/-! ### r03_AlikeLists: function 15 -/
def r03_AlikeLists.l0 : Nat → List Nat → List Nat → Int → Option (Bool)
  | 0, _, _, _ => none
  | k + 1, x0, x1, x5 => if x5 < (x0.length : Int) then (if 0 ≤ x5 then (if x5 < (x1.length : Int) then ((r03_Alike.f (rdOf (0 : Nat) x0 x5) (rdOf (0 : Nat) x1 x5)).bind fun t240 => (if t240 = true then (r03_AlikeLists.l0 k x0 x1 (wrap64 (x5 + 1))) else (some false))) else (none)) else (none)) else (some true)
def r03_AlikeLists.f (k : Nat) (l0 : List Nat) (l1 : List Nat) : Option (Bool) := if (l0.length : Int) = (l1.length : Int) then (r03_AlikeLists.l0 k l0 l1 0) else (some false)
theorem r03_AlikeLists.mono_l : ∀ k, (∀ y0 y1 y2, LeO (r03_AlikeLists.l0 k y0 y1 y2) (r03_AlikeLists.l0 (k + 1) y0 y1 y2))
  | 0 => fun _ _ _ r h => by simp [r03_AlikeLists.l0] at h
  | k + 1 => by
    have ih0 := r03_AlikeLists.mono_l k
    · intro y0 y1 y2
      unfold r03_AlikeLists.l0
      repeat' first
      | (with_reducible exact ih0 _ _ _)
      | (with_reducible exact LeO.refl _)
      | (with_reducible exact LeO.none _)
      | (with_reducible refine LeO.ite ?_ ?_)
      | (with_reducible refine LeO.bind ?_ (fun _ => ?_))
      | exact ih0 _ _ _
      | exact LeO.none _
      | refine LeO.ite ?_ ?_
      | refine LeO.bind ?_ (fun _ => ?_)
theorem r03_AlikeLists.mono : ∀ a0 a1 k, LeO (r03_AlikeLists.f k a0 a1) (r03_AlikeLists.f (k + 1) a0 a1) := by
  intro a0 a1 k
  have ih0 := r03_AlikeLists.mono_l k
  unfold r03_AlikeLists.f
  repeat' first
      | (with_reducible exact ih0 _ _ _)
      | (with_reducible exact LeO.refl _)
      | (with_reducible exact LeO.none _)
      | (with_reducible refine LeO.ite ?_ ?_)
      | (with_reducible refine LeO.bind ?_ (fun _ => ?_))
      | exact ih0 _ _ _
      | exact LeO.none _
      | refine LeO.ite ?_ ?_
      | refine LeO.bind ?_ (fun _ => ?_)
set_option maxHeartbeats 3000000 in
set_option maxRecDepth 100000 in
theorem r03_AlikeLists.calls (k : Nat) (A0 : Option Addr) (c0 : Nat) (l0 : List Nat) (A1 : Option Addr) (c1 : Nat) (l1 : List Nat) (r : Bool) (w : World) (hr0 : Kd.C (Kd.float .f64) w A0 l0.length l0) (hc0 : l0.length ≤ c0) (hr1 : Kd.C (Kd.float .f64) w A1 l1.length l1) (hc1 : l1.length ≤ c1) (h : r03_AlikeLists.f k l0 l1 = some r) :
    Calls Try.prog 15 #[.slice A0 l0.length c0, .slice A1 l1.length c1] w fun e w' => e = .returned (.bool r) ∧ Drawn0 w w' := by
  have HR0 := Aside0.mk hr0
  have HC0 := Aside0.mk hc0
  clear hr0 hc0
  have HR1 := Aside0.mk hr1
  have HC1 := Aside0.mk hc1
  clear hr1 hc1
  have H : (if (l0.length : Int) = (l1.length : Int) then (r03_AlikeLists.l0 k l0 l1 0) else (some false)) = some r := h
  clear h
  by_cases c3 : (l0.length : Int) = (l1.length : Int)
  · rw [if_pos c3] at H
    have c3b0 : ((l0.length : Int) == (l1.length : Int)) = true := beq_iff_eq.mpr c3
    have c3b1 : ((l0.length : Int) != (l1.length : Int)) = false := bne_eq_false_iff_eq.mpr c3
    have c3b2 : (l0.length == l1.length) = true := by first | simpa using c3 | (simp at c3 ⊢; omega)
    clear c3
    have H' := Aside0.mk H
    clear H
    go_enter Try.func15, Try.ntmps15
    go_wp2
    repeat (go_quiet (fail); try go_wp2)
    go_loopg [5] k (fun kq v5 w' => ∃ (x5_1 : Int), v5 = .int .i64 x5_1 ∧ Aside0 (r03_AlikeLists.l0 kq l0 l1 x5_1 = some r) ∧ Aside0 (kq ≤ k) ∧ Drawn0 w w')
    case atStart => exact ⟨(0), (by first | rfl | (simp; done) | (simp [*]; done)), H', ⟨Nat.le_refl _⟩, by repeat (first | exact Drawn0.refl _ | apply Drawn0.step)⟩
    case round =>
      clear H'
      try clear c1
      try clear p2
      try clear c3
      try clear c3b0
      try clear c3b1
      try clear c3b2
      obtain ⟨x5_1, rfl, HA, HK1, ⟨m1, rfl⟩⟩ := hrel
      cases gk with
      | zero => exact absurd HA.out (by simp [r03_AlikeLists.l0])
      | succ k1 =>
        have H := HA.out
        clear HA
        simp only [r03_AlikeLists.l0] at H
        by_cases c4 : x5_1 < (l0.length : Int)
        · rw [if_pos c4] at H
          have c4b0 : decide (x5_1 < (l0.length : Int)) = true := decide_eq_true c4
          clear c4
          by_cases c5 : 0 ≤ x5_1
          · rw [if_pos c5] at H
            have c5b0 : decide (0 ≤ x5_1) = true := decide_eq_true c5
            clear c5
            by_cases c6 : x5_1 < (l1.length : Int)
            · rw [if_pos c6] at H
              have c6b0 : decide (x5_1 < (l1.length : Int)) = true := decide_eq_true c6
              clear c6
              replace H := Option.bind_eq_some_iff.mp H
              obtain ⟨t240, A70, H⟩ := H
              replace H : (if t240 = true then (r03_AlikeLists.l0 k1 l0 l1 (wrap64 (x5_1 + 1))) else (some false)) = some r := H
              have A7 := Aside0.mk A70
              clear A70
              by_cases c8 : t240 = true
              · subst c8
                have H1 : (r03_AlikeLists.l0 k1 l0 l1 (wrap64 (x5_1 + 1))) = some r := by rw [if_pos rfl] at H; exact H
                clear H
                have H := H1
                clear H1
                have H' := Aside0.mk H
                clear H
                have p238 : 0 ≤ (x5_1 : Int) := of_decide_eq_true (by first | (with_reducible assumption) | assumption)
                have q238 : x5_1 < (l0.length : Int) := of_decide_eq_true (by first | (with_reducible assumption) | assumption)
                obtain ⟨ad238, e238, hx238_0⟩ := Kd.at_float HR0.out x5_1 p238 q238
                cases e238
                replace p238 := eq_true p238
                replace q238 := eq_true q238
                have p239 : 0 ≤ (x5_1 : Int) := of_decide_eq_true (by first | (with_reducible assumption) | assumption)
                have q239 : x5_1 < (l1.length : Int) := of_decide_eq_true (by first | (with_reducible assumption) | assumption)
                obtain ⟨ad239, e239, hx239_0⟩ := Kd.at_float HR1.out x5_1 p239 q239
                cases e239
                replace p239 := eq_true p239
                replace q239 := eq_true q239
                go_wp2_with (first | (go_at_call 21; (with_reducible refine (r03_Alike.calls (rdOf (0 : Nat) l0 x5_1) (rdOf (0 : Nat) l1 x5_1) true _ A7.out).mono ?_); rintro e w' ⟨rfl, ⟨nd, rfl⟩⟩; (try first | exact ⟨rfl, _, World.drewN_drewN _ _ _⟩ | exact ⟨rfl, _, Eq.trans (World.drewN_drewN _ _ _) (congrArg (World.drewN _) (Nat.add_assoc _ _ _))⟩)))
                repeat (go_quiet (first | (go_at_call 21; (with_reducible refine (r03_Alike.calls (rdOf (0 : Nat) l0 x5_1) (rdOf (0 : Nat) l1 x5_1) true _ A7.out).mono ?_); rintro e w' ⟨rfl, ⟨nd, rfl⟩⟩; (try first | exact ⟨rfl, _, World.drewN_drewN _ _ _⟩ | exact ⟨rfl, _, Eq.trans (World.drewN_drewN _ _ _) (congrArg (World.drewN _) (Nat.add_assoc _ _ _))⟩))); try go_wp2_with (first | (go_at_call 21; (with_reducible refine (r03_Alike.calls (rdOf (0 : Nat) l0 x5_1) (rdOf (0 : Nat) l1 x5_1) true _ A7.out).mono ?_); rintro e w' ⟨rfl, ⟨nd, rfl⟩⟩; (try first | exact ⟨rfl, _, World.drewN_drewN _ _ _⟩ | exact ⟨rfl, _, Eq.trans (World.drewN_drewN _ _ _) (congrArg (World.drewN _) (Nat.add_assoc _ _ _))⟩))))
                go_roundg k1
                case measure => have := HK1.out; omega
                case rel => exact ⟨(wrap64 (x5_1 + 1)), (by first | rfl | (simp; done) | (simp [*]; done)), H', ⟨by have := HK1.out; omega⟩, by repeat (first | exact Drawn0.refl _ | apply Drawn0.step)⟩
              · replace c8 := Bool.eq_false_iff.mpr c8
                subst c8
                have H1 : (some false) = some r := by rw [if_neg (show ¬ (false = true) by decide)] at H; exact H
                clear H
                have H := H1
                clear H1
                obtain rfl := Option.some.inj H
                have p238 : 0 ≤ (x5_1 : Int) := of_decide_eq_true (by first | (with_reducible assumption) | assumption)
                have q238 : x5_1 < (l0.length : Int) := of_decide_eq_true (by first | (with_reducible assumption) | assumption)
                obtain ⟨ad238, e238, hx238_0⟩ := Kd.at_float HR0.out x5_1 p238 q238
                cases e238
                replace p238 := eq_true p238
                replace q238 := eq_true q238
                have p239 : 0 ≤ (x5_1 : Int) := of_decide_eq_true (by first | (with_reducible assumption) | assumption)
                have q239 : x5_1 < (l1.length : Int) := of_decide_eq_true (by first | (with_reducible assumption) | assumption)
                obtain ⟨ad239, e239, hx239_0⟩ := Kd.at_float HR1.out x5_1 p239 q239
                cases e239
                replace p239 := eq_true p239
                replace q239 := eq_true q239
                go_wp2_with (first | (go_at_call 21; (with_reducible refine (r03_Alike.calls (rdOf (0 : Nat) l0 x5_1) (rdOf (0 : Nat) l1 x5_1) false _ A7.out).mono ?_); rintro e w' ⟨rfl, ⟨nd, rfl⟩⟩; (try first | exact ⟨rfl, _, World.drewN_drewN _ _ _⟩ | exact ⟨rfl, _, Eq.trans (World.drewN_drewN _ _ _) (congrArg (World.drewN _) (Nat.add_assoc _ _ _))⟩)))
                repeat (go_quiet (first | (go_at_call 21; (with_reducible refine (r03_Alike.calls (rdOf (0 : Nat) l0 x5_1) (rdOf (0 : Nat) l1 x5_1) false _ A7.out).mono ?_); rintro e w' ⟨rfl, ⟨nd, rfl⟩⟩; (try first | exact ⟨rfl, _, World.drewN_drewN _ _ _⟩ | exact ⟨rfl, _, Eq.trans (World.drewN_drewN _ _ _) (congrArg (World.drewN _) (Nat.add_assoc _ _ _))⟩))); try go_wp2_with (first | (go_at_call 21; (with_reducible refine (r03_Alike.calls (rdOf (0 : Nat) l0 x5_1) (rdOf (0 : Nat) l1 x5_1) false _ A7.out).mono ?_); rintro e w' ⟨rfl, ⟨nd, rfl⟩⟩; (try first | exact ⟨rfl, _, World.drewN_drewN _ _ _⟩ | exact ⟨rfl, _, Eq.trans (World.drewN_drewN _ _ _) (congrArg (World.drewN _) (Nat.add_assoc _ _ _))⟩))))
                go_ret
                exact ⟨by first | rfl | (simp; done) | (simp [*]; done), by repeat (first | exact Drawn0.refl _ | apply Drawn0.step)⟩
            · rw [if_neg c6] at H
              exact absurd H (by simp)
          · rw [if_neg c5] at H
            exact absurd H (by simp)
        · rw [if_neg c4] at H
          have c4b0 : decide (x5_1 < (l0.length : Int)) = false := decide_eq_false c4
          clear c4
          obtain rfl := Option.some.inj H
          go_wp2
          repeat (go_quiet (fail); try go_wp2)
          go_ret
          exact ⟨by first | rfl | (simp; done) | (simp [*]; done), by repeat (first | exact Drawn0.refl _ | apply Drawn0.step)⟩
  · rw [if_neg c3] at H
    have c3b0 : ((l0.length : Int) == (l1.length : Int)) = false := beq_eq_false_iff_ne.mpr c3
    have c3b1 : ((l0.length : Int) != (l1.length : Int)) = true := bne_iff_ne.mpr c3
    have c3b2 : (l0.length == l1.length) = false := by first | simpa using c3 | (simp at c3 ⊢; omega)
    obtain rfl := Option.some.inj H
    go_enter Try.func15, Try.ntmps15
    go_wp2
    repeat (go_quiet (fail); try go_wp2)
    go_ret
    exact ⟨by first | rfl | (simp; done) | (simp [*]; done), by repeat (first | exact Drawn0.refl _ | apply Drawn0.step)⟩

/-! ### l06_sum: function 23 -/
def l06_sum.f (a0_0 : Int) (a0_1 : Int) (a0_2 : Int) (a0_3 : Int) (a0_4 : Int) (a0_5 : Int) (a1_0 : Int) (a1_1 : Int) (a1_2 : Int) (a1_3 : Int) (a1_4 : Int) (a1_5 : Int) : Option (Int × Int × Int × Int × Int × Int) := some (wrap64 (a0_0 + a1_0), wrap64 (a0_1 + a1_1), wrap64 (a0_2 + a1_2), wrap64 (a0_3 + a1_3), wrap64 (a0_4 + a1_4), wrap64 (a0_5 + a1_5))
set_option maxHeartbeats 3000000 in
set_option maxRecDepth 100000 in
theorem l06_sum.calls (a0_0 : Int) (a0_1 : Int) (a0_2 : Int) (a0_3 : Int) (a0_4 : Int) (a0_5 : Int) (a1_0 : Int) (a1_1 : Int) (a1_2 : Int) (a1_3 : Int) (a1_4 : Int) (a1_5 : Int) (r1 : Int) (r2 : Int) (r3 : Int) (r4 : Int) (r5 : Int) (r6 : Int) (w : World) (h : l06_sum.f a0_0 a0_1 a0_2 a0_3 a0_4 a0_5 a1_0 a1_1 a1_2 a1_3 a1_4 a1_5 = some (r1, r2, r3, r4, r5, r6)) :
    Calls Try.prog 23 #[.agg #[.int .i64 a0_0, .int .i64 a0_1, .int .i64 a0_2, .int .i64 a0_3, .int .i64 a0_4, .int .i64 a0_5], .agg #[.int .i64 a1_0, .int .i64 a1_1, .int .i64 a1_2, .int .i64 a1_3, .int .i64 a1_4, .int .i64 a1_5]] w fun e w' => e = .returned (.agg #[.int .i64 r1, .int .i64 r2, .int .i64 r3, .int .i64 r4, .int .i64 r5, .int .i64 r6]) ∧ Below w.heap.size w w' := by
  have hu30 := Try.underlying30
  have HB := Aside0.mk (Below.refl w.heap.size w)
  have H : (some (wrap64 (a0_0 + a1_0), wrap64 (a0_1 + a1_1), wrap64 (a0_2 + a1_2), wrap64 (a0_3 + a1_3), wrap64 (a0_4 + a1_4), wrap64 (a0_5 + a1_5))) = some (r1, r2, r3, r4, r5, r6) := h
  clear h
  simp only [Option.some.injEq, Prod.mk.injEq] at H
  obtain ⟨rfl, rfl, rfl, rfl, rfl, rfl⟩ := H
  go_enter Try.func23, Try.ntmps23
  go_wp2_with (first | ((with_reducible refine gate_dst (N := 2) rfl ?_); refine box_event ?hg (N := 2) ?hd (cs := #[.int .i64 a0_0, .int .i64 a0_1, .int .i64 a0_2, .int .i64 a0_3, .int .i64 a0_4, .int .i64 a0_5]) (t := 30) ?hr ?_; (case hd => rfl); (case hg => rfl); (case hr => first | (go_simp; done) | (go_simp; rfl)); intro gb241 hg w3 hbox hb; have n0_ := bs_ HB hb; have n1_ := Aside0.mk (hbox); have n2_ := ge_ HB hg; have n3_ := ge_ HB hg; clear HB; have HB := n0_; have BK241 := n1_; have GW241 := n2_; have GE241 := n3_; clear n0_ n1_ n2_ n3_; clear hb hbox hg) | ((with_reducible refine gate_dst (N := 3) rfl ?_); refine box_event ?hg (N := 3) ?hd (cs := #[.int .i64 a1_0, .int .i64 a1_1, .int .i64 a1_2, .int .i64 a1_3, .int .i64 a1_4, .int .i64 a1_5]) (t := 30) ?hr ?_; (case hd => rfl); (case hg => rfl); (case hr => first | (go_simp; done) | (go_simp; rfl)); intro gb242 hg w4 hbox hb; have n0_ := kb_ BK241 hb; have n1_ := bs_ HB hb; have n2_ := Aside0.mk (hbox); have n3_ := ge_ HB hg; have n4_ := ge_ HB hg; have n5_ := nlt_ BK241 hg; have n6_ := ngt_ BK241 hg; clear BK241; clear HB; have BK241 := n0_; have HB := n1_; have BK242 := n2_; have GW242 := n3_; have GE242 := n4_; have NB241_242 := n5_; have NB242_241 := n6_; clear n0_ n1_ n2_ n3_ n4_ n5_ n6_; clear hb hbox hg) | ((with_reducible refine gate_dst (N := 4) rfl ?_); refine box_event ?hg (N := 4) ?hd (cs := #[.int .i64 0, .int .i64 0, .int .i64 0, .int .i64 0, .int .i64 0, .int .i64 0]) (t := 30) ?hr ?_; (case hd => rfl); (case hg => rfl); (case hr => first | (go_simp; done) | (go_simp; rfl)); intro gb243 hg w5 hbox hb; have n0_ := kb_ BK241 hb; have n1_ := kb_ BK242 hb; have n2_ := bs_ HB hb; have n3_ := Aside0.mk (hbox); have n4_ := ge_ HB hg; have n5_ := ge_ HB hg; have n6_ := nlt_ BK241 hg; have n7_ := ngt_ BK241 hg; have n8_ := nlt_ BK242 hg; have n9_ := ngt_ BK242 hg; clear BK241; clear BK242; clear HB; have BK241 := n0_; have BK242 := n1_; have HB := n2_; have BK243 := n3_; have GW243 := n4_; have GE243 := n5_; have NB241_243 := n6_; have NB243_241 := n7_; have NB242_243 := n8_; have NB243_242 := n9_; clear n0_ n1_ n2_ n3_ n4_ n5_ n6_ n7_ n8_ n9_; clear hb hbox hg; have hnb6 := NB241_242.out; have hnc6 := NB242_241.out; have hnb7 := NB241_243.out; have hnc7 := NB243_241.out; have hcz8_0 : w5.cell? ⟨gb241, 0, none⟩ = some (.int .i64 a0_0) := (blk_cell BK241.out 0).trans rfl; have hcz8_1 : w5.cell? ⟨gb241, 1, none⟩ = some (.int .i64 a0_1) := (blk_cell BK241.out 1).trans rfl; have hcz8_2 : w5.cell? ⟨gb241, 2, none⟩ = some (.int .i64 a0_2) := (blk_cell BK241.out 2).trans rfl; have hcz8_3 : w5.cell? ⟨gb241, 3, none⟩ = some (.int .i64 a0_3) := (blk_cell BK241.out 3).trans rfl; have hcz8_4 : w5.cell? ⟨gb241, 4, none⟩ = some (.int .i64 a0_4) := (blk_cell BK241.out 4).trans rfl; have hcz8_5 : w5.cell? ⟨gb241, 5, none⟩ = some (.int .i64 a0_5) := (blk_cell BK241.out 5).trans rfl; have hfz8_0 := blk_frozen BK241.out 0; have hfz8_1 := blk_frozen BK241.out 1; have hfz8_2 := blk_frozen BK241.out 2; have hfz8_3 := blk_frozen BK241.out 3; have hfz8_4 := blk_frozen BK241.out 4; have hfz8_5 := blk_frozen BK241.out 5; have hnb9 := NB242_243.out; have hnc9 := NB243_242.out; have hcz10_0 : w5.cell? ⟨gb242, 0, none⟩ = some (.int .i64 a1_0) := (blk_cell BK242.out 0).trans rfl; have hcz10_1 : w5.cell? ⟨gb242, 1, none⟩ = some (.int .i64 a1_1) := (blk_cell BK242.out 1).trans rfl; have hcz10_2 : w5.cell? ⟨gb242, 2, none⟩ = some (.int .i64 a1_2) := (blk_cell BK242.out 2).trans rfl; have hcz10_3 : w5.cell? ⟨gb242, 3, none⟩ = some (.int .i64 a1_3) := (blk_cell BK242.out 3).trans rfl; have hcz10_4 : w5.cell? ⟨gb242, 4, none⟩ = some (.int .i64 a1_4) := (blk_cell BK242.out 4).trans rfl; have hcz10_5 : w5.cell? ⟨gb242, 5, none⟩ = some (.int .i64 a1_5) := (blk_cell BK242.out 5).trans rfl; have hfz10_0 := blk_frozen BK242.out 0; have hfz10_1 := blk_frozen BK242.out 1; have hfz10_2 := blk_frozen BK242.out 2; have hfz10_3 := blk_frozen BK242.out 3; have hfz10_4 := blk_frozen BK242.out 4; have hfz10_5 := blk_frozen BK242.out 5; have hcz11_0 : w5.cell? ⟨gb243, 0, none⟩ = some (.int .i64 0) := (blk_cell BK243.out 0).trans rfl; have hcz11_1 : w5.cell? ⟨gb243, 1, none⟩ = some (.int .i64 0) := (blk_cell BK243.out 1).trans rfl; have hcz11_2 : w5.cell? ⟨gb243, 2, none⟩ = some (.int .i64 0) := (blk_cell BK243.out 2).trans rfl; have hcz11_3 : w5.cell? ⟨gb243, 3, none⟩ = some (.int .i64 0) := (blk_cell BK243.out 3).trans rfl; have hcz11_4 : w5.cell? ⟨gb243, 4, none⟩ = some (.int .i64 0) := (blk_cell BK243.out 4).trans rfl; have hcz11_5 : w5.cell? ⟨gb243, 5, none⟩ = some (.int .i64 0) := (blk_cell BK243.out 5).trans rfl; have hfz11_0 := blk_frozen BK243.out 0; have hfz11_1 := blk_frozen BK243.out 1; have hfz11_2 := blk_frozen BK243.out 2; have hfz11_3 := blk_frozen BK243.out 3; have hfz11_4 := blk_frozen BK243.out 4; have hfz11_5 := blk_frozen BK243.out 5))
  refine bodyPost_ret (results_cell_row rfl _ _ gb243 30 #[.int .i64 (wrap64 (a0_0 + a1_0)), .int .i64 (wrap64 (a0_1 + a1_1)), .int .i64 (wrap64 (a0_2 + a1_2)), .int .i64 (wrap64 (a0_3 + a1_3)), .int .i64 (wrap64 (a0_4 + a1_4)), .int .i64 (wrap64 (a0_5 + a1_5))] (0, 0) _ rfl (by (with_reducible repeat (first | refine blk_drewN ?_ _ | refine blk_drew ?_ | refine blk_alloc ?_ _)); refine blk_put (cs := #[.int .i64 (wrap64 (a0_0 + a1_0)), .int .i64 (wrap64 (a0_1 + a1_1)), .int .i64 (wrap64 (a0_2 + a1_2)), .int .i64 (wrap64 (a0_3 + a1_3)), .int .i64 (wrap64 (a0_4 + a1_4)), .int .i64 0]) ?_ 5 _ rfl; (with_reducible repeat (first | refine blk_drewN ?_ _ | refine blk_drew ?_ | refine blk_alloc ?_ _)); refine blk_put (cs := #[.int .i64 (wrap64 (a0_0 + a1_0)), .int .i64 (wrap64 (a0_1 + a1_1)), .int .i64 (wrap64 (a0_2 + a1_2)), .int .i64 (wrap64 (a0_3 + a1_3)), .int .i64 0, .int .i64 0]) ?_ 4 _ rfl; (with_reducible repeat (first | refine blk_drewN ?_ _ | refine blk_drew ?_ | refine blk_alloc ?_ _)); refine blk_put (cs := #[.int .i64 (wrap64 (a0_0 + a1_0)), .int .i64 (wrap64 (a0_1 + a1_1)), .int .i64 (wrap64 (a0_2 + a1_2)), .int .i64 0, .int .i64 0, .int .i64 0]) ?_ 3 _ rfl; (with_reducible repeat (first | refine blk_drewN ?_ _ | refine blk_drew ?_ | refine blk_alloc ?_ _)); refine blk_put (cs := #[.int .i64 (wrap64 (a0_0 + a1_0)), .int .i64 (wrap64 (a0_1 + a1_1)), .int .i64 0, .int .i64 0, .int .i64 0, .int .i64 0]) ?_ 2 _ rfl; (with_reducible repeat (first | refine blk_drewN ?_ _ | refine blk_drew ?_ | refine blk_alloc ?_ _)); refine blk_put (cs := #[.int .i64 (wrap64 (a0_0 + a1_0)), .int .i64 0, .int .i64 0, .int .i64 0, .int .i64 0, .int .i64 0]) ?_ 1 _ rfl; (with_reducible repeat (first | refine blk_drewN ?_ _ | refine blk_drew ?_ | refine blk_alloc ?_ _)); refine blk_put (cs := #[.int .i64 0, .int .i64 0, .int .i64 0, .int .i64 0, .int .i64 0, .int .i64 0]) ?_ 0 _ rfl; (with_reducible repeat (first | refine blk_drewN ?_ _ | refine blk_drew ?_ | refine blk_alloc ?_ _)); exact BK243.out) Try.underlying30 rfl (by kernel_rfl)) rfl ?_
  exact ⟨by first | rfl | (simp [errW_none, errW_some] <;> rfl) | (simp [*, errW_none, errW_some] <;> rfl), by repeat (first | (with_reducible first | exact HB.out | apply below_alloc | apply pw_below_drewN | apply below_drew1 | refine below_set ?_ GE241.out | refine below_set ?_ GE242.out | refine below_set ?_ GE243.out) | exact HB.out)⟩

end Go.Proofs.Ytkoonpjlpobmeaa.Pr
