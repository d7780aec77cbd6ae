-- short
-- written by this session's own program (wip/fprint.py), which widens the kit's print by floats
import Derived.Test.YtkoonpjlpobmeaaWShort
import Derived.Test.YtkoonpjlpobmeaaPr0
namespace Go.Proofs.Ytkoonpjlpobmeaa.Pr
open Go.RowKit Go.Proofs.YtkoonpjlpobmeaaW.PrintWords Go.Proofs.YtkoonpjlpobmeaaW.PrintLast Go.Proofs.YtkoonpjlpobmeaaW.PrintMore
attribute [local go_sem] max2_int min2_int max_two min_two max_three min_three max_four min_four   -- for this text's walks alone
set_option linter.unusedVariables false
set_option linter.unusedSimpArgs false

/-! ### bits_form_parts_L: function 44 -/
def bits_form_parts_L.j0 : Nat → Int → Int → Bool → Bool → Option (Bool × Int × Int × Int)
 | 0, _, _, _, _ => none
 | k + 1, x5, x6, x7, x33 => if x33 = true then (some (false, 4, 0, 0)) else (if x6 = 2047 then (some (x7, 3, 0, 0)) else (if x6 > 0 then (some (x7, 2, wrap64 ((wrap64 ((-1074) + x6)) - 1), Go.bits .or .u64 x5 4503599627370496)) else (if x5 > 0 then (some (x7, 1, (-1074), x5)) else (some (x7, 0, (-1074), 0)))))
def bits_form_parts_L.f (k : Nat) (a1 : Int) : Option (Bool × Int × Int × Int) := if (Go.bits .and .i64 (wrap64 (a1 / 4503599627370496)) 2047) = 2047 then (bits_form_parts_L.j0 k (Go.bits .and .u64 a1 4503599627370495) (Go.bits .and .i64 (wrap64 (a1 / 4503599627370496)) 2047) ((Go.bits .and .u64 (a1 / 9223372036854775808) 1) == 1) ((Go.bits .and .u64 a1 4503599627370495) != 0)) else (bits_form_parts_L.j0 k (Go.bits .and .u64 a1 4503599627370495) (Go.bits .and .i64 (wrap64 (a1 / 4503599627370496)) 2047) ((Go.bits .and .u64 (a1 / 9223372036854775808) 1) == 1) false)
theorem bits_form_parts_L.mono_l : ∀ k, (∀ y0 y1 y2 y3, LeO (bits_form_parts_L.j0 k y0 y1 y2 y3) (bits_form_parts_L.j0 (k + 1) y0 y1 y2 y3))
 | 0 => fun _ _ _ _ r h => by simp [bits_form_parts_L.j0] at h
 | k + 1 => by
  have ih0 := bits_form_parts_L.mono_l k
  ·intro y0 y1 y2 y3
   unfold bits_form_parts_L.j0
   repeat' first
   | (with_reducible exact ih0 _ _ _ _)
   | (with_reducible exact LeO.refl _)
   | (with_reducible exact LeO.none _)
   | (with_reducible refine LeO.ite ?_ ?_)
   | (with_reducible refine LeO.bind ?_ (fun _ => ?_))
   | exact ih0 _ _ _ _
   | exact LeO.none _
   | refine LeO.ite ?_ ?_
   | refine LeO.bind ?_ (fun _ => ?_)
theorem bits_form_parts_L.mono : ∀ a0 k, LeO (bits_form_parts_L.f k a0) (bits_form_parts_L.f (k + 1) a0) := by
 intro a0 k
 have ih0 := bits_form_parts_L.mono_l k
 unfold bits_form_parts_L.f
 repeat' first
   | (with_reducible exact ih0 _ _ _ _)
   | (with_reducible exact LeO.refl _)
   | (with_reducible exact LeO.none _)
   | (with_reducible refine LeO.ite ?_ ?_)
   | (with_reducible refine LeO.bind ?_ (fun _ => ?_))
   | exact ih0 _ _ _ _
   | exact LeO.none _
   | refine LeO.ite ?_ ?_
   | refine LeO.bind ?_ (fun _ => ?_)
def bits_form_parts_L.T2 : Bool × List (List Nat × List Nat) := (true, [([], []), ([], []), ([1], [1]), ([0, 2], [0, 2]), ([3], [3]), ([], []), ([5], [5]), ([6], [6]), ([7], [7]), ([4, 8], [4, 8]), ([9, 0, 1, 2, 3, 4, 5, 6, 7, 8, 9], [9])])
def bits_form_parts_L.B2 : List Nat := [0, 0, 2, 7, 15, 0, 32, 96, 224, 511, 1023]
theorem bits_form_parts_L.tab2 : rtab .any (opsOf Try.f44 2) = bits_form_parts_L.T2 := by kernel_rfl
theorem bits_form_parts_L.bits2 : waitsOk bits_form_parts_L.T2.2 bits_form_parts_L.B2 = true := by kernel_rfl
def bits_form_parts_L.T9 : Bool × List (List Nat × List Nat) := (true, [([], []), ([], []), ([1], [1]), ([], []), ([2, 3], [2, 3]), ([4], [4]), ([], []), ([], []), ([7], [7]), ([8], [8]), ([6, 9], [6, 9]), ([0, 5, 10], [0, 5, 10]), ([11, 0, 1, 2, 3, 4, 5, 6, 7, 8, 9, 10, 11], [11])])
def bits_form_parts_L.B9 : List Nat := [0, 0, 2, 0, 14, 30, 0, 0, 128, 384, 960, 2047, 4095]
theorem bits_form_parts_L.tab9 : rtab .any (opsOf Try.f44 9) = bits_form_parts_L.T9 := by kernel_rfl
theorem bits_form_parts_L.bits9 : waitsOk bits_form_parts_L.T9.2 bits_form_parts_L.B9 = true := by kernel_rfl
set_option maxHeartbeats 3000000 in
set_option maxRecDepth 100000 in
theorem bits_form_parts_L.calls (k : Nat) (a1 : Int) (r1 : Bool) (r2 : Int) (r3 : Int) (r4 : Int) (w : World) (h : bits_form_parts_L.f k a1 = some (r1, r2, r3, r4)) :
  Calls Try.prog 44 #[.agg #[.int .i64 11, .int .i64 52, .int .i64 (-1074)], .int .u64 a1] w fun e w' => e = .returned (.agg #[.bool r1, .int .i64 r2, .int .i64 r3, .int .u64 r4]) ∧ Below w.heap.size w w' := by
 have hu70 := Try.underlying70
 have hu64 := Try.underlying64
 have HB := Aside0.mk (Below.refl w.heap.size w)
 have H : (if (Go.bits .and .i64 (wrap64 (a1 / 4503599627370496)) 2047) = 2047 then (bits_form_parts_L.j0 k (Go.bits .and .u64 a1 4503599627370495) (Go.bits .and .i64 (wrap64 (a1 / 4503599627370496)) 2047) ((Go.bits .and .u64 (a1 / 9223372036854775808) 1) == 1) ((Go.bits .and .u64 a1 4503599627370495) != 0)) else (bits_form_parts_L.j0 k (Go.bits .and .u64 a1 4503599627370495) (Go.bits .and .i64 (wrap64 (a1 / 4503599627370496)) 2047) ((Go.bits .and .u64 (a1 / 9223372036854775808) 1) == 1) false)) = some (r1, r2, r3, r4) := h
 clear h
 have HC3 := Aside0.mk H
 clear H
 go_enter Try.func44, Try.ntmps44
 try go_wp2_with (first | ((with_reducible refine gate_dst (N := 2) rfl ?_); refine box_event ?hg (N := 2) ?hd (cs := #[.int .i64 11, .int .i64 52, .int .i64 (-1074)]) (t := 70) ?hr ?_; (case hd => rfl); (case hg => rfl); (case hr => first | (go_simp; done) | (go_simp; rfl)); intro gb106 hg w4 hbox hb; have n0_ := bs_ HB hb; have n1_ := Aside0.mk (hbox); have n2_ := ge_ HB hg; have n3_ := ge_ HB hg; clear HB; have HB := n0_; have BK106 := n1_; have GW106 := n2_; have GE106 := n3_; clear n0_ n1_ n2_ n3_; clear hb hbox hg) | ((with_reducible refine gate_dst (N := 4) rfl ?_); refine box_event ?hg (N := 4) ?hd (cs := #[.bool false, .int .i64 0, .int .i64 0, .int .u64 0]) (t := 64) ?hr ?_; (case hd => rfl); (case hg => rfl); (case hr => first | (go_simp; done) | (go_simp; rfl)); intro gb107 hg w5 hbox hb; have n0_ := kb_ BK106 hb; have n1_ := bs_ HB hb; have n2_ := Aside0.mk (hbox); have n3_ := ge_ HB hg; have n4_ := ge_ HB hg; have n5_ := nlt_ BK106 hg; have n6_ := ngt_ BK106 hg; clear BK106; clear HB; have BK106 := n0_; have HB := n1_; have BK107 := n2_; have GW107 := n3_; have GE107 := n4_; have NB106_107 := n5_; have NB107_106 := n6_; clear n0_ n1_ n2_ n3_ n4_ n5_ n6_; clear hb hbox hg; have hnb6 := NB106_107.out; have hnc6 := NB107_106.out; have hcz7_0 : w5.cell? ⟨gb106, 0, none⟩ = some (.int .i64 11) := (blk_cell BK106.out 0).trans rfl; have hcz7_1 : w5.cell? ⟨gb106, 1, none⟩ = some (.int .i64 52) := (blk_cell BK106.out 1).trans rfl; have hcz7_2 : w5.cell? ⟨gb106, 2, none⟩ = some (.int .i64 (-1074)) := (blk_cell BK106.out 2).trans rfl; have hfz7_0 := blk_frozen BK106.out 0; have hfz7_1 := blk_frozen BK106.out 1; have hfz7_2 := blk_frozen BK106.out 2))
 have n0_ := Aside0.mk (blk_drew BK106.out)
 have n1_ := Aside0.mk (blk_drew BK107.out)
 have n2_ := Aside0.mk (below_drew1 HB.out)
 clear BK106
 clear BK107
 clear HB
 have BK106 := n0_
 have BK107 := n1_
 have HB := n2_
 clear n0_ n1_ n2_
 refine start_ (n := 11) (S := fun w' => w'.cell? ⟨gb106, 0, none⟩ = some (.int .i64 11) ∧ w'.cell? ⟨gb106, 1, none⟩ = some (.int .i64 52) ∧ w'.cell? ⟨gb106, 2, none⟩ = some (.int .i64 (-1074))) (ds := []) #[false, false, false, false, false, false, false, false, false, false, false] (by kernel_rfl) rfl rfl ⟨(blk_cell BK106.out 0).trans rfl, (blk_cell BK106.out 1).trans rfl, (blk_cell BK106.out 2).trans rfl⟩ (fun hHeld => ?_); refine with_tabW bits_form_parts_L.tab2 bits_form_parts_L.bits2 (fun HT_ HW_ => ?_)
 generalize w5.drew = w8 at BK106 BK107 HB hHeld ⊢
 refine pure_ (i := 0) (N := some 14) (v := ?_) (a' := ?_) #[true, false, false, false, false, false, false, false, false, false, false] rfl rfl (any_of HT_.out (by kernel_rfl)) (fun _ _ _ h => h) (Or.inl ⟨by rfl, ?_⟩) ?_ ?_
 rotate_left
 ·intro w'
  go_simp
  with_reducible rfl
 rotate_left
 ·simp only [Act.put, List.setIfInBounds_toArray, List.set_cons_zero, List.set_cons_succ, i64_w, i32_w]
  rfl
 refine pure_ (i := 1) (N := some 15) (v := ?_) (a' := ?_) #[true, true, false, false, false, false, false, false, false, false, false] rfl rfl (any_of HT_.out (by kernel_rfl)) (fun _ _ _ h => h) (Or.inl ⟨by rfl, ?_⟩) ?_ ?_
 rotate_left
 ·intro w'
  go_simp
  with_reducible rfl
 rotate_left
 ·simp only [Act.put, List.setIfInBounds_toArray, List.set_cons_zero, List.set_cons_succ, i64_w, i32_w]
  rfl
 refine pure_ (i := 5) (N := some 19) (v := ?_) (a' := ?_) #[true, true, false, false, false, true, false, false, false, false, false] rfl rfl (any_of HT_.out (by kernel_rfl)) (fun _ _ _ h => h) (Or.inl ⟨by rfl, ?_⟩) ?_ ?_
 rotate_left
 ·intro w'
  go_simp
  with_reducible rfl
 rotate_left
 ·simp only [Act.put, List.setIfInBounds_toArray, List.set_cons_zero, List.set_cons_succ, i64_w, i32_w]
  rfl
 refine take_ (i := 2) (N := some 16) (v := ?_) (a' := ?_) #[true, true, true, false, false, true, false, false, false, false, false] rfl rfl (take_ofW HT_.out HW_.out (by kernel_rfl)) (fun _ _ _ h => h) (Or.inl ⟨by rfl, ?_⟩) hHeld ?_ ?_
 rotate_left
 ·rintro w' ⟨s0, s1, s2⟩
  go_simp
  with_reducible rfl
 rotate_left
 ·simp only [Act.put, List.setIfInBounds_toArray, List.set_cons_zero, List.set_cons_succ, i64_w, i32_w]
  rfl
 refine pure_ (i := 3) (N := some 17) (v := ?_) (a' := ?_) #[true, true, true, true, false, true, false, false, false, false, false] rfl rfl (any_of HT_.out (by kernel_rfl)) (fun _ _ _ h => h) (Or.inl ⟨by rfl, ?_⟩) ?_ ?_
 rotate_left
 ·intro w'
  go_simp
  with_reducible rfl
 rotate_left
 ·simp only [Act.put, List.setIfInBounds_toArray, List.set_cons_zero, List.set_cons_succ, i64_w, i32_w]
  rfl
 refine pure_ (i := 4) (N := some 18) (v := ?_) (a' := ?_) #[true, true, true, true, true, true, false, false, false, false, false] rfl rfl (any_of HT_.out (by kernel_rfl)) (fun _ _ _ h => h) (Or.inl ⟨by rfl, ?_⟩) ?_ ?_
 rotate_left
 ·intro w'
  go_simp
  with_reducible rfl
 rotate_left
 ·simp only [Act.put, List.setIfInBounds_toArray, List.set_cons_zero, List.set_cons_succ, i64_w, i32_w]
  rfl
 refine take_ (i := 6) (N := some 20) (v := ?_) (a' := ?_) #[true, true, true, true, true, true, true, false, false, false, false] rfl rfl (take_ofW HT_.out HW_.out (by kernel_rfl)) (fun _ _ _ h => h) (Or.inl ⟨by rfl, ?_⟩) hHeld ?_ ?_
 rotate_left
 ·rintro w' ⟨s0, s1, s2⟩
  go_simp
  with_reducible rfl
 rotate_left
 ·simp only [Act.put, List.setIfInBounds_toArray, List.set_cons_zero, List.set_cons_succ, i64_w, i32_w]
  rfl
 refine pure_ (i := 7) (N := some 21) (v := ?_) (a' := ?_) #[true, true, true, true, true, true, true, true, false, false, false] rfl rfl (any_of HT_.out (by kernel_rfl)) (fun _ _ _ h => h) (Or.inl ⟨by rfl, ?_⟩) ?_ ?_
 rotate_left
 ·intro w'
  go_simp
  with_reducible rfl
 rotate_left
 ·simp only [Act.put, List.setIfInBounds_toArray, List.set_cons_zero, List.set_cons_succ, i64_w, i32_w]
  rfl
 refine pure_ (i := 8) (N := some 22) (v := ?_) (a' := ?_) #[true, true, true, true, true, true, true, true, true, false, false] rfl rfl (any_of HT_.out (by kernel_rfl)) (fun _ _ _ h => h) (Or.inl ⟨by rfl, ?_⟩) ?_ ?_
 rotate_left
 ·intro w'
  go_simp
  with_reducible rfl
 rotate_left
 ·simp only [Act.put, List.setIfInBounds_toArray, List.set_cons_zero, List.set_cons_succ, i64_w, i32_w]
  rfl
 refine pure_ (i := 9) (N := some 23) (v := ?_) (a' := ?_) #[true, true, true, true, true, true, true, true, true, true, false] rfl rfl (any_of HT_.out (by kernel_rfl)) (fun _ _ _ h => h) (Or.inl ⟨by rfl, ?_⟩) ?_ ?_
 rotate_left
 ·intro w'
  go_simp
  with_reducible rfl
 rotate_left
 ·simp only [Act.put, List.setIfInBounds_toArray, List.set_cons_zero, List.set_cons_succ, i64_w, i32_w]
  rfl
 refine pure_ (i := 10) (N := some 6) (v := ?_) (a' := ?_) #[true, true, true, true, true, true, true, true, true, true, true] rfl rfl (any_of HT_.out (by kernel_rfl)) (fun _ _ _ h => h) (Or.inl ⟨by rfl, ?_⟩) ?_ ?_
 rotate_left
 ·intro w'
  go_simp
  with_reducible rfl
 rotate_left
 ·simp only [Act.put, List.setIfInBounds_toArray, List.set_cons_zero, List.set_cons_succ, i64_w, i32_w]
  rfl
 refine done_ (done_of HT_.out (by kernel_rfl)) ?_
 have hcz9_0 : w8.cell? ⟨gb106, 0, none⟩ = some (.int .i64 11) := (blk_cell BK106.out 0).trans rfl
 have hcz9_1 : w8.cell? ⟨gb106, 1, none⟩ = some (.int .i64 52) := (blk_cell BK106.out 1).trans rfl
 have hcz9_2 : w8.cell? ⟨gb106, 2, none⟩ = some (.int .i64 (-1074)) := (blk_cell BK106.out 2).trans rfl
 have hfz9_0 := blk_frozen BK106.out 0
 have hfz9_1 := blk_frozen BK106.out 1
 have hfz9_2 := blk_frozen BK106.out 2
 go_upto_region 4 with (fail)
 go_cut [33] (fun v33 wc => ∃ (kq : Nat) (x33_2 : Bool), v33 = .bool x33_2 ∧ Aside0 (bits_form_parts_L.j0 kq (Go.bits .and .u64 a1 4503599627370495) (Go.bits .and .i64 (wrap64 (a1 / 4503599627370496)) 2047) ((Go.bits .and .u64 (a1 / 9223372036854775808) 1) == 1) x33_2 = some (r1, r2, r3, r4)) ∧ Aside0 (kq ≤ k) ∧ Aside0 (wc.heap[gb106]? = some (.cells #[.int .i64 11, .int .i64 52, .int .i64 (-1074)] 70 (0, 0))) ∧ Aside0 (wc.heap[gb107]? = some (.cells #[.bool false, .int .i64 0, .int .i64 0, .int .u64 0] 64 (0, 0))) ∧ Aside0 (Below w.heap.size w wc))
 case first =>
  have H := HC3.out
  clear HC3
  by_cases c10 : (Go.bits .and .i64 (wrap64 (a1 / 4503599627370496)) 2047) = 2047
  ·rw [if_pos c10] at H
   have c10b0 : ((Go.bits .and .i64 (wrap64 (a1 / 4503599627370496)) 2047) == 2047) = true := beq_iff_eq.mpr c10
   have c10b1 : ((Go.bits .and .i64 (wrap64 (a1 / 4503599627370496)) 2047) != 2047) = false := bne_eq_false_iff_eq.mpr c10
   clear c10
   (first | rw [c10b0] | (simp only [i64_w, i32_w]; rw [c10b0]) | skip)
   have H' := Aside0.mk H
   clear H
   have hnb11 := NB106_107.out
   have hnc11 := NB107_106.out
   have hcz12_0 : w8.cell? ⟨gb106, 0, none⟩ = some (.int .i64 11) := (blk_cell BK106.out 0).trans rfl
   have hcz12_1 : w8.cell? ⟨gb106, 1, none⟩ = some (.int .i64 52) := (blk_cell BK106.out 1).trans rfl
   have hcz12_2 : w8.cell? ⟨gb106, 2, none⟩ = some (.int .i64 (-1074)) := (blk_cell BK106.out 2).trans rfl
   have hfz12_0 := blk_frozen BK106.out 0
   have hfz12_1 := blk_frozen BK106.out 1
   have hfz12_2 := blk_frozen BK106.out 2
   go_wp2
   go_meet
   case rel => exact ⟨_, (((Go.bits .and .u64 a1 4503599627370495) != 0)), (by first | rfl | (simp; done) | (simp [*]; done)), H', ⟨by first | omega | exact Nat.le_refl _⟩, ⟨by (with_reducible repeat (first | apply bN | apply bD | apply bA)); exact BK106.out⟩, ⟨by (with_reducible repeat (first | apply bN | apply bD | apply bA)); exact BK107.out⟩, ⟨bl_ HB⟩⟩
  ·rw [if_neg c10] at H
   have c10b0 : ((Go.bits .and .i64 (wrap64 (a1 / 4503599627370496)) 2047) == 2047) = false := beq_eq_false_iff_ne.mpr c10
   have c10b1 : ((Go.bits .and .i64 (wrap64 (a1 / 4503599627370496)) 2047) != 2047) = true := bne_iff_ne.mpr c10
   (first | rw [c10b0] | (simp only [i64_w, i32_w]; rw [c10b0]) | skip)
   have H' := Aside0.mk H
   clear H
   have hnb13 := NB106_107.out
   have hnc13 := NB107_106.out
   have hcz14_0 : w8.cell? ⟨gb106, 0, none⟩ = some (.int .i64 11) := (blk_cell BK106.out 0).trans rfl
   have hcz14_1 : w8.cell? ⟨gb106, 1, none⟩ = some (.int .i64 52) := (blk_cell BK106.out 1).trans rfl
   have hcz14_2 : w8.cell? ⟨gb106, 2, none⟩ = some (.int .i64 (-1074)) := (blk_cell BK106.out 2).trans rfl
   have hfz14_0 := blk_frozen BK106.out 0
   have hfz14_1 := blk_frozen BK106.out 1
   have hfz14_2 := blk_frozen BK106.out 2
   go_wp2
   go_meet
   case rel => exact ⟨_, (false), (by first | rfl | (simp; done) | (simp [*]; done)), H', ⟨by first | omega | exact Nat.le_refl _⟩, ⟨by (with_reducible repeat (first | apply bN | apply bD | apply bA)); exact BK106.out⟩, ⟨by (with_reducible repeat (first | apply bN | apply bD | apply bA)); exact BK107.out⟩, ⟨bl_ HB⟩⟩
 case rest =>
  clear HC3
  try clear c1
  try clear p2
  try clear c4
  try clear c6
  try clear p6
  try clear c10
  try clear c10b0
  try clear c10b1
  try clear c11
  try clear c13
  try clear hcz12_0
  try clear hcz12_1
  try clear hcz12_2
  try clear hcz14_0
  try clear hcz14_1
  try clear hcz14_2
  try clear hcz7_0
  try clear hcz7_1
  try clear hcz7_2
  try clear hcz9_0
  try clear hcz9_1
  try clear hcz9_2
  try clear hfz12_0
  try clear hfz12_1
  try clear hfz12_2
  try clear hfz14_0
  try clear hfz14_1
  try clear hfz14_2
  try clear hfz7_0
  try clear hfz7_1
  try clear hfz7_2
  try clear hfz9_0
  try clear hfz9_1
  try clear hfz9_2
  obtain ⟨kq, x33_2, rfl, HA, HJ2, BK106, BK107, HB⟩ := hcut
  cases kq with
  | zero => exact absurd HA.out (by simp [bits_form_parts_L.j0])
  | succ kj2 =>
   have H := HA.out
   clear HA
   simp only [bits_form_parts_L.j0] at H
   by_cases c15 : x33_2 = true
   ·subst c15
    have H1 : (some (false, 4, 0, 0)) = some (r1, r2, r3, r4) := by rw [if_pos rfl] at H; exact H
    clear H
    have H := H1
    clear H1
    simp only [Option.some.injEq, Prod.mk.injEq] at H
    obtain ⟨rfl, rfl, rfl, rfl⟩ := H
    have hnb16 := NB107_106.out
    have hnc16 := NB106_107.out
    have hcz17_0 : wc.cell? ⟨gb107, 0, none⟩ = some (.bool false) := (blk_cell BK107.out 0).trans rfl
    have hcz17_1 : wc.cell? ⟨gb107, 1, none⟩ = some (.int .i64 0) := (blk_cell BK107.out 1).trans rfl
    have hcz17_2 : wc.cell? ⟨gb107, 2, none⟩ = some (.int .i64 0) := (blk_cell BK107.out 2).trans rfl
    have hcz17_3 : wc.cell? ⟨gb107, 3, none⟩ = some (.int .u64 0) := (blk_cell BK107.out 3).trans rfl
    have hfz17_0 := blk_frozen BK107.out 0
    have hfz17_1 := blk_frozen BK107.out 1
    have hfz17_2 := blk_frozen BK107.out 2
    have hfz17_3 := blk_frozen BK107.out 3
    go_wp2
    refine bodyPost_ret (results_cell_row rfl _ _ gb107 64 #[.bool false, .int .i64 4, .int .i64 0, .int .u64 0] (0, 0) _ rfl (by (with_reducible repeat (first | apply bN | apply bD | apply bA)); refine blk_put (cs := #[.bool false, .int .i64 4, .int .i64 0, .int .u64 0]) ?_ 3 _ rfl; (with_reducible repeat (first | apply bN | apply bD | apply bA)); refine blk_put (cs := #[.bool false, .int .i64 4, .int .i64 0, .int .u64 0]) ?_ 2 _ rfl; (with_reducible repeat (first | apply bN | apply bD | apply bA)); refine blk_put (cs := #[.bool false, .int .i64 0, .int .i64 0, .int .u64 0]) ?_ 1 _ rfl; (with_reducible repeat (first | apply bN | apply bD | apply bA)); refine blk_put (cs := #[.bool false, .int .i64 0, .int .i64 0, .int .u64 0]) ?_ 0 _ rfl; (with_reducible repeat (first | apply bN | apply bD | apply bA)); exact BK107.out) Try.underlying64 rfl (by kernel_rfl)) rfl ?_
    exact ⟨by first | rfl | (simp [errW_none, errW_some] <;> rfl) | (simp [*, errW_none, errW_some] <;> rfl), bl_ HB⟩
   ·replace c15 := Bool.eq_false_iff.mpr c15
    subst c15
    have H1 : (if (Go.bits .and .i64 (wrap64 (a1 / 4503599627370496)) 2047) = 2047 then (some (((Go.bits .and .u64 (a1 / 9223372036854775808) 1) == 1), 3, 0, 0)) else (if (Go.bits .and .i64 (wrap64 (a1 / 4503599627370496)) 2047) > 0 then (some (((Go.bits .and .u64 (a1 / 9223372036854775808) 1) == 1), 2, wrap64 ((wrap64 ((-1074) + (Go.bits .and .i64 (wrap64 (a1 / 4503599627370496)) 2047))) - 1), Go.bits .or .u64 (Go.bits .and .u64 a1 4503599627370495) 4503599627370496)) else (if (Go.bits .and .u64 a1 4503599627370495) > 0 then (some (((Go.bits .and .u64 (a1 / 9223372036854775808) 1) == 1), 1, (-1074), (Go.bits .and .u64 a1 4503599627370495))) else (some (((Go.bits .and .u64 (a1 / 9223372036854775808) 1) == 1), 0, (-1074), 0))))) = some (r1, r2, r3, r4) := by rw [if_neg (show ¬ (false = true) by decide)] at H; exact H
    clear H
    have H := H1
    clear H1
    by_cases c18 : (Go.bits .and .i64 (wrap64 (a1 / 4503599627370496)) 2047) = 2047
    ·rw [if_pos c18] at H
     have c18b0 : ((Go.bits .and .i64 (wrap64 (a1 / 4503599627370496)) 2047) == 2047) = true := beq_iff_eq.mpr c18
     have c18b1 : ((Go.bits .and .i64 (wrap64 (a1 / 4503599627370496)) 2047) != 2047) = false := bne_eq_false_iff_eq.mpr c18
     clear c18
     simp only [Option.some.injEq, Prod.mk.injEq] at H
     obtain ⟨rfl, rfl, rfl, rfl⟩ := H
     have hnb19 := NB106_107.out
     have hnc19 := NB107_106.out
     have hcz20_0 : wc.cell? ⟨gb106, 0, none⟩ = some (.int .i64 11) := (blk_cell BK106.out 0).trans rfl
     have hcz20_1 : wc.cell? ⟨gb106, 1, none⟩ = some (.int .i64 52) := (blk_cell BK106.out 1).trans rfl
     have hcz20_2 : wc.cell? ⟨gb106, 2, none⟩ = some (.int .i64 (-1074)) := (blk_cell BK106.out 2).trans rfl
     have hfz20_0 := blk_frozen BK106.out 0
     have hfz20_1 := blk_frozen BK106.out 1
     have hfz20_2 := blk_frozen BK106.out 2
     have hcz21_0 : wc.cell? ⟨gb107, 0, none⟩ = some (.bool false) := (blk_cell BK107.out 0).trans rfl
     have hcz21_1 : wc.cell? ⟨gb107, 1, none⟩ = some (.int .i64 0) := (blk_cell BK107.out 1).trans rfl
     have hcz21_2 : wc.cell? ⟨gb107, 2, none⟩ = some (.int .i64 0) := (blk_cell BK107.out 2).trans rfl
     have hcz21_3 : wc.cell? ⟨gb107, 3, none⟩ = some (.int .u64 0) := (blk_cell BK107.out 3).trans rfl
     have hfz21_0 := blk_frozen BK107.out 0
     have hfz21_1 := blk_frozen BK107.out 1
     have hfz21_2 := blk_frozen BK107.out 2
     have hfz21_3 := blk_frozen BK107.out 3
     go_wp2
     refine bodyPost_ret (results_cell_row rfl _ _ gb107 64 #[.bool ((Go.bits .and .u64 (a1 / 9223372036854775808) 1) == 1), .int .i64 3, .int .i64 0, .int .u64 0] (0, 0) _ rfl (by (with_reducible repeat (first | apply bN | apply bD | apply bA)); refine blk_put (cs := #[.bool ((Go.bits .and .u64 (a1 / 9223372036854775808) 1) == 1), .int .i64 3, .int .i64 0, .int .u64 0]) ?_ 3 _ rfl; (with_reducible repeat (first | apply bN | apply bD | apply bA)); refine blk_put (cs := #[.bool ((Go.bits .and .u64 (a1 / 9223372036854775808) 1) == 1), .int .i64 3, .int .i64 0, .int .u64 0]) ?_ 2 _ rfl; (with_reducible repeat (first | apply bN | apply bD | apply bA)); refine blk_put (cs := #[.bool ((Go.bits .and .u64 (a1 / 9223372036854775808) 1) == 1), .int .i64 0, .int .i64 0, .int .u64 0]) ?_ 1 _ rfl; (with_reducible repeat (first | apply bN | apply bD | apply bA)); refine blk_put (cs := #[.bool false, .int .i64 0, .int .i64 0, .int .u64 0]) ?_ 0 _ rfl; (with_reducible repeat (first | apply bN | apply bD | apply bA)); exact BK107.out) Try.underlying64 rfl (by kernel_rfl)) rfl ?_
     exact ⟨by first | rfl | (simp [errW_none, errW_some] <;> rfl) | (simp [*, errW_none, errW_some] <;> rfl), bl_ HB⟩
    ·rw [if_neg c18] at H
     have c18b0 : ((Go.bits .and .i64 (wrap64 (a1 / 4503599627370496)) 2047) == 2047) = false := beq_eq_false_iff_ne.mpr c18
     have c18b1 : ((Go.bits .and .i64 (wrap64 (a1 / 4503599627370496)) 2047) != 2047) = true := bne_iff_ne.mpr c18
     by_cases c22 : (Go.bits .and .i64 (wrap64 (a1 / 4503599627370496)) 2047) > 0
     ·rw [if_pos c22] at H
      have c22b0 : decide (0 < (Go.bits .and .i64 (wrap64 (a1 / 4503599627370496)) 2047)) = true := decide_eq_true c22
      clear c22
      simp only [Option.some.injEq, Prod.mk.injEq] at H
      obtain ⟨rfl, rfl, rfl, rfl⟩ := H
      have hnb23 := NB106_107.out
      have hnc23 := NB107_106.out
      have hcz24_0 : wc.cell? ⟨gb106, 0, none⟩ = some (.int .i64 11) := (blk_cell BK106.out 0).trans rfl
      have hcz24_1 : wc.cell? ⟨gb106, 1, none⟩ = some (.int .i64 52) := (blk_cell BK106.out 1).trans rfl
      have hcz24_2 : wc.cell? ⟨gb106, 2, none⟩ = some (.int .i64 (-1074)) := (blk_cell BK106.out 2).trans rfl
      have hfz24_0 := blk_frozen BK106.out 0
      have hfz24_1 := blk_frozen BK106.out 1
      have hfz24_2 := blk_frozen BK106.out 2
      try go_wp2
      have n0_ := Aside0.mk (blk_drew BK106.out)
      have n1_ := Aside0.mk (blk_drew BK107.out)
      have n2_ := Aside0.mk (below_drew1 HB.out)
      clear BK106
      clear BK107
      clear HB
      have BK106 := n0_
      have BK107 := n1_
      have HB := n2_
      clear n0_ n1_ n2_
      refine start_ (n := 13) (S := fun w' => w'.cell? ⟨gb106, 0, none⟩ = some (.int .i64 11) ∧ w'.cell? ⟨gb106, 1, none⟩ = some (.int .i64 52) ∧ w'.cell? ⟨gb106, 2, none⟩ = some (.int .i64 (-1074))) (ds := []) #[false, false, false, false, false, false, false, false, false, false, false, false, false] (by kernel_rfl) rfl rfl ⟨(blk_cell BK106.out 0).trans rfl, (blk_cell BK106.out 1).trans rfl, (blk_cell BK106.out 2).trans rfl⟩ (fun hHeld => ?_); refine with_tabW bits_form_parts_L.tab9 bits_form_parts_L.bits9 (fun HT_ HW_ => ?_)
      generalize wc.drew = w25 at BK106 BK107 HB hHeld ⊢
      refine pure_ (i := 0) (N := some 57) (v := ?_) (a' := ?_) #[true, false, false, false, false, false, false, false, false, false, false, false, false] rfl rfl (any_of HT_.out (by kernel_rfl)) (fun _ _ _ h => h) (Or.inl ⟨by rfl, ?_⟩) ?_ ?_
      rotate_left
      ·intro w'
       go_simp
       with_reducible rfl
      rotate_left
      ·simp only [Act.put, List.setIfInBounds_toArray, List.set_cons_zero, List.set_cons_succ, i64_w, i32_w]
       rfl
      refine pure_ (i := 1) (N := some 58) (v := ?_) (a' := ?_) #[true, true, false, false, false, false, false, false, false, false, false, false, false] rfl rfl (any_of HT_.out (by kernel_rfl)) (fun _ _ _ h => h) (Or.inl ⟨by rfl, ?_⟩) ?_ ?_
      rotate_left
      ·intro w'
       go_simp
       with_reducible rfl
      rotate_left
      ·simp only [Act.put, List.setIfInBounds_toArray, List.set_cons_zero, List.set_cons_succ, i64_w, i32_w]
       rfl
      refine pure_ (i := 3) (N := some 60) (v := ?_) (a' := ?_) #[true, true, false, true, false, false, false, false, false, false, false, false, false] rfl rfl (any_of HT_.out (by kernel_rfl)) (fun _ _ _ h => h) (Or.inl ⟨by rfl, ?_⟩) ?_ ?_
      rotate_left
      ·intro w'
       go_simp
       with_reducible rfl
      rotate_left
      ·simp only [Act.put, List.setIfInBounds_toArray, List.set_cons_zero, List.set_cons_succ, i64_w, i32_w]
       rfl
      refine pure_ (i := 6) (N := some 63) (v := ?_) (a' := ?_) #[true, true, false, true, false, false, true, false, false, false, false, false, false] rfl rfl (any_of HT_.out (by kernel_rfl)) (fun _ _ _ h => h) (Or.inl ⟨by rfl, ?_⟩) ?_ ?_
      rotate_left
      ·intro w'
       go_simp
       with_reducible rfl
      rotate_left
      ·simp only [Act.put, List.setIfInBounds_toArray, List.set_cons_zero, List.set_cons_succ, i64_w, i32_w]
       rfl
      refine pure_ (i := 7) (N := some 64) (v := ?_) (a' := ?_) #[true, true, false, true, false, false, true, true, false, false, false, false, false] rfl rfl (any_of HT_.out (by kernel_rfl)) (fun _ _ _ h => h) (Or.inl ⟨by rfl, ?_⟩) ?_ ?_
      rotate_left
      ·intro w'
       go_simp
       with_reducible rfl
      rotate_left
      ·simp only [Act.put, List.setIfInBounds_toArray, List.set_cons_zero, List.set_cons_succ, i64_w, i32_w]
       rfl
      refine take_ (i := 2) (N := some 59) (v := ?_) (a' := ?_) #[true, true, true, true, false, false, true, true, false, false, false, false, false] rfl rfl (take_ofW HT_.out HW_.out (by kernel_rfl)) (fun _ _ _ h => h) (Or.inl ⟨by rfl, ?_⟩) hHeld ?_ ?_
      rotate_left
      ·rintro w' ⟨s0, s1, s2⟩
       go_simp
       with_reducible rfl
      rotate_left
      ·simp only [Act.put, List.setIfInBounds_toArray, List.set_cons_zero, List.set_cons_succ, i64_w, i32_w]
       rfl
      refine pure_ (i := 4) (N := some 61) (v := ?_) (a' := ?_) #[true, true, true, true, true, false, true, true, false, false, false, false, false] rfl rfl (any_of HT_.out (by kernel_rfl)) (fun _ _ _ h => h) (Or.inl ⟨by rfl, ?_⟩) ?_ ?_
      rotate_left
      ·intro w'
       go_simp
       with_reducible rfl
      rotate_left
      ·simp only [Act.put, List.setIfInBounds_toArray, List.set_cons_zero, List.set_cons_succ, i64_w, i32_w]
       rfl
      refine pure_ (i := 5) (N := some 62) (v := ?_) (a' := ?_) #[true, true, true, true, true, true, true, true, false, false, false, false, false] rfl rfl (any_of HT_.out (by kernel_rfl)) (fun _ _ _ h => h) (Or.inl ⟨by rfl, ?_⟩) ?_ ?_
      rotate_left
      ·intro w'
       go_simp
       with_reducible rfl
      rotate_left
      ·simp only [Act.put, List.setIfInBounds_toArray, List.set_cons_zero, List.set_cons_succ, i64_w, i32_w]
       rfl
      refine take_ (i := 8) (N := some 65) (v := ?_) (a' := ?_) #[true, true, true, true, true, true, true, true, true, false, false, false, false] rfl rfl (take_ofW HT_.out HW_.out (by kernel_rfl)) (fun _ _ _ h => h) (Or.inl ⟨by rfl, ?_⟩) hHeld ?_ ?_
      rotate_left
      ·rintro w' ⟨s0, s1, s2⟩
       go_simp
       with_reducible rfl
      rotate_left
      ·simp only [Act.put, List.setIfInBounds_toArray, List.set_cons_zero, List.set_cons_succ, i64_w, i32_w]
       rfl
      refine pure_ (i := 9) (N := some 66) (v := ?_) (a' := ?_) #[true, true, true, true, true, true, true, true, true, true, false, false, false] rfl rfl (any_of HT_.out (by kernel_rfl)) (fun _ _ _ h => h) (Or.inl ⟨by rfl, ?_⟩) ?_ ?_
      rotate_left
      ·intro w'
       go_simp
       with_reducible rfl
      rotate_left
      ·simp only [Act.put, List.setIfInBounds_toArray, List.set_cons_zero, List.set_cons_succ, i64_w, i32_w]
       rfl
      refine pure_ (i := 10) (N := some 67) (v := ?_) (a' := ?_) #[true, true, true, true, true, true, true, true, true, true, true, false, false] rfl rfl (any_of HT_.out (by kernel_rfl)) (fun _ _ _ h => h) (Or.inl ⟨by rfl, ?_⟩) ?_ ?_
      rotate_left
      ·intro w'
       go_simp
       with_reducible rfl
      rotate_left
      ·simp only [Act.put, List.setIfInBounds_toArray, List.set_cons_zero, List.set_cons_succ, i64_w, i32_w]
       rfl
      refine pure_ (i := 11) (N := some 68) (v := ?_) (a' := ?_) #[true, true, true, true, true, true, true, true, true, true, true, true, false] rfl rfl (any_of HT_.out (by kernel_rfl)) (fun _ _ _ h => h) (Or.inl ⟨by rfl, ?_⟩) ?_ ?_
      rotate_left
      ·intro w'
       go_simp
       with_reducible rfl
      rotate_left
      ·simp only [Act.put, List.setIfInBounds_toArray, List.set_cons_zero, List.set_cons_succ, i64_w, i32_w]
       rfl
      refine one_ (i := 12) (N := none) #[true, true, true, true, true, true, true, true, true, true, true, true, true] rfl rfl (one_of HT_.out (by kernel_rfl)) (by decide) (fun K hK => ?_)
      have hs26 : w25.cell? ⟨gb107, 0, none⟩ = some (.bool false) := (blk_cell BK107.out 0).trans rfl
      have hfs26 := blk_frozen BK107.out 0
      have hns26_0 := NB106_107.out
      have hms26_0 := NB107_106.out
      have hs27 : w25.cell? ⟨gb107, 1, none⟩ = some (.int .i64 0) := (blk_cell BK107.out 1).trans rfl
      have hfs27 := blk_frozen BK107.out 1
      have hns27_0 := NB106_107.out
      have hms27_0 := NB107_106.out
      have hs28 : w25.cell? ⟨gb107, 2, none⟩ = some (.int .i64 0) := (blk_cell BK107.out 2).trans rfl
      have hfs28 := blk_frozen BK107.out 2
      have hns28_0 := NB106_107.out
      have hms28_0 := NB107_106.out
      have hs29 : w25.cell? ⟨gb107, 3, none⟩ = some (.int .u64 0) := (blk_cell BK107.out 3).trans rfl
      have hfs29 := blk_frozen BK107.out 3
      have hns29_0 := NB106_107.out
      have hms29_0 := NB107_106.out
      refine skip_ (w1 := ?_) (by rfl) rfl ?_ ?_
      rotate_left
      ·go_simp
       rfl
      refine hK.out _ _ ⟨((cell_far (p := ⟨gb107, _, none⟩) NB106_107.out _).trans (((cell_far (p := ⟨gb107, _, none⟩) NB106_107.out _).trans (((cell_far (p := ⟨gb107, _, none⟩) NB106_107.out _).trans (((cell_far (p := ⟨gb107, _, none⟩) NB106_107.out _).trans (hHeld.1)))))))), ((cell_far (p := ⟨gb107, _, none⟩) NB106_107.out _).trans (((cell_far (p := ⟨gb107, _, none⟩) NB106_107.out _).trans (((cell_far (p := ⟨gb107, _, none⟩) NB106_107.out _).trans (((cell_far (p := ⟨gb107, _, none⟩) NB106_107.out _).trans (hHeld.2.1)))))))), ((cell_far (p := ⟨gb107, _, none⟩) NB106_107.out _).trans (((cell_far (p := ⟨gb107, _, none⟩) NB106_107.out _).trans (((cell_far (p := ⟨gb107, _, none⟩) NB106_107.out _).trans (((cell_far (p := ⟨gb107, _, none⟩) NB106_107.out _).trans (hHeld.2.2))))))))⟩ (fun hHeld => ?_)
      clear hK K
      refine done_ (done_of HT_.out (by kernel_rfl)) ?_
      try go_wp2
      refine bodyPost_ret (results_cell_row rfl _ _ gb107 64 #[.bool ((Go.bits .and .u64 (a1 / 9223372036854775808) 1) == 1), .int .i64 2, .int .i64 (wrap64 ((wrap64 ((-1074) + (Go.bits .and .i64 (wrap64 (a1 / 4503599627370496)) 2047))) - 1)), .int .u64 (Go.bits .or .u64 (Go.bits .and .u64 a1 4503599627370495) 4503599627370496)] (0, 0) _ rfl (by (with_reducible repeat (first | apply bN | apply bD | apply bA)); refine blk_put (cs := #[.bool ((Go.bits .and .u64 (a1 / 9223372036854775808) 1) == 1), .int .i64 2, .int .i64 (wrap64 ((wrap64 ((-1074) + (Go.bits .and .i64 (wrap64 (a1 / 4503599627370496)) 2047))) - 1)), .int .u64 0]) ?_ 3 _ rfl; (with_reducible repeat (first | apply bN | apply bD | apply bA)); refine blk_put (cs := #[.bool ((Go.bits .and .u64 (a1 / 9223372036854775808) 1) == 1), .int .i64 2, .int .i64 0, .int .u64 0]) ?_ 2 _ rfl; (with_reducible repeat (first | apply bN | apply bD | apply bA)); refine blk_put (cs := #[.bool ((Go.bits .and .u64 (a1 / 9223372036854775808) 1) == 1), .int .i64 0, .int .i64 0, .int .u64 0]) ?_ 1 _ rfl; (with_reducible repeat (first | apply bN | apply bD | apply bA)); refine blk_put (cs := #[.bool false, .int .i64 0, .int .i64 0, .int .u64 0]) ?_ 0 _ rfl; (with_reducible repeat (first | apply bN | apply bD | apply bA)); exact BK107.out) Try.underlying64 rfl (by kernel_rfl)) rfl ?_
      exact ⟨by first | rfl | (simp [errW_none, errW_some] <;> rfl) | (simp [*, errW_none, errW_some] <;> rfl), bl_ HB⟩
     ·rw [if_neg c22] at H
      have c22b0 : decide (0 < (Go.bits .and .i64 (wrap64 (a1 / 4503599627370496)) 2047)) = false := decide_eq_false c22
      clear c22
      by_cases c30 : (Go.bits .and .u64 a1 4503599627370495) > 0
      ·rw [if_pos c30] at H
       have c30b0 : decide (0 < (Go.bits .and .u64 a1 4503599627370495)) = true := decide_eq_true c30
       clear c30
       simp only [Option.some.injEq, Prod.mk.injEq] at H
       obtain ⟨rfl, rfl, rfl, rfl⟩ := H
       have hnb31 := NB106_107.out
       have hnc31 := NB107_106.out
       have hcz32_0 : wc.cell? ⟨gb106, 0, none⟩ = some (.int .i64 11) := (blk_cell BK106.out 0).trans rfl
       have hcz32_1 : wc.cell? ⟨gb106, 1, none⟩ = some (.int .i64 52) := (blk_cell BK106.out 1).trans rfl
       have hcz32_2 : wc.cell? ⟨gb106, 2, none⟩ = some (.int .i64 (-1074)) := (blk_cell BK106.out 2).trans rfl
       have hfz32_0 := blk_frozen BK106.out 0
       have hfz32_1 := blk_frozen BK106.out 1
       have hfz32_2 := blk_frozen BK106.out 2
       have hcz33_0 : wc.cell? ⟨gb107, 0, none⟩ = some (.bool false) := (blk_cell BK107.out 0).trans rfl
       have hcz33_1 : wc.cell? ⟨gb107, 1, none⟩ = some (.int .i64 0) := (blk_cell BK107.out 1).trans rfl
       have hcz33_2 : wc.cell? ⟨gb107, 2, none⟩ = some (.int .i64 0) := (blk_cell BK107.out 2).trans rfl
       have hcz33_3 : wc.cell? ⟨gb107, 3, none⟩ = some (.int .u64 0) := (blk_cell BK107.out 3).trans rfl
       have hfz33_0 := blk_frozen BK107.out 0
       have hfz33_1 := blk_frozen BK107.out 1
       have hfz33_2 := blk_frozen BK107.out 2
       have hfz33_3 := blk_frozen BK107.out 3
       go_wp2
       refine bodyPost_ret (results_cell_row rfl _ _ gb107 64 #[.bool ((Go.bits .and .u64 (a1 / 9223372036854775808) 1) == 1), .int .i64 1, .int .i64 (-1074), .int .u64 (Go.bits .and .u64 a1 4503599627370495)] (0, 0) _ rfl (by (with_reducible repeat (first | apply bN | apply bD | apply bA)); refine blk_put (cs := #[.bool ((Go.bits .and .u64 (a1 / 9223372036854775808) 1) == 1), .int .i64 1, .int .i64 (-1074), .int .u64 0]) ?_ 3 _ rfl; (with_reducible repeat (first | apply bN | apply bD | apply bA)); refine blk_put (cs := #[.bool ((Go.bits .and .u64 (a1 / 9223372036854775808) 1) == 1), .int .i64 1, .int .i64 0, .int .u64 0]) ?_ 2 _ rfl; (with_reducible repeat (first | apply bN | apply bD | apply bA)); refine blk_put (cs := #[.bool ((Go.bits .and .u64 (a1 / 9223372036854775808) 1) == 1), .int .i64 0, .int .i64 0, .int .u64 0]) ?_ 1 _ rfl; (with_reducible repeat (first | apply bN | apply bD | apply bA)); refine blk_put (cs := #[.bool false, .int .i64 0, .int .i64 0, .int .u64 0]) ?_ 0 _ rfl; (with_reducible repeat (first | apply bN | apply bD | apply bA)); exact BK107.out) Try.underlying64 rfl (by kernel_rfl)) rfl ?_
       exact ⟨by first | rfl | (simp [errW_none, errW_some] <;> rfl) | (simp [*, errW_none, errW_some] <;> rfl), bl_ HB⟩
      ·rw [if_neg c30] at H
       have c30b0 : decide (0 < (Go.bits .and .u64 a1 4503599627370495)) = false := decide_eq_false c30
       clear c30
       simp only [Option.some.injEq, Prod.mk.injEq] at H
       obtain ⟨rfl, rfl, rfl, rfl⟩ := H
       have hnb34 := NB106_107.out
       have hnc34 := NB107_106.out
       have hcz35_0 : wc.cell? ⟨gb106, 0, none⟩ = some (.int .i64 11) := (blk_cell BK106.out 0).trans rfl
       have hcz35_1 : wc.cell? ⟨gb106, 1, none⟩ = some (.int .i64 52) := (blk_cell BK106.out 1).trans rfl
       have hcz35_2 : wc.cell? ⟨gb106, 2, none⟩ = some (.int .i64 (-1074)) := (blk_cell BK106.out 2).trans rfl
       have hfz35_0 := blk_frozen BK106.out 0
       have hfz35_1 := blk_frozen BK106.out 1
       have hfz35_2 := blk_frozen BK106.out 2
       have hcz36_0 : wc.cell? ⟨gb107, 0, none⟩ = some (.bool false) := (blk_cell BK107.out 0).trans rfl
       have hcz36_1 : wc.cell? ⟨gb107, 1, none⟩ = some (.int .i64 0) := (blk_cell BK107.out 1).trans rfl
       have hcz36_2 : wc.cell? ⟨gb107, 2, none⟩ = some (.int .i64 0) := (blk_cell BK107.out 2).trans rfl
       have hcz36_3 : wc.cell? ⟨gb107, 3, none⟩ = some (.int .u64 0) := (blk_cell BK107.out 3).trans rfl
       have hfz36_0 := blk_frozen BK107.out 0
       have hfz36_1 := blk_frozen BK107.out 1
       have hfz36_2 := blk_frozen BK107.out 2
       have hfz36_3 := blk_frozen BK107.out 3
       go_wp2
       refine bodyPost_ret (results_cell_row rfl _ _ gb107 64 #[.bool ((Go.bits .and .u64 (a1 / 9223372036854775808) 1) == 1), .int .i64 0, .int .i64 (-1074), .int .u64 0] (0, 0) _ rfl (by (with_reducible repeat (first | apply bN | apply bD | apply bA)); refine blk_put (cs := #[.bool ((Go.bits .and .u64 (a1 / 9223372036854775808) 1) == 1), .int .i64 0, .int .i64 (-1074), .int .u64 0]) ?_ 3 _ rfl; (with_reducible repeat (first | apply bN | apply bD | apply bA)); refine blk_put (cs := #[.bool ((Go.bits .and .u64 (a1 / 9223372036854775808) 1) == 1), .int .i64 0, .int .i64 0, .int .u64 0]) ?_ 2 _ rfl; (with_reducible repeat (first | apply bN | apply bD | apply bA)); refine blk_put (cs := #[.bool ((Go.bits .and .u64 (a1 / 9223372036854775808) 1) == 1), .int .i64 0, .int .i64 0, .int .u64 0]) ?_ 1 _ rfl; (with_reducible repeat (first | apply bN | apply bD | apply bA)); refine blk_put (cs := #[.bool false, .int .i64 0, .int .i64 0, .int .u64 0]) ?_ 0 _ rfl; (with_reducible repeat (first | apply bN | apply bD | apply bA)); exact BK107.out) Try.underlying64 rfl (by kernel_rfl)) rfl ?_
       exact ⟨by first | rfl | (simp [errW_none, errW_some] <;> rfl) | (simp [*, errW_none, errW_some] <;> rfl), bl_ HB⟩

/-! ### bits_form_parts_S: function 44 -/
def bits_form_parts_S.j0 : Nat → Int → Int → Bool → Bool → Option (Bool × Int × Int × Int)
 | 0, _, _, _, _ => none
 | k + 1, x5, x6, x7, x33 => if x33 = true then (some (false, 4, 0, 0)) else (if x6 = 255 then (some (x7, 3, 0, 0)) else (if x6 > 0 then (some (x7, 2, wrap64 ((wrap64 ((-149) + x6)) - 1), Go.bits .or .u64 x5 8388608)) else (if x5 > 0 then (some (x7, 1, (-149), x5)) else (some (x7, 0, (-149), 0)))))
def bits_form_parts_S.f (k : Nat) (a1 : Int) : Option (Bool × Int × Int × Int) := if (Go.bits .and .i64 (wrap64 (a1 / 8388608)) 255) = 255 then (bits_form_parts_S.j0 k (Go.bits .and .u64 a1 8388607) (Go.bits .and .i64 (wrap64 (a1 / 8388608)) 255) ((Go.bits .and .u64 (a1 / 2147483648) 1) == 1) ((Go.bits .and .u64 a1 8388607) != 0)) else (bits_form_parts_S.j0 k (Go.bits .and .u64 a1 8388607) (Go.bits .and .i64 (wrap64 (a1 / 8388608)) 255) ((Go.bits .and .u64 (a1 / 2147483648) 1) == 1) false)
theorem bits_form_parts_S.mono_l : ∀ k, (∀ y0 y1 y2 y3, LeO (bits_form_parts_S.j0 k y0 y1 y2 y3) (bits_form_parts_S.j0 (k + 1) y0 y1 y2 y3))
 | 0 => fun _ _ _ _ r h => by simp [bits_form_parts_S.j0] at h
 | k + 1 => by
  have ih0 := bits_form_parts_S.mono_l k
  ·intro y0 y1 y2 y3
   unfold bits_form_parts_S.j0
   repeat' first
   | (with_reducible exact ih0 _ _ _ _)
   | (with_reducible exact LeO.refl _)
   | (with_reducible exact LeO.none _)
   | (with_reducible refine LeO.ite ?_ ?_)
   | (with_reducible refine LeO.bind ?_ (fun _ => ?_))
   | exact ih0 _ _ _ _
   | exact LeO.none _
   | refine LeO.ite ?_ ?_
   | refine LeO.bind ?_ (fun _ => ?_)
theorem bits_form_parts_S.mono : ∀ a0 k, LeO (bits_form_parts_S.f k a0) (bits_form_parts_S.f (k + 1) a0) := by
 intro a0 k
 have ih0 := bits_form_parts_S.mono_l k
 unfold bits_form_parts_S.f
 repeat' first
   | (with_reducible exact ih0 _ _ _ _)
   | (with_reducible exact LeO.refl _)
   | (with_reducible exact LeO.none _)
   | (with_reducible refine LeO.ite ?_ ?_)
   | (with_reducible refine LeO.bind ?_ (fun _ => ?_))
   | exact ih0 _ _ _ _
   | exact LeO.none _
   | refine LeO.ite ?_ ?_
   | refine LeO.bind ?_ (fun _ => ?_)
def bits_form_parts_S.T2 : Bool × List (List Nat × List Nat) := (true, [([], []), ([], []), ([1], [1]), ([0, 2], [0, 2]), ([3], [3]), ([], []), ([5], [5]), ([6], [6]), ([7], [7]), ([4, 8], [4, 8]), ([9, 0, 1, 2, 3, 4, 5, 6, 7, 8, 9], [9])])
def bits_form_parts_S.B2 : List Nat := [0, 0, 2, 7, 15, 0, 32, 96, 224, 511, 1023]
theorem bits_form_parts_S.tab2 : rtab .any (opsOf Try.f44 2) = bits_form_parts_S.T2 := by kernel_rfl
theorem bits_form_parts_S.bits2 : waitsOk bits_form_parts_S.T2.2 bits_form_parts_S.B2 = true := by kernel_rfl
def bits_form_parts_S.T9 : Bool × List (List Nat × List Nat) := (true, [([], []), ([], []), ([1], [1]), ([], []), ([2, 3], [2, 3]), ([4], [4]), ([], []), ([], []), ([7], [7]), ([8], [8]), ([6, 9], [6, 9]), ([0, 5, 10], [0, 5, 10]), ([11, 0, 1, 2, 3, 4, 5, 6, 7, 8, 9, 10, 11], [11])])
def bits_form_parts_S.B9 : List Nat := [0, 0, 2, 0, 14, 30, 0, 0, 128, 384, 960, 2047, 4095]
theorem bits_form_parts_S.tab9 : rtab .any (opsOf Try.f44 9) = bits_form_parts_S.T9 := by kernel_rfl
theorem bits_form_parts_S.bits9 : waitsOk bits_form_parts_S.T9.2 bits_form_parts_S.B9 = true := by kernel_rfl
set_option maxHeartbeats 3000000 in
set_option maxRecDepth 100000 in
theorem bits_form_parts_S.calls (k : Nat) (a1 : Int) (r1 : Bool) (r2 : Int) (r3 : Int) (r4 : Int) (w : World) (h : bits_form_parts_S.f k a1 = some (r1, r2, r3, r4)) :
  Calls Try.prog 44 #[.agg #[.int .i64 8, .int .i64 23, .int .i64 (-149)], .int .u64 a1] w fun e w' => e = .returned (.agg #[.bool r1, .int .i64 r2, .int .i64 r3, .int .u64 r4]) ∧ Below w.heap.size w w' := by
 have hu70 := Try.underlying70
 have hu64 := Try.underlying64
 have HB := Aside0.mk (Below.refl w.heap.size w)
 have H : (if (Go.bits .and .i64 (wrap64 (a1 / 8388608)) 255) = 255 then (bits_form_parts_S.j0 k (Go.bits .and .u64 a1 8388607) (Go.bits .and .i64 (wrap64 (a1 / 8388608)) 255) ((Go.bits .and .u64 (a1 / 2147483648) 1) == 1) ((Go.bits .and .u64 a1 8388607) != 0)) else (bits_form_parts_S.j0 k (Go.bits .and .u64 a1 8388607) (Go.bits .and .i64 (wrap64 (a1 / 8388608)) 255) ((Go.bits .and .u64 (a1 / 2147483648) 1) == 1) false)) = some (r1, r2, r3, r4) := h
 clear h
 have HC3 := Aside0.mk H
 clear H
 go_enter Try.func44, Try.ntmps44
 try go_wp2_with (first | ((with_reducible refine gate_dst (N := 2) rfl ?_); refine box_event ?hg (N := 2) ?hd (cs := #[.int .i64 8, .int .i64 23, .int .i64 (-149)]) (t := 70) ?hr ?_; (case hd => rfl); (case hg => rfl); (case hr => first | (go_simp; done) | (go_simp; rfl)); intro gb108 hg w4 hbox hb; have n0_ := bs_ HB hb; have n1_ := Aside0.mk (hbox); have n2_ := ge_ HB hg; have n3_ := ge_ HB hg; clear HB; have HB := n0_; have BK108 := n1_; have GW108 := n2_; have GE108 := n3_; clear n0_ n1_ n2_ n3_; clear hb hbox hg) | ((with_reducible refine gate_dst (N := 4) rfl ?_); refine box_event ?hg (N := 4) ?hd (cs := #[.bool false, .int .i64 0, .int .i64 0, .int .u64 0]) (t := 64) ?hr ?_; (case hd => rfl); (case hg => rfl); (case hr => first | (go_simp; done) | (go_simp; rfl)); intro gb109 hg w5 hbox hb; have n0_ := kb_ BK108 hb; have n1_ := bs_ HB hb; have n2_ := Aside0.mk (hbox); have n3_ := ge_ HB hg; have n4_ := ge_ HB hg; have n5_ := nlt_ BK108 hg; have n6_ := ngt_ BK108 hg; clear BK108; clear HB; have BK108 := n0_; have HB := n1_; have BK109 := n2_; have GW109 := n3_; have GE109 := n4_; have NB108_109 := n5_; have NB109_108 := n6_; clear n0_ n1_ n2_ n3_ n4_ n5_ n6_; clear hb hbox hg; have hnb6 := NB108_109.out; have hnc6 := NB109_108.out; have hcz7_0 : w5.cell? ⟨gb108, 0, none⟩ = some (.int .i64 8) := (blk_cell BK108.out 0).trans rfl; have hcz7_1 : w5.cell? ⟨gb108, 1, none⟩ = some (.int .i64 23) := (blk_cell BK108.out 1).trans rfl; have hcz7_2 : w5.cell? ⟨gb108, 2, none⟩ = some (.int .i64 (-149)) := (blk_cell BK108.out 2).trans rfl; have hfz7_0 := blk_frozen BK108.out 0; have hfz7_1 := blk_frozen BK108.out 1; have hfz7_2 := blk_frozen BK108.out 2))
 have n0_ := Aside0.mk (blk_drew BK108.out)
 have n1_ := Aside0.mk (blk_drew BK109.out)
 have n2_ := Aside0.mk (below_drew1 HB.out)
 clear BK108
 clear BK109
 clear HB
 have BK108 := n0_
 have BK109 := n1_
 have HB := n2_
 clear n0_ n1_ n2_
 refine start_ (n := 11) (S := fun w' => w'.cell? ⟨gb108, 0, none⟩ = some (.int .i64 8) ∧ w'.cell? ⟨gb108, 1, none⟩ = some (.int .i64 23) ∧ w'.cell? ⟨gb108, 2, none⟩ = some (.int .i64 (-149))) (ds := []) #[false, false, false, false, false, false, false, false, false, false, false] (by kernel_rfl) rfl rfl ⟨(blk_cell BK108.out 0).trans rfl, (blk_cell BK108.out 1).trans rfl, (blk_cell BK108.out 2).trans rfl⟩ (fun hHeld => ?_); refine with_tabW bits_form_parts_S.tab2 bits_form_parts_S.bits2 (fun HT_ HW_ => ?_)
 generalize w5.drew = w8 at BK108 BK109 HB hHeld ⊢
 refine pure_ (i := 0) (N := some 14) (v := ?_) (a' := ?_) #[true, false, false, false, false, false, false, false, false, false, false] rfl rfl (any_of HT_.out (by kernel_rfl)) (fun _ _ _ h => h) (Or.inl ⟨by rfl, ?_⟩) ?_ ?_
 rotate_left
 ·intro w'
  go_simp
  with_reducible rfl
 rotate_left
 ·simp only [Act.put, List.setIfInBounds_toArray, List.set_cons_zero, List.set_cons_succ, i64_w, i32_w]
  rfl
 refine pure_ (i := 1) (N := some 15) (v := ?_) (a' := ?_) #[true, true, false, false, false, false, false, false, false, false, false] rfl rfl (any_of HT_.out (by kernel_rfl)) (fun _ _ _ h => h) (Or.inl ⟨by rfl, ?_⟩) ?_ ?_
 rotate_left
 ·intro w'
  go_simp
  with_reducible rfl
 rotate_left
 ·simp only [Act.put, List.setIfInBounds_toArray, List.set_cons_zero, List.set_cons_succ, i64_w, i32_w]
  rfl
 refine pure_ (i := 5) (N := some 19) (v := ?_) (a' := ?_) #[true, true, false, false, false, true, false, false, false, false, false] rfl rfl (any_of HT_.out (by kernel_rfl)) (fun _ _ _ h => h) (Or.inl ⟨by rfl, ?_⟩) ?_ ?_
 rotate_left
 ·intro w'
  go_simp
  with_reducible rfl
 rotate_left
 ·simp only [Act.put, List.setIfInBounds_toArray, List.set_cons_zero, List.set_cons_succ, i64_w, i32_w]
  rfl
 refine take_ (i := 2) (N := some 16) (v := ?_) (a' := ?_) #[true, true, true, false, false, true, false, false, false, false, false] rfl rfl (take_ofW HT_.out HW_.out (by kernel_rfl)) (fun _ _ _ h => h) (Or.inl ⟨by rfl, ?_⟩) hHeld ?_ ?_
 rotate_left
 ·rintro w' ⟨s0, s1, s2⟩
  go_simp
  with_reducible rfl
 rotate_left
 ·simp only [Act.put, List.setIfInBounds_toArray, List.set_cons_zero, List.set_cons_succ, i64_w, i32_w]
  rfl
 refine pure_ (i := 3) (N := some 17) (v := ?_) (a' := ?_) #[true, true, true, true, false, true, false, false, false, false, false] rfl rfl (any_of HT_.out (by kernel_rfl)) (fun _ _ _ h => h) (Or.inl ⟨by rfl, ?_⟩) ?_ ?_
 rotate_left
 ·intro w'
  go_simp
  with_reducible rfl
 rotate_left
 ·simp only [Act.put, List.setIfInBounds_toArray, List.set_cons_zero, List.set_cons_succ, i64_w, i32_w]
  rfl
 refine pure_ (i := 4) (N := some 18) (v := ?_) (a' := ?_) #[true, true, true, true, true, true, false, false, false, false, false] rfl rfl (any_of HT_.out (by kernel_rfl)) (fun _ _ _ h => h) (Or.inl ⟨by rfl, ?_⟩) ?_ ?_
 rotate_left
 ·intro w'
  go_simp
  with_reducible rfl
 rotate_left
 ·simp only [Act.put, List.setIfInBounds_toArray, List.set_cons_zero, List.set_cons_succ, i64_w, i32_w]
  rfl
 refine take_ (i := 6) (N := some 20) (v := ?_) (a' := ?_) #[true, true, true, true, true, true, true, false, false, false, false] rfl rfl (take_ofW HT_.out HW_.out (by kernel_rfl)) (fun _ _ _ h => h) (Or.inl ⟨by rfl, ?_⟩) hHeld ?_ ?_
 rotate_left
 ·rintro w' ⟨s0, s1, s2⟩
  go_simp
  with_reducible rfl
 rotate_left
 ·simp only [Act.put, List.setIfInBounds_toArray, List.set_cons_zero, List.set_cons_succ, i64_w, i32_w]
  rfl
 refine pure_ (i := 7) (N := some 21) (v := ?_) (a' := ?_) #[true, true, true, true, true, true, true, true, false, false, false] rfl rfl (any_of HT_.out (by kernel_rfl)) (fun _ _ _ h => h) (Or.inl ⟨by rfl, ?_⟩) ?_ ?_
 rotate_left
 ·intro w'
  go_simp
  with_reducible rfl
 rotate_left
 ·simp only [Act.put, List.setIfInBounds_toArray, List.set_cons_zero, List.set_cons_succ, i64_w, i32_w]
  rfl
 refine pure_ (i := 8) (N := some 22) (v := ?_) (a' := ?_) #[true, true, true, true, true, true, true, true, true, false, false] rfl rfl (any_of HT_.out (by kernel_rfl)) (fun _ _ _ h => h) (Or.inl ⟨by rfl, ?_⟩) ?_ ?_
 rotate_left
 ·intro w'
  go_simp
  with_reducible rfl
 rotate_left
 ·simp only [Act.put, List.setIfInBounds_toArray, List.set_cons_zero, List.set_cons_succ, i64_w, i32_w]
  rfl
 refine pure_ (i := 9) (N := some 23) (v := ?_) (a' := ?_) #[true, true, true, true, true, true, true, true, true, true, false] rfl rfl (any_of HT_.out (by kernel_rfl)) (fun _ _ _ h => h) (Or.inl ⟨by rfl, ?_⟩) ?_ ?_
 rotate_left
 ·intro w'
  go_simp
  with_reducible rfl
 rotate_left
 ·simp only [Act.put, List.setIfInBounds_toArray, List.set_cons_zero, List.set_cons_succ, i64_w, i32_w]
  rfl
 refine pure_ (i := 10) (N := some 6) (v := ?_) (a' := ?_) #[true, true, true, true, true, true, true, true, true, true, true] rfl rfl (any_of HT_.out (by kernel_rfl)) (fun _ _ _ h => h) (Or.inl ⟨by rfl, ?_⟩) ?_ ?_
 rotate_left
 ·intro w'
  go_simp
  with_reducible rfl
 rotate_left
 ·simp only [Act.put, List.setIfInBounds_toArray, List.set_cons_zero, List.set_cons_succ, i64_w, i32_w]
  rfl
 refine done_ (done_of HT_.out (by kernel_rfl)) ?_
 have hcz9_0 : w8.cell? ⟨gb108, 0, none⟩ = some (.int .i64 8) := (blk_cell BK108.out 0).trans rfl
 have hcz9_1 : w8.cell? ⟨gb108, 1, none⟩ = some (.int .i64 23) := (blk_cell BK108.out 1).trans rfl
 have hcz9_2 : w8.cell? ⟨gb108, 2, none⟩ = some (.int .i64 (-149)) := (blk_cell BK108.out 2).trans rfl
 have hfz9_0 := blk_frozen BK108.out 0
 have hfz9_1 := blk_frozen BK108.out 1
 have hfz9_2 := blk_frozen BK108.out 2
 go_upto_region 4 with (fail)
 go_cut [33] (fun v33 wc => ∃ (kq : Nat) (x33_2 : Bool), v33 = .bool x33_2 ∧ Aside0 (bits_form_parts_S.j0 kq (Go.bits .and .u64 a1 8388607) (Go.bits .and .i64 (wrap64 (a1 / 8388608)) 255) ((Go.bits .and .u64 (a1 / 2147483648) 1) == 1) x33_2 = some (r1, r2, r3, r4)) ∧ Aside0 (kq ≤ k) ∧ Aside0 (wc.heap[gb108]? = some (.cells #[.int .i64 8, .int .i64 23, .int .i64 (-149)] 70 (0, 0))) ∧ Aside0 (wc.heap[gb109]? = some (.cells #[.bool false, .int .i64 0, .int .i64 0, .int .u64 0] 64 (0, 0))) ∧ Aside0 (Below w.heap.size w wc))
 case first =>
  have H := HC3.out
  clear HC3
  by_cases c10 : (Go.bits .and .i64 (wrap64 (a1 / 8388608)) 255) = 255
  ·rw [if_pos c10] at H
   have c10b0 : ((Go.bits .and .i64 (wrap64 (a1 / 8388608)) 255) == 255) = true := beq_iff_eq.mpr c10
   have c10b1 : ((Go.bits .and .i64 (wrap64 (a1 / 8388608)) 255) != 255) = false := bne_eq_false_iff_eq.mpr c10
   clear c10
   (first | rw [c10b0] | (simp only [i64_w, i32_w]; rw [c10b0]) | skip)
   have H' := Aside0.mk H
   clear H
   have hnb11 := NB108_109.out
   have hnc11 := NB109_108.out
   have hcz12_0 : w8.cell? ⟨gb108, 0, none⟩ = some (.int .i64 8) := (blk_cell BK108.out 0).trans rfl
   have hcz12_1 : w8.cell? ⟨gb108, 1, none⟩ = some (.int .i64 23) := (blk_cell BK108.out 1).trans rfl
   have hcz12_2 : w8.cell? ⟨gb108, 2, none⟩ = some (.int .i64 (-149)) := (blk_cell BK108.out 2).trans rfl
   have hfz12_0 := blk_frozen BK108.out 0
   have hfz12_1 := blk_frozen BK108.out 1
   have hfz12_2 := blk_frozen BK108.out 2
   go_wp2
   go_meet
   case rel => exact ⟨_, (((Go.bits .and .u64 a1 8388607) != 0)), (by first | rfl | (simp; done) | (simp [*]; done)), H', ⟨by first | omega | exact Nat.le_refl _⟩, ⟨by (with_reducible repeat (first | apply bN | apply bD | apply bA)); exact BK108.out⟩, ⟨by (with_reducible repeat (first | apply bN | apply bD | apply bA)); exact BK109.out⟩, ⟨bl_ HB⟩⟩
  ·rw [if_neg c10] at H
   have c10b0 : ((Go.bits .and .i64 (wrap64 (a1 / 8388608)) 255) == 255) = false := beq_eq_false_iff_ne.mpr c10
   have c10b1 : ((Go.bits .and .i64 (wrap64 (a1 / 8388608)) 255) != 255) = true := bne_iff_ne.mpr c10
   (first | rw [c10b0] | (simp only [i64_w, i32_w]; rw [c10b0]) | skip)
   have H' := Aside0.mk H
   clear H
   have hnb13 := NB108_109.out
   have hnc13 := NB109_108.out
   have hcz14_0 : w8.cell? ⟨gb108, 0, none⟩ = some (.int .i64 8) := (blk_cell BK108.out 0).trans rfl
   have hcz14_1 : w8.cell? ⟨gb108, 1, none⟩ = some (.int .i64 23) := (blk_cell BK108.out 1).trans rfl
   have hcz14_2 : w8.cell? ⟨gb108, 2, none⟩ = some (.int .i64 (-149)) := (blk_cell BK108.out 2).trans rfl
   have hfz14_0 := blk_frozen BK108.out 0
   have hfz14_1 := blk_frozen BK108.out 1
   have hfz14_2 := blk_frozen BK108.out 2
   go_wp2
   go_meet
   case rel => exact ⟨_, (false), (by first | rfl | (simp; done) | (simp [*]; done)), H', ⟨by first | omega | exact Nat.le_refl _⟩, ⟨by (with_reducible repeat (first | apply bN | apply bD | apply bA)); exact BK108.out⟩, ⟨by (with_reducible repeat (first | apply bN | apply bD | apply bA)); exact BK109.out⟩, ⟨bl_ HB⟩⟩
 case rest =>
  clear HC3
  try clear c1
  try clear p2
  try clear c4
  try clear c6
  try clear p6
  try clear c10
  try clear c10b0
  try clear c10b1
  try clear c11
  try clear c13
  try clear hcz12_0
  try clear hcz12_1
  try clear hcz12_2
  try clear hcz14_0
  try clear hcz14_1
  try clear hcz14_2
  try clear hcz7_0
  try clear hcz7_1
  try clear hcz7_2
  try clear hcz9_0
  try clear hcz9_1
  try clear hcz9_2
  try clear hfz12_0
  try clear hfz12_1
  try clear hfz12_2
  try clear hfz14_0
  try clear hfz14_1
  try clear hfz14_2
  try clear hfz7_0
  try clear hfz7_1
  try clear hfz7_2
  try clear hfz9_0
  try clear hfz9_1
  try clear hfz9_2
  obtain ⟨kq, x33_2, rfl, HA, HJ2, BK108, BK109, HB⟩ := hcut
  cases kq with
  | zero => exact absurd HA.out (by simp [bits_form_parts_S.j0])
  | succ kj2 =>
   have H := HA.out
   clear HA
   simp only [bits_form_parts_S.j0] at H
   by_cases c15 : x33_2 = true
   ·subst c15
    have H1 : (some (false, 4, 0, 0)) = some (r1, r2, r3, r4) := by rw [if_pos rfl] at H; exact H
    clear H
    have H := H1
    clear H1
    simp only [Option.some.injEq, Prod.mk.injEq] at H
    obtain ⟨rfl, rfl, rfl, rfl⟩ := H
    have hnb16 := NB109_108.out
    have hnc16 := NB108_109.out
    have hcz17_0 : wc.cell? ⟨gb109, 0, none⟩ = some (.bool false) := (blk_cell BK109.out 0).trans rfl
    have hcz17_1 : wc.cell? ⟨gb109, 1, none⟩ = some (.int .i64 0) := (blk_cell BK109.out 1).trans rfl
    have hcz17_2 : wc.cell? ⟨gb109, 2, none⟩ = some (.int .i64 0) := (blk_cell BK109.out 2).trans rfl
    have hcz17_3 : wc.cell? ⟨gb109, 3, none⟩ = some (.int .u64 0) := (blk_cell BK109.out 3).trans rfl
    have hfz17_0 := blk_frozen BK109.out 0
    have hfz17_1 := blk_frozen BK109.out 1
    have hfz17_2 := blk_frozen BK109.out 2
    have hfz17_3 := blk_frozen BK109.out 3
    go_wp2
    refine bodyPost_ret (results_cell_row rfl _ _ gb109 64 #[.bool false, .int .i64 4, .int .i64 0, .int .u64 0] (0, 0) _ rfl (by (with_reducible repeat (first | apply bN | apply bD | apply bA)); refine blk_put (cs := #[.bool false, .int .i64 4, .int .i64 0, .int .u64 0]) ?_ 3 _ rfl; (with_reducible repeat (first | apply bN | apply bD | apply bA)); refine blk_put (cs := #[.bool false, .int .i64 4, .int .i64 0, .int .u64 0]) ?_ 2 _ rfl; (with_reducible repeat (first | apply bN | apply bD | apply bA)); refine blk_put (cs := #[.bool false, .int .i64 0, .int .i64 0, .int .u64 0]) ?_ 1 _ rfl; (with_reducible repeat (first | apply bN | apply bD | apply bA)); refine blk_put (cs := #[.bool false, .int .i64 0, .int .i64 0, .int .u64 0]) ?_ 0 _ rfl; (with_reducible repeat (first | apply bN | apply bD | apply bA)); exact BK109.out) Try.underlying64 rfl (by kernel_rfl)) rfl ?_
    exact ⟨by first | rfl | (simp [errW_none, errW_some] <;> rfl) | (simp [*, errW_none, errW_some] <;> rfl), bl_ HB⟩
   ·replace c15 := Bool.eq_false_iff.mpr c15
    subst c15
    have H1 : (if (Go.bits .and .i64 (wrap64 (a1 / 8388608)) 255) = 255 then (some (((Go.bits .and .u64 (a1 / 2147483648) 1) == 1), 3, 0, 0)) else (if (Go.bits .and .i64 (wrap64 (a1 / 8388608)) 255) > 0 then (some (((Go.bits .and .u64 (a1 / 2147483648) 1) == 1), 2, wrap64 ((wrap64 ((-149) + (Go.bits .and .i64 (wrap64 (a1 / 8388608)) 255))) - 1), Go.bits .or .u64 (Go.bits .and .u64 a1 8388607) 8388608)) else (if (Go.bits .and .u64 a1 8388607) > 0 then (some (((Go.bits .and .u64 (a1 / 2147483648) 1) == 1), 1, (-149), (Go.bits .and .u64 a1 8388607))) else (some (((Go.bits .and .u64 (a1 / 2147483648) 1) == 1), 0, (-149), 0))))) = some (r1, r2, r3, r4) := by rw [if_neg (show ¬ (false = true) by decide)] at H; exact H
    clear H
    have H := H1
    clear H1
    by_cases c18 : (Go.bits .and .i64 (wrap64 (a1 / 8388608)) 255) = 255
    ·rw [if_pos c18] at H
     have c18b0 : ((Go.bits .and .i64 (wrap64 (a1 / 8388608)) 255) == 255) = true := beq_iff_eq.mpr c18
     have c18b1 : ((Go.bits .and .i64 (wrap64 (a1 / 8388608)) 255) != 255) = false := bne_eq_false_iff_eq.mpr c18
     clear c18
     simp only [Option.some.injEq, Prod.mk.injEq] at H
     obtain ⟨rfl, rfl, rfl, rfl⟩ := H
     have hnb19 := NB108_109.out
     have hnc19 := NB109_108.out
     have hcz20_0 : wc.cell? ⟨gb108, 0, none⟩ = some (.int .i64 8) := (blk_cell BK108.out 0).trans rfl
     have hcz20_1 : wc.cell? ⟨gb108, 1, none⟩ = some (.int .i64 23) := (blk_cell BK108.out 1).trans rfl
     have hcz20_2 : wc.cell? ⟨gb108, 2, none⟩ = some (.int .i64 (-149)) := (blk_cell BK108.out 2).trans rfl
     have hfz20_0 := blk_frozen BK108.out 0
     have hfz20_1 := blk_frozen BK108.out 1
     have hfz20_2 := blk_frozen BK108.out 2
     have hcz21_0 : wc.cell? ⟨gb109, 0, none⟩ = some (.bool false) := (blk_cell BK109.out 0).trans rfl
     have hcz21_1 : wc.cell? ⟨gb109, 1, none⟩ = some (.int .i64 0) := (blk_cell BK109.out 1).trans rfl
     have hcz21_2 : wc.cell? ⟨gb109, 2, none⟩ = some (.int .i64 0) := (blk_cell BK109.out 2).trans rfl
     have hcz21_3 : wc.cell? ⟨gb109, 3, none⟩ = some (.int .u64 0) := (blk_cell BK109.out 3).trans rfl
     have hfz21_0 := blk_frozen BK109.out 0
     have hfz21_1 := blk_frozen BK109.out 1
     have hfz21_2 := blk_frozen BK109.out 2
     have hfz21_3 := blk_frozen BK109.out 3
     go_wp2
     refine bodyPost_ret (results_cell_row rfl _ _ gb109 64 #[.bool ((Go.bits .and .u64 (a1 / 2147483648) 1) == 1), .int .i64 3, .int .i64 0, .int .u64 0] (0, 0) _ rfl (by (with_reducible repeat (first | apply bN | apply bD | apply bA)); refine blk_put (cs := #[.bool ((Go.bits .and .u64 (a1 / 2147483648) 1) == 1), .int .i64 3, .int .i64 0, .int .u64 0]) ?_ 3 _ rfl; (with_reducible repeat (first | apply bN | apply bD | apply bA)); refine blk_put (cs := #[.bool ((Go.bits .and .u64 (a1 / 2147483648) 1) == 1), .int .i64 3, .int .i64 0, .int .u64 0]) ?_ 2 _ rfl; (with_reducible repeat (first | apply bN | apply bD | apply bA)); refine blk_put (cs := #[.bool ((Go.bits .and .u64 (a1 / 2147483648) 1) == 1), .int .i64 0, .int .i64 0, .int .u64 0]) ?_ 1 _ rfl; (with_reducible repeat (first | apply bN | apply bD | apply bA)); refine blk_put (cs := #[.bool false, .int .i64 0, .int .i64 0, .int .u64 0]) ?_ 0 _ rfl; (with_reducible repeat (first | apply bN | apply bD | apply bA)); exact BK109.out) Try.underlying64 rfl (by kernel_rfl)) rfl ?_
     exact ⟨by first | rfl | (simp [errW_none, errW_some] <;> rfl) | (simp [*, errW_none, errW_some] <;> rfl), bl_ HB⟩
    ·rw [if_neg c18] at H
     have c18b0 : ((Go.bits .and .i64 (wrap64 (a1 / 8388608)) 255) == 255) = false := beq_eq_false_iff_ne.mpr c18
     have c18b1 : ((Go.bits .and .i64 (wrap64 (a1 / 8388608)) 255) != 255) = true := bne_iff_ne.mpr c18
     by_cases c22 : (Go.bits .and .i64 (wrap64 (a1 / 8388608)) 255) > 0
     ·rw [if_pos c22] at H
      have c22b0 : decide (0 < (Go.bits .and .i64 (wrap64 (a1 / 8388608)) 255)) = true := decide_eq_true c22
      clear c22
      simp only [Option.some.injEq, Prod.mk.injEq] at H
      obtain ⟨rfl, rfl, rfl, rfl⟩ := H
      have hnb23 := NB108_109.out
      have hnc23 := NB109_108.out
      have hcz24_0 : wc.cell? ⟨gb108, 0, none⟩ = some (.int .i64 8) := (blk_cell BK108.out 0).trans rfl
      have hcz24_1 : wc.cell? ⟨gb108, 1, none⟩ = some (.int .i64 23) := (blk_cell BK108.out 1).trans rfl
      have hcz24_2 : wc.cell? ⟨gb108, 2, none⟩ = some (.int .i64 (-149)) := (blk_cell BK108.out 2).trans rfl
      have hfz24_0 := blk_frozen BK108.out 0
      have hfz24_1 := blk_frozen BK108.out 1
      have hfz24_2 := blk_frozen BK108.out 2
      try go_wp2
      have n0_ := Aside0.mk (blk_drew BK108.out)
      have n1_ := Aside0.mk (blk_drew BK109.out)
      have n2_ := Aside0.mk (below_drew1 HB.out)
      clear BK108
      clear BK109
      clear HB
      have BK108 := n0_
      have BK109 := n1_
      have HB := n2_
      clear n0_ n1_ n2_
      refine start_ (n := 13) (S := fun w' => w'.cell? ⟨gb108, 0, none⟩ = some (.int .i64 8) ∧ w'.cell? ⟨gb108, 1, none⟩ = some (.int .i64 23) ∧ w'.cell? ⟨gb108, 2, none⟩ = some (.int .i64 (-149))) (ds := []) #[false, false, false, false, false, false, false, false, false, false, false, false, false] (by kernel_rfl) rfl rfl ⟨(blk_cell BK108.out 0).trans rfl, (blk_cell BK108.out 1).trans rfl, (blk_cell BK108.out 2).trans rfl⟩ (fun hHeld => ?_); refine with_tabW bits_form_parts_S.tab9 bits_form_parts_S.bits9 (fun HT_ HW_ => ?_)
      generalize wc.drew = w25 at BK108 BK109 HB hHeld ⊢
      refine pure_ (i := 0) (N := some 57) (v := ?_) (a' := ?_) #[true, false, false, false, false, false, false, false, false, false, false, false, false] rfl rfl (any_of HT_.out (by kernel_rfl)) (fun _ _ _ h => h) (Or.inl ⟨by rfl, ?_⟩) ?_ ?_
      rotate_left
      ·intro w'
       go_simp
       with_reducible rfl
      rotate_left
      ·simp only [Act.put, List.setIfInBounds_toArray, List.set_cons_zero, List.set_cons_succ, i64_w, i32_w]
       rfl
      refine pure_ (i := 1) (N := some 58) (v := ?_) (a' := ?_) #[true, true, false, false, false, false, false, false, false, false, false, false, false] rfl rfl (any_of HT_.out (by kernel_rfl)) (fun _ _ _ h => h) (Or.inl ⟨by rfl, ?_⟩) ?_ ?_
      rotate_left
      ·intro w'
       go_simp
       with_reducible rfl
      rotate_left
      ·simp only [Act.put, List.setIfInBounds_toArray, List.set_cons_zero, List.set_cons_succ, i64_w, i32_w]
       rfl
      refine pure_ (i := 3) (N := some 60) (v := ?_) (a' := ?_) #[true, true, false, true, false, false, false, false, false, false, false, false, false] rfl rfl (any_of HT_.out (by kernel_rfl)) (fun _ _ _ h => h) (Or.inl ⟨by rfl, ?_⟩) ?_ ?_
      rotate_left
      ·intro w'
       go_simp
       with_reducible rfl
      rotate_left
      ·simp only [Act.put, List.setIfInBounds_toArray, List.set_cons_zero, List.set_cons_succ, i64_w, i32_w]
       rfl
      refine pure_ (i := 6) (N := some 63) (v := ?_) (a' := ?_) #[true, true, false, true, false, false, true, false, false, false, false, false, false] rfl rfl (any_of HT_.out (by kernel_rfl)) (fun _ _ _ h => h) (Or.inl ⟨by rfl, ?_⟩) ?_ ?_
      rotate_left
      ·intro w'
       go_simp
       with_reducible rfl
      rotate_left
      ·simp only [Act.put, List.setIfInBounds_toArray, List.set_cons_zero, List.set_cons_succ, i64_w, i32_w]
       rfl
      refine pure_ (i := 7) (N := some 64) (v := ?_) (a' := ?_) #[true, true, false, true, false, false, true, true, false, false, false, false, false] rfl rfl (any_of HT_.out (by kernel_rfl)) (fun _ _ _ h => h) (Or.inl ⟨by rfl, ?_⟩) ?_ ?_
      rotate_left
      ·intro w'
       go_simp
       with_reducible rfl
      rotate_left
      ·simp only [Act.put, List.setIfInBounds_toArray, List.set_cons_zero, List.set_cons_succ, i64_w, i32_w]
       rfl
      refine take_ (i := 2) (N := some 59) (v := ?_) (a' := ?_) #[true, true, true, true, false, false, true, true, false, false, false, false, false] rfl rfl (take_ofW HT_.out HW_.out (by kernel_rfl)) (fun _ _ _ h => h) (Or.inl ⟨by rfl, ?_⟩) hHeld ?_ ?_
      rotate_left
      ·rintro w' ⟨s0, s1, s2⟩
       go_simp
       with_reducible rfl
      rotate_left
      ·simp only [Act.put, List.setIfInBounds_toArray, List.set_cons_zero, List.set_cons_succ, i64_w, i32_w]
       rfl
      refine pure_ (i := 4) (N := some 61) (v := ?_) (a' := ?_) #[true, true, true, true, true, false, true, true, false, false, false, false, false] rfl rfl (any_of HT_.out (by kernel_rfl)) (fun _ _ _ h => h) (Or.inl ⟨by rfl, ?_⟩) ?_ ?_
      rotate_left
      ·intro w'
       go_simp
       with_reducible rfl
      rotate_left
      ·simp only [Act.put, List.setIfInBounds_toArray, List.set_cons_zero, List.set_cons_succ, i64_w, i32_w]
       rfl
      refine pure_ (i := 5) (N := some 62) (v := ?_) (a' := ?_) #[true, true, true, true, true, true, true, true, false, false, false, false, false] rfl rfl (any_of HT_.out (by kernel_rfl)) (fun _ _ _ h => h) (Or.inl ⟨by rfl, ?_⟩) ?_ ?_
      rotate_left
      ·intro w'
       go_simp
       with_reducible rfl
      rotate_left
      ·simp only [Act.put, List.setIfInBounds_toArray, List.set_cons_zero, List.set_cons_succ, i64_w, i32_w]
       rfl
      refine take_ (i := 8) (N := some 65) (v := ?_) (a' := ?_) #[true, true, true, true, true, true, true, true, true, false, false, false, false] rfl rfl (take_ofW HT_.out HW_.out (by kernel_rfl)) (fun _ _ _ h => h) (Or.inl ⟨by rfl, ?_⟩) hHeld ?_ ?_
      rotate_left
      ·rintro w' ⟨s0, s1, s2⟩
       go_simp
       with_reducible rfl
      rotate_left
      ·simp only [Act.put, List.setIfInBounds_toArray, List.set_cons_zero, List.set_cons_succ, i64_w, i32_w]
       rfl
      refine pure_ (i := 9) (N := some 66) (v := ?_) (a' := ?_) #[true, true, true, true, true, true, true, true, true, true, false, false, false] rfl rfl (any_of HT_.out (by kernel_rfl)) (fun _ _ _ h => h) (Or.inl ⟨by rfl, ?_⟩) ?_ ?_
      rotate_left
      ·intro w'
       go_simp
       with_reducible rfl
      rotate_left
      ·simp only [Act.put, List.setIfInBounds_toArray, List.set_cons_zero, List.set_cons_succ, i64_w, i32_w]
       rfl
      refine pure_ (i := 10) (N := some 67) (v := ?_) (a' := ?_) #[true, true, true, true, true, true, true, true, true, true, true, false, false] rfl rfl (any_of HT_.out (by kernel_rfl)) (fun _ _ _ h => h) (Or.inl ⟨by rfl, ?_⟩) ?_ ?_
      rotate_left
      ·intro w'
       go_simp
       with_reducible rfl
      rotate_left
      ·simp only [Act.put, List.setIfInBounds_toArray, List.set_cons_zero, List.set_cons_succ, i64_w, i32_w]
       rfl
      refine pure_ (i := 11) (N := some 68) (v := ?_) (a' := ?_) #[true, true, true, true, true, true, true, true, true, true, true, true, false] rfl rfl (any_of HT_.out (by kernel_rfl)) (fun _ _ _ h => h) (Or.inl ⟨by rfl, ?_⟩) ?_ ?_
      rotate_left
      ·intro w'
       go_simp
       with_reducible rfl
      rotate_left
      ·simp only [Act.put, List.setIfInBounds_toArray, List.set_cons_zero, List.set_cons_succ, i64_w, i32_w]
       rfl
      refine one_ (i := 12) (N := none) #[true, true, true, true, true, true, true, true, true, true, true, true, true] rfl rfl (one_of HT_.out (by kernel_rfl)) (by decide) (fun K hK => ?_)
      have hs26 : w25.cell? ⟨gb109, 0, none⟩ = some (.bool false) := (blk_cell BK109.out 0).trans rfl
      have hfs26 := blk_frozen BK109.out 0
      have hns26_0 := NB108_109.out
      have hms26_0 := NB109_108.out
      have hs27 : w25.cell? ⟨gb109, 1, none⟩ = some (.int .i64 0) := (blk_cell BK109.out 1).trans rfl
      have hfs27 := blk_frozen BK109.out 1
      have hns27_0 := NB108_109.out
      have hms27_0 := NB109_108.out
      have hs28 : w25.cell? ⟨gb109, 2, none⟩ = some (.int .i64 0) := (blk_cell BK109.out 2).trans rfl
      have hfs28 := blk_frozen BK109.out 2
      have hns28_0 := NB108_109.out
      have hms28_0 := NB109_108.out
      have hs29 : w25.cell? ⟨gb109, 3, none⟩ = some (.int .u64 0) := (blk_cell BK109.out 3).trans rfl
      have hfs29 := blk_frozen BK109.out 3
      have hns29_0 := NB108_109.out
      have hms29_0 := NB109_108.out
      refine skip_ (w1 := ?_) (by rfl) rfl ?_ ?_
      rotate_left
      ·go_simp
       rfl
      refine hK.out _ _ ⟨((cell_far (p := ⟨gb109, _, none⟩) NB108_109.out _).trans (((cell_far (p := ⟨gb109, _, none⟩) NB108_109.out _).trans (((cell_far (p := ⟨gb109, _, none⟩) NB108_109.out _).trans (((cell_far (p := ⟨gb109, _, none⟩) NB108_109.out _).trans (hHeld.1)))))))), ((cell_far (p := ⟨gb109, _, none⟩) NB108_109.out _).trans (((cell_far (p := ⟨gb109, _, none⟩) NB108_109.out _).trans (((cell_far (p := ⟨gb109, _, none⟩) NB108_109.out _).trans (((cell_far (p := ⟨gb109, _, none⟩) NB108_109.out _).trans (hHeld.2.1)))))))), ((cell_far (p := ⟨gb109, _, none⟩) NB108_109.out _).trans (((cell_far (p := ⟨gb109, _, none⟩) NB108_109.out _).trans (((cell_far (p := ⟨gb109, _, none⟩) NB108_109.out _).trans (((cell_far (p := ⟨gb109, _, none⟩) NB108_109.out _).trans (hHeld.2.2))))))))⟩ (fun hHeld => ?_)
      clear hK K
      refine done_ (done_of HT_.out (by kernel_rfl)) ?_
      try go_wp2
      refine bodyPost_ret (results_cell_row rfl _ _ gb109 64 #[.bool ((Go.bits .and .u64 (a1 / 2147483648) 1) == 1), .int .i64 2, .int .i64 (wrap64 ((wrap64 ((-149) + (Go.bits .and .i64 (wrap64 (a1 / 8388608)) 255))) - 1)), .int .u64 (Go.bits .or .u64 (Go.bits .and .u64 a1 8388607) 8388608)] (0, 0) _ rfl (by (with_reducible repeat (first | apply bN | apply bD | apply bA)); refine blk_put (cs := #[.bool ((Go.bits .and .u64 (a1 / 2147483648) 1) == 1), .int .i64 2, .int .i64 (wrap64 ((wrap64 ((-149) + (Go.bits .and .i64 (wrap64 (a1 / 8388608)) 255))) - 1)), .int .u64 0]) ?_ 3 _ rfl; (with_reducible repeat (first | apply bN | apply bD | apply bA)); refine blk_put (cs := #[.bool ((Go.bits .and .u64 (a1 / 2147483648) 1) == 1), .int .i64 2, .int .i64 0, .int .u64 0]) ?_ 2 _ rfl; (with_reducible repeat (first | apply bN | apply bD | apply bA)); refine blk_put (cs := #[.bool ((Go.bits .and .u64 (a1 / 2147483648) 1) == 1), .int .i64 0, .int .i64 0, .int .u64 0]) ?_ 1 _ rfl; (with_reducible repeat (first | apply bN | apply bD | apply bA)); refine blk_put (cs := #[.bool false, .int .i64 0, .int .i64 0, .int .u64 0]) ?_ 0 _ rfl; (with_reducible repeat (first | apply bN | apply bD | apply bA)); exact BK109.out) Try.underlying64 rfl (by kernel_rfl)) rfl ?_
      exact ⟨by first | rfl | (simp [errW_none, errW_some] <;> rfl) | (simp [*, errW_none, errW_some] <;> rfl), bl_ HB⟩
     ·rw [if_neg c22] at H
      have c22b0 : decide (0 < (Go.bits .and .i64 (wrap64 (a1 / 8388608)) 255)) = false := decide_eq_false c22
      clear c22
      by_cases c30 : (Go.bits .and .u64 a1 8388607) > 0
      ·rw [if_pos c30] at H
       have c30b0 : decide (0 < (Go.bits .and .u64 a1 8388607)) = true := decide_eq_true c30
       clear c30
       simp only [Option.some.injEq, Prod.mk.injEq] at H
       obtain ⟨rfl, rfl, rfl, rfl⟩ := H
       have hnb31 := NB108_109.out
       have hnc31 := NB109_108.out
       have hcz32_0 : wc.cell? ⟨gb108, 0, none⟩ = some (.int .i64 8) := (blk_cell BK108.out 0).trans rfl
       have hcz32_1 : wc.cell? ⟨gb108, 1, none⟩ = some (.int .i64 23) := (blk_cell BK108.out 1).trans rfl
       have hcz32_2 : wc.cell? ⟨gb108, 2, none⟩ = some (.int .i64 (-149)) := (blk_cell BK108.out 2).trans rfl
       have hfz32_0 := blk_frozen BK108.out 0
       have hfz32_1 := blk_frozen BK108.out 1
       have hfz32_2 := blk_frozen BK108.out 2
       have hcz33_0 : wc.cell? ⟨gb109, 0, none⟩ = some (.bool false) := (blk_cell BK109.out 0).trans rfl
       have hcz33_1 : wc.cell? ⟨gb109, 1, none⟩ = some (.int .i64 0) := (blk_cell BK109.out 1).trans rfl
       have hcz33_2 : wc.cell? ⟨gb109, 2, none⟩ = some (.int .i64 0) := (blk_cell BK109.out 2).trans rfl
       have hcz33_3 : wc.cell? ⟨gb109, 3, none⟩ = some (.int .u64 0) := (blk_cell BK109.out 3).trans rfl
       have hfz33_0 := blk_frozen BK109.out 0
       have hfz33_1 := blk_frozen BK109.out 1
       have hfz33_2 := blk_frozen BK109.out 2
       have hfz33_3 := blk_frozen BK109.out 3
       go_wp2
       refine bodyPost_ret (results_cell_row rfl _ _ gb109 64 #[.bool ((Go.bits .and .u64 (a1 / 2147483648) 1) == 1), .int .i64 1, .int .i64 (-149), .int .u64 (Go.bits .and .u64 a1 8388607)] (0, 0) _ rfl (by (with_reducible repeat (first | apply bN | apply bD | apply bA)); refine blk_put (cs := #[.bool ((Go.bits .and .u64 (a1 / 2147483648) 1) == 1), .int .i64 1, .int .i64 (-149), .int .u64 0]) ?_ 3 _ rfl; (with_reducible repeat (first | apply bN | apply bD | apply bA)); refine blk_put (cs := #[.bool ((Go.bits .and .u64 (a1 / 2147483648) 1) == 1), .int .i64 1, .int .i64 0, .int .u64 0]) ?_ 2 _ rfl; (with_reducible repeat (first | apply bN | apply bD | apply bA)); refine blk_put (cs := #[.bool ((Go.bits .and .u64 (a1 / 2147483648) 1) == 1), .int .i64 0, .int .i64 0, .int .u64 0]) ?_ 1 _ rfl; (with_reducible repeat (first | apply bN | apply bD | apply bA)); refine blk_put (cs := #[.bool false, .int .i64 0, .int .i64 0, .int .u64 0]) ?_ 0 _ rfl; (with_reducible repeat (first | apply bN | apply bD | apply bA)); exact BK109.out) Try.underlying64 rfl (by kernel_rfl)) rfl ?_
       exact ⟨by first | rfl | (simp [errW_none, errW_some] <;> rfl) | (simp [*, errW_none, errW_some] <;> rfl), bl_ HB⟩
      ·rw [if_neg c30] at H
       have c30b0 : decide (0 < (Go.bits .and .u64 a1 8388607)) = false := decide_eq_false c30
       clear c30
       simp only [Option.some.injEq, Prod.mk.injEq] at H
       obtain ⟨rfl, rfl, rfl, rfl⟩ := H
       have hnb34 := NB108_109.out
       have hnc34 := NB109_108.out
       have hcz35_0 : wc.cell? ⟨gb108, 0, none⟩ = some (.int .i64 8) := (blk_cell BK108.out 0).trans rfl
       have hcz35_1 : wc.cell? ⟨gb108, 1, none⟩ = some (.int .i64 23) := (blk_cell BK108.out 1).trans rfl
       have hcz35_2 : wc.cell? ⟨gb108, 2, none⟩ = some (.int .i64 (-149)) := (blk_cell BK108.out 2).trans rfl
       have hfz35_0 := blk_frozen BK108.out 0
       have hfz35_1 := blk_frozen BK108.out 1
       have hfz35_2 := blk_frozen BK108.out 2
       have hcz36_0 : wc.cell? ⟨gb109, 0, none⟩ = some (.bool false) := (blk_cell BK109.out 0).trans rfl
       have hcz36_1 : wc.cell? ⟨gb109, 1, none⟩ = some (.int .i64 0) := (blk_cell BK109.out 1).trans rfl
       have hcz36_2 : wc.cell? ⟨gb109, 2, none⟩ = some (.int .i64 0) := (blk_cell BK109.out 2).trans rfl
       have hcz36_3 : wc.cell? ⟨gb109, 3, none⟩ = some (.int .u64 0) := (blk_cell BK109.out 3).trans rfl
       have hfz36_0 := blk_frozen BK109.out 0
       have hfz36_1 := blk_frozen BK109.out 1
       have hfz36_2 := blk_frozen BK109.out 2
       have hfz36_3 := blk_frozen BK109.out 3
       go_wp2
       refine bodyPost_ret (results_cell_row rfl _ _ gb109 64 #[.bool ((Go.bits .and .u64 (a1 / 2147483648) 1) == 1), .int .i64 0, .int .i64 (-149), .int .u64 0] (0, 0) _ rfl (by (with_reducible repeat (first | apply bN | apply bD | apply bA)); refine blk_put (cs := #[.bool ((Go.bits .and .u64 (a1 / 2147483648) 1) == 1), .int .i64 0, .int .i64 (-149), .int .u64 0]) ?_ 3 _ rfl; (with_reducible repeat (first | apply bN | apply bD | apply bA)); refine blk_put (cs := #[.bool ((Go.bits .and .u64 (a1 / 2147483648) 1) == 1), .int .i64 0, .int .i64 0, .int .u64 0]) ?_ 2 _ rfl; (with_reducible repeat (first | apply bN | apply bD | apply bA)); refine blk_put (cs := #[.bool ((Go.bits .and .u64 (a1 / 2147483648) 1) == 1), .int .i64 0, .int .i64 0, .int .u64 0]) ?_ 1 _ rfl; (with_reducible repeat (first | apply bN | apply bD | apply bA)); refine blk_put (cs := #[.bool false, .int .i64 0, .int .i64 0, .int .u64 0]) ?_ 0 _ rfl; (with_reducible repeat (first | apply bN | apply bD | apply bA)); exact BK109.out) Try.underlying64 rfl (by kernel_rfl)) rfl ?_
       exact ⟨by first | rfl | (simp [errW_none, errW_some] <;> rfl) | (simp [*, errW_none, errW_some] <;> rfl), bl_ HB⟩

/-! ### bits_form_parts: function 44 -/
def bits_form_parts.f (k : Nat) (a0_0 : Int) (a0_1 : Int) (a0_2 : Int) (a1 : Int) : Option (Bool × Int × Int × Int) := if a0_0 = 11 ∧ a0_1 = 52 ∧ a0_2 = (-1074) then bits_form_parts_L.f k a1 else if a0_0 = 8 ∧ a0_1 = 23 ∧ a0_2 = (-149) then bits_form_parts_S.f k a1 else none
theorem bits_form_parts.mono : ∀ y0 y1 y2 y3 k, LeO (bits_form_parts.f k y0 y1 y2 y3) (bits_form_parts.f (k + 1) y0 y1 y2 y3) := by
 intro y0 y1 y2 y3 k
 unfold bits_form_parts.f
 refine LeO.ite (bits_form_parts_L.mono _ _) ?_
 refine LeO.ite (bits_form_parts_S.mono _ _) (LeO.none _)
theorem bits_form_parts.calls (k : Nat) (a0_0 : Int) (a0_1 : Int) (a0_2 : Int) (a1 : Int) (r1 : Bool) (r2 : Int) (r3 : Int) (r4 : Int) (w : World) (h : bits_form_parts.f k a0_0 a0_1 a0_2 a1 = some (r1, r2, r3, r4)) :
  Calls Try.prog 44 #[.agg #[.int .i64 a0_0, .int .i64 a0_1, .int .i64 a0_2], .int .u64 a1] w fun e w' => e = .returned (.agg #[.bool r1, .int .i64 r2, .int .i64 r3, .int .u64 r4]) ∧ Below w.heap.size w w' := by
 unfold bits_form_parts.f at h
 by_cases c0 : a0_0 = 11 ∧ a0_1 = 52 ∧ a0_2 = (-1074)
 ·rw [if_pos c0] at h
  obtain ⟨rfl, rfl, rfl⟩ := c0
  exact bits_form_parts_L.calls k a1 r1 r2 r3 r4 w  h
 rw [if_neg c0] at h
 by_cases c1 : a0_0 = 8 ∧ a0_1 = 23 ∧ a0_2 = (-149)
 ·rw [if_pos c1] at h
  obtain ⟨rfl, rfl, rfl⟩ := c1
  exact bits_form_parts_S.calls k a1 r1 r2 r3 r4 w  h
 rw [if_neg c1] at h
 cases h

end Go.Proofs.Ytkoonpjlpobmeaa.Pr
