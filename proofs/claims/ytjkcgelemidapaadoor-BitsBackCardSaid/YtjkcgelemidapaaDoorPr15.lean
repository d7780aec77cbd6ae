-- written by this session's own program (wip/fprint.py), which widens the kit's print by floats
import Derived.Test.YtjkcgelemidapaaDoorPr0
import Derived.Test.YtjkcgelemidapaaDoorPr1
import Derived.Test.YtjkcgelemidapaaDoorPr2
import Derived.Test.YtjkcgelemidapaaDoorPr4
import Derived.Test.YtjkcgelemidapaaDoorPr5
import Derived.Test.YtjkcgelemidapaaDoorPr6
import Derived.Test.YtjkcgelemidapaaDoorPr9
import Derived.Test.YtjkcgelemidapaaDoorPr14
namespace Go.Proofs.YtjkcgelemidapaaDoor.Pr
open Go.RowKit Go.Proofs.YtjkcgelemidapaaDoorW.PrintWords Go.Proofs.YtjkcgelemidapaaDoorW.PrintLast Go.Proofs.YtjkcgelemidapaaDoorW.PrintMore
attribute [local go_sem] max2_int min2_int max_two min_two max_three min_three max_four min_four   -- for this text's walks alone
set_option linter.unusedVariables false
set_option linter.unusedSimpArgs false

attribute [local go_sem high] eqA28
/-! ### steelyardlaw01_BitsBack: function 5 -/
def steelyardlaw01_BitsBack.j0 : Nat → Bool → Nat → Int → Bool → Bool → Int → Int → Int → Option (Bool)
  | 0, _, _, _, _, _, _, _, _ => none
  | k + 1, x5, x8, x9, x46, x190000, x190001, x190002, x190003 => if x46 = true then (none) else (if x5 = true then (if x9 = 0 then ((bits_Split.f k x8).bind fun bt205 => (if (bt205.1 == x190000 && (bt205.2.1 == x190001 && (bt205.2.2.1 == x190002 && (bt205.2.2.2 == x190003)))) = true then (some true) else (if x9 = 10 then ((steelyardlaw01_exact.f x8 0).bind fun t209 => (some t209)) else (none)))) else (if x9 = 10 then ((steelyardlaw01_exact.f x8 0).bind fun t210 => (some t210)) else (none))) else (none))
def steelyardlaw01_BitsBack.f (k : Nat) (a0 : Nat) (a1_0 : Bool) (a1_1 : Int) (a1_2 : Int) (a1_3 : Int) : Option (Bool) := (steelyardlaw01_live.f k).bind fun t190 => ((bits_Split.f k a0).bind fun bt191 => ((bits_Join.f k bt191.1 bt191.2.1 bt191.2.2.1 bt191.2.2.2).bind fun bt195 => ((bits_Join.f k a1_0 a1_1 a1_2 a1_3).bind fun bt197 => (if bt195.2 = 0 then (if (FloatKind.f64.format.order a0 bt195.1 == some .eq) = true then ((math_Signbit.f a0).bind fun t199 => ((math_Signbit.f bt195.1).bind fun t200 => (if (t199 == t200) = true then (steelyardlaw01_BitsBack.j0 k t190 bt197.1 bt197.2 (!true) a1_0 a1_1 a1_2 a1_3) else (if (FloatKind.f64.format.order a0 a0 != some .eq) = true then ((bits_NaN.f).bind fun t201 => ((steelyardlaw01_exact.f bt195.1 t201).bind fun t202 => (steelyardlaw01_BitsBack.j0 k t190 bt197.1 bt197.2 (!t202) a1_0 a1_1 a1_2 a1_3))) else (steelyardlaw01_BitsBack.j0 k t190 bt197.1 bt197.2 (!false) a1_0 a1_1 a1_2 a1_3))))) else (if (FloatKind.f64.format.order a0 a0 != some .eq) = true then ((bits_NaN.f).bind fun t203 => ((steelyardlaw01_exact.f bt195.1 t203).bind fun t204 => (steelyardlaw01_BitsBack.j0 k t190 bt197.1 bt197.2 (!t204) a1_0 a1_1 a1_2 a1_3))) else (steelyardlaw01_BitsBack.j0 k t190 bt197.1 bt197.2 (!false) a1_0 a1_1 a1_2 a1_3))) else (steelyardlaw01_BitsBack.j0 k t190 bt197.1 bt197.2 true a1_0 a1_1 a1_2 a1_3)))))
theorem steelyardlaw01_BitsBack.mono_l : ∀ k, (∀ y0 y1 y2 y3 y4 y5 y6 y7, LeO (steelyardlaw01_BitsBack.j0 k y0 y1 y2 y3 y4 y5 y6 y7) (steelyardlaw01_BitsBack.j0 (k + 1) y0 y1 y2 y3 y4 y5 y6 y7))
  | 0 => fun _ _ _ _ _ _ _ _ r h => by simp [steelyardlaw01_BitsBack.j0] at h
  | k + 1 => by
    have ih0 := steelyardlaw01_BitsBack.mono_l k
    · intro y0 y1 y2 y3 y4 y5 y6 y7
      unfold steelyardlaw01_BitsBack.j0
      repeat' first
      | (with_reducible exact ih0 _ _ _ _ _ _ _ _)
      | (with_reducible exact bits_Join.mono _ _ _ _ _)
      | (with_reducible exact bits_Split.mono _ _)
      | (with_reducible exact steelyardlaw01_live.mono _)
      | (with_reducible exact LeO.refl _)
      | (with_reducible exact LeO.none _)
      | (with_reducible refine LeO.ite ?_ ?_)
      | (with_reducible refine LeO.bind ?_ (fun _ => ?_))
      | exact ih0 _ _ _ _ _ _ _ _
      | exact bits_Join.mono _ _ _ _ _
      | exact bits_Split.mono _ _
      | exact steelyardlaw01_live.mono _
      | exact LeO.none _
      | refine LeO.ite ?_ ?_
      | refine LeO.bind ?_ (fun _ => ?_)
theorem steelyardlaw01_BitsBack.mono : ∀ a0 a1 a2 a3 a4 k, LeO (steelyardlaw01_BitsBack.f k a0 a1 a2 a3 a4) (steelyardlaw01_BitsBack.f (k + 1) a0 a1 a2 a3 a4) := by
  intro a0 a1 a2 a3 a4 k
  have ih0 := steelyardlaw01_BitsBack.mono_l k
  unfold steelyardlaw01_BitsBack.f
  repeat' first
      | (with_reducible exact ih0 _ _ _ _ _ _ _ _)
      | (with_reducible exact bits_Join.mono _ _ _ _ _)
      | (with_reducible exact bits_Split.mono _ _)
      | (with_reducible exact steelyardlaw01_live.mono _)
      | (with_reducible exact LeO.refl _)
      | (with_reducible exact LeO.none _)
      | (with_reducible refine LeO.ite ?_ ?_)
      | (with_reducible refine LeO.bind ?_ (fun _ => ?_))
      | exact ih0 _ _ _ _ _ _ _ _
      | exact bits_Join.mono _ _ _ _ _
      | exact bits_Split.mono _ _
      | exact steelyardlaw01_live.mono _
      | exact LeO.none _
      | refine LeO.ite ?_ ?_
      | refine LeO.bind ?_ (fun _ => ?_)
def steelyardlaw01_BitsBack.T6 : Bool × List (List Nat × List Nat) := (true, [([], []), ([0], [0]), ([1], [1]), ([2, 1], [1, 2]), ([3, 1, 1], [1, 3]), ([4], [4]), ([5, 4, 4], [4, 5]), ([4], [4]), ([6, 7, 4], [4, 6, 7]), ([4, 8, 1], [1, 4, 8]), ([9, 6, 1], [1, 9]), ([10], [10]), ([11, 10], [10, 11]), ([12, 10, 10], [10, 12]), ([13], [13]), ([14, 13, 13], [13, 14]), ([13, 15, 10], [10, 13, 15]), ([10, 16, 1], [1, 10, 16]), ([1, 17], [1, 17]), ([18, 15, 0, 1, 2, 3, 4, 5, 6, 7, 8, 9, 10, 11, 12, 13, 14, 15, 16, 17, 18], [18])])
def steelyardlaw01_BitsBack.B6 : List Nat := [0, 1, 3, 7, 15, 31, 63, 31, 255, 511, 1023, 2047, 4095, 8191, 16383, 32767, 65535, 131071, 262143, 524287]
theorem steelyardlaw01_BitsBack.tab6 : rtab .any (opsOf Tryd.f5 6) = steelyardlaw01_BitsBack.T6 := by kernel_rfl
theorem steelyardlaw01_BitsBack.bits6 : waitsOk steelyardlaw01_BitsBack.T6.2 steelyardlaw01_BitsBack.B6 = true := by kernel_rfl
set_option maxHeartbeats 3000000 in
set_option maxRecDepth 100000 in
theorem steelyardlaw01_BitsBack.calls (k : Nat) (a0 : Nat) (a1_0 : Bool) (a1_1 : Int) (a1_2 : Int) (a1_3 : Int) (r : Bool) (w : World) (hG : GlobLaid w) (h : steelyardlaw01_BitsBack.f k a0 a1_0 a1_1 a1_2 a1_3 = some r) :
    Calls Tryd.prog 5 #[.float .f64 a0, .agg #[.bool a1_0, .int .i64 a1_1, .int .i64 a1_2, .int .u64 a1_3]] w fun e w' => e = .returned (.bool r) ∧ Below w.heap.size w w' := by
  have hu28 := Tryd.underlying28
  have HG := Aside0.mk hG
  clear hG
  have HB := Aside0.mk (Below.refl w.heap.size w)
  have H : ((steelyardlaw01_live.f k).bind fun t190 => ((bits_Split.f k a0).bind fun bt191 => ((bits_Join.f k bt191.1 bt191.2.1 bt191.2.2.1 bt191.2.2.2).bind fun bt195 => ((bits_Join.f k a1_0 a1_1 a1_2 a1_3).bind fun bt197 => (if bt195.2 = 0 then (if (FloatKind.f64.format.order a0 bt195.1 == some .eq) = true then ((math_Signbit.f a0).bind fun t199 => ((math_Signbit.f bt195.1).bind fun t200 => (if (t199 == t200) = true then (steelyardlaw01_BitsBack.j0 k t190 bt197.1 bt197.2 (!true) a1_0 a1_1 a1_2 a1_3) else (if (FloatKind.f64.format.order a0 a0 != some .eq) = true then ((bits_NaN.f).bind fun t201 => ((steelyardlaw01_exact.f bt195.1 t201).bind fun t202 => (steelyardlaw01_BitsBack.j0 k t190 bt197.1 bt197.2 (!t202) a1_0 a1_1 a1_2 a1_3))) else (steelyardlaw01_BitsBack.j0 k t190 bt197.1 bt197.2 (!false) a1_0 a1_1 a1_2 a1_3))))) else (if (FloatKind.f64.format.order a0 a0 != some .eq) = true then ((bits_NaN.f).bind fun t203 => ((steelyardlaw01_exact.f bt195.1 t203).bind fun t204 => (steelyardlaw01_BitsBack.j0 k t190 bt197.1 bt197.2 (!t204) a1_0 a1_1 a1_2 a1_3))) else (steelyardlaw01_BitsBack.j0 k t190 bt197.1 bt197.2 (!false) a1_0 a1_1 a1_2 a1_3))) else (steelyardlaw01_BitsBack.j0 k t190 bt197.1 bt197.2 true a1_0 a1_1 a1_2 a1_3)))))) = some r := h
  clear h
  replace H := Option.bind_eq_some_iff.mp H
  obtain ⟨t190, A30, H⟩ := H
  replace H : ((bits_Split.f k a0).bind fun bt191 => ((bits_Join.f k bt191.1 bt191.2.1 bt191.2.2.1 bt191.2.2.2).bind fun bt195 => ((bits_Join.f k a1_0 a1_1 a1_2 a1_3).bind fun bt197 => (if bt195.2 = 0 then (if (FloatKind.f64.format.order a0 bt195.1 == some .eq) = true then ((math_Signbit.f a0).bind fun t199 => ((math_Signbit.f bt195.1).bind fun t200 => (if (t199 == t200) = true then (steelyardlaw01_BitsBack.j0 k t190 bt197.1 bt197.2 (!true) a1_0 a1_1 a1_2 a1_3) else (if (FloatKind.f64.format.order a0 a0 != some .eq) = true then ((bits_NaN.f).bind fun t201 => ((steelyardlaw01_exact.f bt195.1 t201).bind fun t202 => (steelyardlaw01_BitsBack.j0 k t190 bt197.1 bt197.2 (!t202) a1_0 a1_1 a1_2 a1_3))) else (steelyardlaw01_BitsBack.j0 k t190 bt197.1 bt197.2 (!false) a1_0 a1_1 a1_2 a1_3))))) else (if (FloatKind.f64.format.order a0 a0 != some .eq) = true then ((bits_NaN.f).bind fun t203 => ((steelyardlaw01_exact.f bt195.1 t203).bind fun t204 => (steelyardlaw01_BitsBack.j0 k t190 bt197.1 bt197.2 (!t204) a1_0 a1_1 a1_2 a1_3))) else (steelyardlaw01_BitsBack.j0 k t190 bt197.1 bt197.2 (!false) a1_0 a1_1 a1_2 a1_3))) else (steelyardlaw01_BitsBack.j0 k t190 bt197.1 bt197.2 true a1_0 a1_1 a1_2 a1_3))))) = some r := H
  have A3 := Aside0.mk A30
  clear A30
  replace H := Option.bind_eq_some_iff.mp H
  obtain ⟨⟨t191, t192, t193, t194⟩, A40, H⟩ := H
  replace H : ((bits_Join.f k t191 t192 t193 t194).bind fun bt195 => ((bits_Join.f k a1_0 a1_1 a1_2 a1_3).bind fun bt197 => (if bt195.2 = 0 then (if (FloatKind.f64.format.order a0 bt195.1 == some .eq) = true then ((math_Signbit.f a0).bind fun t199 => ((math_Signbit.f bt195.1).bind fun t200 => (if (t199 == t200) = true then (steelyardlaw01_BitsBack.j0 k t190 bt197.1 bt197.2 (!true) a1_0 a1_1 a1_2 a1_3) else (if (FloatKind.f64.format.order a0 a0 != some .eq) = true then ((bits_NaN.f).bind fun t201 => ((steelyardlaw01_exact.f bt195.1 t201).bind fun t202 => (steelyardlaw01_BitsBack.j0 k t190 bt197.1 bt197.2 (!t202) a1_0 a1_1 a1_2 a1_3))) else (steelyardlaw01_BitsBack.j0 k t190 bt197.1 bt197.2 (!false) a1_0 a1_1 a1_2 a1_3))))) else (if (FloatKind.f64.format.order a0 a0 != some .eq) = true then ((bits_NaN.f).bind fun t203 => ((steelyardlaw01_exact.f bt195.1 t203).bind fun t204 => (steelyardlaw01_BitsBack.j0 k t190 bt197.1 bt197.2 (!t204) a1_0 a1_1 a1_2 a1_3))) else (steelyardlaw01_BitsBack.j0 k t190 bt197.1 bt197.2 (!false) a1_0 a1_1 a1_2 a1_3))) else (steelyardlaw01_BitsBack.j0 k t190 bt197.1 bt197.2 true a1_0 a1_1 a1_2 a1_3)))) = some r := H
  have A4 := Aside0.mk A40
  clear A40
  replace H := Option.bind_eq_some_iff.mp H
  obtain ⟨⟨t195, t196⟩, A50, H⟩ := H
  replace H : ((bits_Join.f k a1_0 a1_1 a1_2 a1_3).bind fun bt197 => (if t196 = 0 then (if (FloatKind.f64.format.order a0 t195 == some .eq) = true then ((math_Signbit.f a0).bind fun t199 => ((math_Signbit.f t195).bind fun t200 => (if (t199 == t200) = true then (steelyardlaw01_BitsBack.j0 k t190 bt197.1 bt197.2 (!true) a1_0 a1_1 a1_2 a1_3) else (if (FloatKind.f64.format.order a0 a0 != some .eq) = true then ((bits_NaN.f).bind fun t201 => ((steelyardlaw01_exact.f t195 t201).bind fun t202 => (steelyardlaw01_BitsBack.j0 k t190 bt197.1 bt197.2 (!t202) a1_0 a1_1 a1_2 a1_3))) else (steelyardlaw01_BitsBack.j0 k t190 bt197.1 bt197.2 (!false) a1_0 a1_1 a1_2 a1_3))))) else (if (FloatKind.f64.format.order a0 a0 != some .eq) = true then ((bits_NaN.f).bind fun t203 => ((steelyardlaw01_exact.f t195 t203).bind fun t204 => (steelyardlaw01_BitsBack.j0 k t190 bt197.1 bt197.2 (!t204) a1_0 a1_1 a1_2 a1_3))) else (steelyardlaw01_BitsBack.j0 k t190 bt197.1 bt197.2 (!false) a1_0 a1_1 a1_2 a1_3))) else (steelyardlaw01_BitsBack.j0 k t190 bt197.1 bt197.2 true a1_0 a1_1 a1_2 a1_3))) = some r := H
  have A5 := Aside0.mk A50
  clear A50
  replace H := Option.bind_eq_some_iff.mp H
  obtain ⟨⟨t197, t198⟩, A60, H⟩ := H
  replace H : (if t196 = 0 then (if (FloatKind.f64.format.order a0 t195 == some .eq) = true then ((math_Signbit.f a0).bind fun t199 => ((math_Signbit.f t195).bind fun t200 => (if (t199 == t200) = true then (steelyardlaw01_BitsBack.j0 k t190 t197 t198 (!true) a1_0 a1_1 a1_2 a1_3) else (if (FloatKind.f64.format.order a0 a0 != some .eq) = true then ((bits_NaN.f).bind fun t201 => ((steelyardlaw01_exact.f t195 t201).bind fun t202 => (steelyardlaw01_BitsBack.j0 k t190 t197 t198 (!t202) a1_0 a1_1 a1_2 a1_3))) else (steelyardlaw01_BitsBack.j0 k t190 t197 t198 (!false) a1_0 a1_1 a1_2 a1_3))))) else (if (FloatKind.f64.format.order a0 a0 != some .eq) = true then ((bits_NaN.f).bind fun t203 => ((steelyardlaw01_exact.f t195 t203).bind fun t204 => (steelyardlaw01_BitsBack.j0 k t190 t197 t198 (!t204) a1_0 a1_1 a1_2 a1_3))) else (steelyardlaw01_BitsBack.j0 k t190 t197 t198 (!false) a1_0 a1_1 a1_2 a1_3))) else (steelyardlaw01_BitsBack.j0 k t190 t197 t198 true a1_0 a1_1 a1_2 a1_3)) = some r := H
  have A6 := Aside0.mk A60
  clear A60
  have HC7 := Aside0.mk H
  clear H
  go_enter Tryd.func5, Tryd.ntmps5
  go_upto_region 4 with (first | ((with_reducible refine gate_dst (N := 3) rfl ?_); refine box_event ?hg (N := 3) ?hd (cs := #[.bool a1_0, .int .i64 a1_1, .int .i64 a1_2, .int .u64 a1_3]) (t := 28) ?hr ?_; (case hd => rfl); (case hg => rfl); (case hr => first | (go_simp; done) | (go_simp; rfl)); intro gb189 hg w8 hbox hb; have n0_ := bs_ HB hb; have n1_ := Aside0.mk (hbox); have n2_ := ge_ HB hg; have n3_ := ge_ HB hg; clear HB; have HB := n0_; have BK189 := n1_; have GW189 := n2_; have GE189 := n3_; clear n0_ n1_ n2_ n3_; clear hb hbox hg) | ((with_reducible refine gate_callee (f := 14) rfl ?_); refine goesL_ (some 10) rfl rfl Tryd.func14 (by kernel_rfl) rfl #[] rfl (by (try simp only [List.map_toArray, List.map_cons, List.map_nil]); first | done | rfl | (simp only [List.length_drop, List.length_take]; rfl)) ?_; (with_reducible refine (steelyardlaw01_live.calls k  t190 _ ?side1 A3.out).mono ?_); (case side1 => exact GlobLaid.below HG.out (bl_ HB)); rintro e w9 ⟨rfl, hb⟩; refine ⟨_, rfl, ?_⟩; have n0_ := kb_ BK189 hb; have n1_ := bs_ HB hb; clear BK189; clear HB; have BK189 := n0_; have HB := n1_; clear n0_ n1_; (try clear hb); (try clear hb2); (try clear hk); (try clear hi)) | ((with_reducible refine gate_callee (f := 20) rfl ?_); refine goesL_ (some 13) rfl rfl Tryd.func20 (by kernel_rfl) rfl #[.float .f64 a0] rfl (by (try simp only [List.map_toArray, List.map_cons, List.map_nil]); first | done | rfl | (simp only [List.length_drop, List.length_take]; rfl)) ?_; (with_reducible refine (bits_Split.calls k a0 t191 t192 t193 t194 _ A4.out).mono ?_); rintro e w10 ⟨rfl, hb⟩; refine ⟨_, rfl, ?_⟩; have n0_ := kb_ BK189 hb; have n1_ := bs_ HB hb; clear BK189; clear HB; have BK189 := n0_; have HB := n1_; clear n0_ n1_; (try clear hb); (try clear hb2); (try clear hk); (try clear hi)) | ((with_reducible refine gate_callee (f := 17) rfl ?_); refine goesL_ (some 14) rfl rfl Tryd.func17 (by kernel_rfl) rfl #[.agg #[.bool t191, .int .i64 t192, .int .i64 t193, .int .u64 t194]] rfl (by (try simp only [List.map_toArray, List.map_cons, List.map_nil]); first | done | rfl | (simp only [List.length_drop, List.length_take]; rfl)) ?_; (with_reducible refine (bits_Join.calls k t191 t192 t193 t194 t195 t196 _ A5.out).mono ?_); rintro e w11 ⟨rfl, hb⟩; refine ⟨_, rfl, ?_⟩; have n0_ := kb_ BK189 hb; have n1_ := bs_ HB hb; clear BK189; clear HB; have BK189 := n0_; have HB := n1_; clear n0_ n1_; (try clear hb); (try clear hb2); (try clear hk); (try clear hi); have hcz12_0 : w11.cell? ⟨gb189, 0, none⟩ = some (.bool a1_0) := (blk_cell BK189.out 0).trans rfl; have hcz12_1 : w11.cell? ⟨gb189, 1, none⟩ = some (.int .i64 a1_1) := (blk_cell BK189.out 1).trans rfl; have hcz12_2 : w11.cell? ⟨gb189, 2, none⟩ = some (.int .i64 a1_2) := (blk_cell BK189.out 2).trans rfl; have hcz12_3 : w11.cell? ⟨gb189, 3, none⟩ = some (.int .u64 a1_3) := (blk_cell BK189.out 3).trans rfl; have hfz12_0 := blk_frozen BK189.out 0; have hfz12_1 := blk_frozen BK189.out 1; have hfz12_2 := blk_frozen BK189.out 2; have hfz12_3 := blk_frozen BK189.out 3) | ((with_reducible refine gate_callee (f := 17) rfl ?_); refine goesL_ (some 19) rfl rfl Tryd.func17 (by kernel_rfl) rfl #[.agg #[.bool a1_0, .int .i64 a1_1, .int .i64 a1_2, .int .u64 a1_3]] rfl (by (try simp only [List.map_toArray, List.map_cons, List.map_nil]); first | done | rfl | (simp only [List.length_drop, List.length_take]; rfl)) ?_; (with_reducible refine (bits_Join.calls k a1_0 a1_1 a1_2 a1_3 t197 t198 _ A6.out).mono ?_); rintro e w13 ⟨rfl, hb⟩; refine ⟨_, rfl, ?_⟩; have n0_ := kb_ BK189 hb; have n1_ := bs_ HB hb; clear BK189; clear HB; have BK189 := n0_; have HB := n1_; clear n0_ n1_; (try clear hb); (try clear hb2); (try clear hk); (try clear hi)))
  (try simp only [Act.put, List.setIfInBounds_toArray, List.set_cons_zero, List.set_cons_succ])
  go_cut [46] (fun v46 wc => ∃ (kq : Nat) (x46_6 : Bool), v46 = .bool x46_6 ∧ Aside0 (steelyardlaw01_BitsBack.j0 kq t190 t197 t198 x46_6 a1_0 a1_1 a1_2 a1_3 = some r) ∧ Aside0 (kq ≤ k) ∧ Aside0 (wc.heap[gb189]? = some (.cells #[.bool a1_0, .int .i64 a1_1, .int .i64 a1_2, .int .u64 a1_3] 28 (0, 0))) ∧ Aside0 (Below w.heap.size w wc))
  case first =>
    have H := HC7.out
    clear HC7
    by_cases c14 : t196 = 0
    · rw [if_pos c14] at H
      have c14b0 : (t196 == 0) = true := beq_iff_eq.mpr c14
      have c14b1 : (t196 != 0) = false := bne_eq_false_iff_eq.mpr c14
      clear c14
      (first | rw [c14b0] | (simp only [i64_w, i32_w]; rw [c14b0]) | skip)
      by_cases c15 : (FloatKind.f64.format.order a0 t195 == some .eq) = true
      · rw [if_pos c15] at H
        have c15b0 : (FloatKind.f64.format.order a0 t195 == some .eq) = true := c15
        clear c15
        replace H := Option.bind_eq_some_iff.mp H
        obtain ⟨t199, A160, H⟩ := H
        replace H : ((math_Signbit.f t195).bind fun t200 => (if (t199 == t200) = true then (steelyardlaw01_BitsBack.j0 k t190 t197 t198 (!true) a1_0 a1_1 a1_2 a1_3) else (if (FloatKind.f64.format.order a0 a0 != some .eq) = true then ((bits_NaN.f).bind fun t201 => ((steelyardlaw01_exact.f t195 t201).bind fun t202 => (steelyardlaw01_BitsBack.j0 k t190 t197 t198 (!t202) a1_0 a1_1 a1_2 a1_3))) else (steelyardlaw01_BitsBack.j0 k t190 t197 t198 (!false) a1_0 a1_1 a1_2 a1_3)))) = some r := H
        have A16 := Aside0.mk A160
        clear A160
        replace H := Option.bind_eq_some_iff.mp H
        obtain ⟨t200, A170, H⟩ := H
        replace H : (if (t199 == t200) = true then (steelyardlaw01_BitsBack.j0 k t190 t197 t198 (!true) a1_0 a1_1 a1_2 a1_3) else (if (FloatKind.f64.format.order a0 a0 != some .eq) = true then ((bits_NaN.f).bind fun t201 => ((steelyardlaw01_exact.f t195 t201).bind fun t202 => (steelyardlaw01_BitsBack.j0 k t190 t197 t198 (!t202) a1_0 a1_1 a1_2 a1_3))) else (steelyardlaw01_BitsBack.j0 k t190 t197 t198 (!false) a1_0 a1_1 a1_2 a1_3))) = some r := H
        have A17 := Aside0.mk A170
        clear A170
        by_cases c18 : (t199 == t200) = true
        · rw [if_pos c18] at H
          have c18b0 : (t199 == t200) = true := c18
          (try (have c18b1 : decide (t199 = t200) = true := by simpa using c18))
          (try (have c18b2 : (t199 == t200) = true := by simpa using c18))
          clear c18
          have H' := Aside0.mk H
          clear H
          go_wp2_with (first | (go_at_call 21; (with_reducible refine (math_Signbit.calls a0 t199 _ A16.out).mono ?_); rintro e w' ⟨rfl, ⟨nd, rfl⟩⟩) | (go_at_call 21; (with_reducible refine (math_Signbit.calls t195 t200 _ A17.out).mono ?_); rintro e w' ⟨rfl, ⟨nd, rfl⟩⟩))
          go_meet
          case rel => exact ⟨_, (!true), (by first | rfl | (simp; done) | (simp [*]; done)), H', ⟨by first | omega | exact Nat.le_refl _⟩, ⟨by (with_reducible repeat (first | refine blk_drewN ?_ _ | refine blk_drew ?_ | refine blk_alloc ?_ _)); exact BK189.out⟩, ⟨by repeat (first | (with_reducible first | exact HB.out | apply below_alloc | apply pw_below_drewN | apply below_drew1 | refine below_set ?_ GE189.out) | exact HB.out)⟩⟩
        · rw [if_neg c18] at H
          have c18b0 : (t199 == t200) = false := by simpa using c18
          (try (have c18b1 : decide (t199 = t200) = false := by simpa using c18))
          (try (have c18b2 : (t199 == t200) = false := by simpa using c18))
          (try (have c18b3 : ¬ (t199 = t200) := by simpa using c18))
          clear c18
          by_cases c19 : (FloatKind.f64.format.order a0 a0 != some .eq) = true
          · rw [if_pos c19] at H
            have c19b0 : (FloatKind.f64.format.order a0 a0 != some .eq) = true := c19
            clear c19
            replace H := Option.bind_eq_some_iff.mp H
            obtain ⟨t201, A200, H⟩ := H
            replace H : ((steelyardlaw01_exact.f t195 t201).bind fun t202 => (steelyardlaw01_BitsBack.j0 k t190 t197 t198 (!t202) a1_0 a1_1 a1_2 a1_3)) = some r := H
            have A20 := Aside0.mk A200
            clear A200
            replace H := Option.bind_eq_some_iff.mp H
            obtain ⟨t202, A210, H⟩ := H
            replace H : (steelyardlaw01_BitsBack.j0 k t190 t197 t198 (!t202) a1_0 a1_1 a1_2 a1_3) = some r := H
            have A21 := Aside0.mk A210
            clear A210
            have H' := Aside0.mk H
            clear H
            go_wp2_with (first | (go_at_call 21; (with_reducible refine (math_Signbit.calls a0 t199 _ A16.out).mono ?_); rintro e w' ⟨rfl, ⟨nd, rfl⟩⟩) | (go_at_call 21; (with_reducible refine (math_Signbit.calls t195 t200 _ A17.out).mono ?_); rintro e w' ⟨rfl, ⟨nd, rfl⟩⟩) | (go_at_call 16; (with_reducible refine (bits_NaN.calls  t201 _ A20.out).mono ?_); rintro e w' ⟨rfl, ⟨nd, rfl⟩⟩) | (go_at_call 19; (with_reducible refine (steelyardlaw01_exact.calls t195 t201 t202 _ A21.out).mono ?_); rintro e w' ⟨rfl, ⟨nd, rfl⟩⟩))
            go_meet
            case rel => exact ⟨_, (!t202), (by first | rfl | (simp; done) | (simp [*]; done)), H', ⟨by first | omega | exact Nat.le_refl _⟩, ⟨by (with_reducible repeat (first | refine blk_drewN ?_ _ | refine blk_drew ?_ | refine blk_alloc ?_ _)); exact BK189.out⟩, ⟨by repeat (first | (with_reducible first | exact HB.out | apply below_alloc | apply pw_below_drewN | apply below_drew1 | refine below_set ?_ GE189.out) | exact HB.out)⟩⟩
          · rw [if_neg c19] at H
            have c19b0 : (FloatKind.f64.format.order a0 a0 != some .eq) = false := by simpa using c19
            clear c19
            have H' := Aside0.mk H
            clear H
            go_wp2_with (first | (go_at_call 21; (with_reducible refine (math_Signbit.calls a0 t199 _ A16.out).mono ?_); rintro e w' ⟨rfl, ⟨nd, rfl⟩⟩) | (go_at_call 21; (with_reducible refine (math_Signbit.calls t195 t200 _ A17.out).mono ?_); rintro e w' ⟨rfl, ⟨nd, rfl⟩⟩))
            go_meet
            case rel => exact ⟨_, (!false), (by first | rfl | (simp; done) | (simp [*]; done)), H', ⟨by first | omega | exact Nat.le_refl _⟩, ⟨by (with_reducible repeat (first | refine blk_drewN ?_ _ | refine blk_drew ?_ | refine blk_alloc ?_ _)); exact BK189.out⟩, ⟨by repeat (first | (with_reducible first | exact HB.out | apply below_alloc | apply pw_below_drewN | apply below_drew1 | refine below_set ?_ GE189.out) | exact HB.out)⟩⟩
      · rw [if_neg c15] at H
        have c15b0 : (FloatKind.f64.format.order a0 t195 == some .eq) = false := by simpa using c15
        clear c15
        by_cases c22 : (FloatKind.f64.format.order a0 a0 != some .eq) = true
        · rw [if_pos c22] at H
          have c22b0 : (FloatKind.f64.format.order a0 a0 != some .eq) = true := c22
          clear c22
          replace H := Option.bind_eq_some_iff.mp H
          obtain ⟨t203, A230, H⟩ := H
          replace H : ((steelyardlaw01_exact.f t195 t203).bind fun t204 => (steelyardlaw01_BitsBack.j0 k t190 t197 t198 (!t204) a1_0 a1_1 a1_2 a1_3)) = some r := H
          have A23 := Aside0.mk A230
          clear A230
          replace H := Option.bind_eq_some_iff.mp H
          obtain ⟨t204, A240, H⟩ := H
          replace H : (steelyardlaw01_BitsBack.j0 k t190 t197 t198 (!t204) a1_0 a1_1 a1_2 a1_3) = some r := H
          have A24 := Aside0.mk A240
          clear A240
          have H' := Aside0.mk H
          clear H
          go_wp2_with (first | (go_at_call 16; (with_reducible refine (bits_NaN.calls  t203 _ A23.out).mono ?_); rintro e w' ⟨rfl, ⟨nd, rfl⟩⟩) | (go_at_call 19; (with_reducible refine (steelyardlaw01_exact.calls t195 t203 t204 _ A24.out).mono ?_); rintro e w' ⟨rfl, ⟨nd, rfl⟩⟩))
          go_meet
          case rel => exact ⟨_, (!t204), (by first | rfl | (simp; done) | (simp [*]; done)), H', ⟨by first | omega | exact Nat.le_refl _⟩, ⟨by (with_reducible repeat (first | refine blk_drewN ?_ _ | refine blk_drew ?_ | refine blk_alloc ?_ _)); exact BK189.out⟩, ⟨by repeat (first | (with_reducible first | exact HB.out | apply below_alloc | apply pw_below_drewN | apply below_drew1 | refine below_set ?_ GE189.out) | exact HB.out)⟩⟩
        · rw [if_neg c22] at H
          have c22b0 : (FloatKind.f64.format.order a0 a0 != some .eq) = false := by simpa using c22
          clear c22
          have H' := Aside0.mk H
          clear H
          go_wp2
          go_meet
          case rel => exact ⟨_, (!false), (by first | rfl | (simp; done) | (simp [*]; done)), H', ⟨by first | omega | exact Nat.le_refl _⟩, ⟨by (with_reducible repeat (first | refine blk_drewN ?_ _ | refine blk_drew ?_ | refine blk_alloc ?_ _)); exact BK189.out⟩, ⟨by repeat (first | (with_reducible first | exact HB.out | apply below_alloc | apply pw_below_drewN | apply below_drew1 | refine below_set ?_ GE189.out) | exact HB.out)⟩⟩
    · rw [if_neg c14] at H
      have c14b0 : (t196 == 0) = false := beq_eq_false_iff_ne.mpr c14
      have c14b1 : (t196 != 0) = true := bne_iff_ne.mpr c14
      (first | rw [c14b0] | (simp only [i64_w, i32_w]; rw [c14b0]) | skip)
      have H' := Aside0.mk H
      clear H
      go_wp2
      go_meet
      case rel => exact ⟨_, (true), (by first | rfl | (simp; done) | (simp [*]; done)), H', ⟨by first | omega | exact Nat.le_refl _⟩, ⟨by (with_reducible repeat (first | refine blk_drewN ?_ _ | refine blk_drew ?_ | refine blk_alloc ?_ _)); exact BK189.out⟩, ⟨by repeat (first | (with_reducible first | exact HB.out | apply below_alloc | apply pw_below_drewN | apply below_drew1 | refine below_set ?_ GE189.out) | exact HB.out)⟩⟩
  case rest =>
    clear HC7
    try clear c1
    try clear c2
    try clear p2
    try clear c5
    try clear c14
    try clear c14b0
    try clear c14b1
    try clear c15
    try clear c15b0
    try clear c17
    try clear c18
    try clear c18b0
    try clear c18b1
    try clear c18b2
    try clear c19
    try clear c19b0
    try clear c20
    try clear c22
    try clear c22b0
    try clear hcz12_0
    try clear hcz12_1
    try clear hcz12_2
    try clear hcz12_3
    try clear hfz12_0
    try clear hfz12_1
    try clear hfz12_2
    try clear hfz12_3
    obtain ⟨kq, x46_6, rfl, HA, HJ6, BK189, HB⟩ := hcut
    cases kq with
    | zero => exact absurd HA.out (by simp [steelyardlaw01_BitsBack.j0])
    | succ kj6 =>
      have H := HA.out
      clear HA
      simp only [steelyardlaw01_BitsBack.j0] at H
      by_cases c25 : x46_6 = true
      · subst c25
        have H1 : (none) = some r := by rw [if_pos rfl] at H; exact H
        clear H
        have H := H1
        clear H1
        exact absurd H (by simp)
      · replace c25 := Bool.eq_false_iff.mpr c25
        subst c25
        have H1 : (if t190 = true then (if t198 = 0 then ((bits_Split.f kj6 t197).bind fun bt205 => (if (bt205.1 == a1_0 && (bt205.2.1 == a1_1 && (bt205.2.2.1 == a1_2 && (bt205.2.2.2 == a1_3)))) = true then (some true) else (if t198 = 10 then ((steelyardlaw01_exact.f t197 0).bind fun t209 => (some t209)) else (none)))) else (if t198 = 10 then ((steelyardlaw01_exact.f t197 0).bind fun t210 => (some t210)) else (none))) else (none)) = some r := by rw [if_neg (show ¬ (false = true) by decide)] at H; exact H
        clear H
        have H := H1
        clear H1
        by_cases c26 : t190 = true
        · subst c26
          have H1 : (if t198 = 0 then ((bits_Split.f kj6 t197).bind fun bt205 => (if (bt205.1 == a1_0 && (bt205.2.1 == a1_1 && (bt205.2.2.1 == a1_2 && (bt205.2.2.2 == a1_3)))) = true then (some true) else (if t198 = 10 then ((steelyardlaw01_exact.f t197 0).bind fun t209 => (some t209)) else (none)))) else (if t198 = 10 then ((steelyardlaw01_exact.f t197 0).bind fun t210 => (some t210)) else (none))) = some r := by rw [if_pos rfl] at H; exact H
          clear H
          have H := H1
          clear H1
          by_cases c27 : t198 = 0
          · rw [if_pos c27] at H
            have c27b0 : (t198 == 0) = true := beq_iff_eq.mpr c27
            have c27b1 : (t198 != 0) = false := bne_eq_false_iff_eq.mpr c27
            clear c27
            replace H := Option.bind_eq_some_iff.mp H
            obtain ⟨⟨t205, t206, t207, t208⟩, A280, H⟩ := H
            replace H : (if (t205 == a1_0 && (t206 == a1_1 && (t207 == a1_2 && (t208 == a1_3)))) = true then (some true) else (if t198 = 10 then ((steelyardlaw01_exact.f t197 0).bind fun t209 => (some t209)) else (none))) = some r := H
            have A28 := Aside0.mk A280
            clear A280
            by_cases c29 : (t205 == a1_0 && (t206 == a1_1 && (t207 == a1_2 && (t208 == a1_3)))) = true
            · rw [if_pos c29] at H
              have c29b0 : (t205 == a1_0 && (t206 == a1_1 && (t207 == a1_2 && (t208 == a1_3)))) = true := c29
              (try (have c29b1 : decide (t205 = a1_0 && (t206 == a1_1 && (t207 == a1_2 && (t208 == a1_3)))) = true := by simpa using c29))
              (try (have c29b2 : (t205 == a1_0 && (t206 == a1_1 && (t207 == a1_2 && (t208 == a1_3)))) = true := by simpa using c29))
              clear c29
              obtain rfl := Option.some.inj H
              try go_wp2
              have n0_ := Aside0.mk (blk_drew BK189.out)
              have n1_ := Aside0.mk (below_drew1 HB.out)
              clear BK189
              clear HB
              have BK189 := n0_
              have HB := n1_
              clear n0_ n1_
              refine start_ (n := 20) (S := fun w' => w'.cell? ⟨gb189, 0, none⟩ = some (.bool a1_0) ∧ w'.cell? ⟨gb189, 1, none⟩ = some (.int .i64 a1_1) ∧ w'.cell? ⟨gb189, 2, none⟩ = some (.int .i64 a1_2) ∧ w'.cell? ⟨gb189, 3, none⟩ = some (.int .u64 a1_3)) (ds := []) #[false, false, false, false, false, false, false, false, false, false, false, false, false, false, false, false, false, false, false, false] (by kernel_rfl) rfl rfl ⟨(blk_cell BK189.out 0).trans rfl, (blk_cell BK189.out 1).trans rfl, (blk_cell BK189.out 2).trans rfl, (blk_cell BK189.out 3).trans rfl⟩ (fun hHeld => ?_); refine with_tabW steelyardlaw01_BitsBack.tab6 steelyardlaw01_BitsBack.bits6 (fun HT_ HW_ => ?_)
              generalize wc.drew = w30 at BK189 HB hHeld ⊢
              refine pure_ (i := 0) (N := some 47) (v := ?_) (a' := ?_) #[true, false, false, false, false, false, false, false, false, false, false, false, false, false, false, false, false, false, false, false] rfl rfl (any_of HT_.out (by kernel_rfl)) (fun _ _ _ h => h) (Or.inl ⟨by rfl, ?_⟩) ?_ ?_
              rotate_left
              · intro w'
                go_simp
                with_reducible rfl
              rotate_left
              · simp only [Act.put, List.setIfInBounds_toArray, List.set_cons_zero, List.set_cons_succ, i64_w, i32_w]
                rfl
              refine pure_ (i := 1) (N := some 48) (v := ?_) (a' := ?_) #[true, true, false, false, false, false, false, false, false, false, false, false, false, false, false, false, false, false, false, false] rfl rfl (any_of HT_.out (by kernel_rfl)) (fun _ _ _ h => h) (Or.inl ⟨by rfl, ?_⟩) ?_ ?_
              rotate_left
              · intro w'
                go_simp
                with_reducible rfl
              rotate_left
              · simp only [Act.put, List.setIfInBounds_toArray, List.set_cons_zero, List.set_cons_succ, i64_w, i32_w]
                rfl
              refine pure_ (i := 2) (N := some 49) (v := ?_) (a' := ?_) #[true, true, true, false, false, false, false, false, false, false, false, false, false, false, false, false, false, false, false, false] rfl rfl (any_of HT_.out (by kernel_rfl)) (fun _ _ _ h => h) (Or.inl ⟨by rfl, ?_⟩) ?_ ?_
              rotate_left
              · intro w'
                go_simp
                with_reducible rfl
              rotate_left
              · simp only [Act.put, List.setIfInBounds_toArray, List.set_cons_zero, List.set_cons_succ, i64_w, i32_w]
                rfl
              refine pure_ (i := 3) (N := some 50) (v := ?_) (a' := ?_) #[true, true, true, true, false, false, false, false, false, false, false, false, false, false, false, false, false, false, false, false] rfl rfl (any_of HT_.out (by kernel_rfl)) (fun _ _ _ h => h) (Or.inl ⟨by rfl, ?_⟩) ?_ ?_
              rotate_left
              · intro w'
                go_simp
                with_reducible rfl
              rotate_left
              · simp only [Act.put, List.setIfInBounds_toArray, List.set_cons_zero, List.set_cons_succ, i64_w, i32_w]
                rfl
              refine pure_ (i := 4) (N := some 51) (v := ?_) (a' := ?_) #[true, true, true, true, true, false, false, false, false, false, false, false, false, false, false, false, false, false, false, false] rfl rfl (any_of HT_.out (by kernel_rfl)) (fun _ _ _ h => h) (Or.inl ⟨by rfl, ?_⟩) ?_ ?_
              rotate_left
              · intro w'
                go_simp
                with_reducible rfl
              rotate_left
              · simp only [Act.put, List.setIfInBounds_toArray, List.set_cons_zero, List.set_cons_succ, i64_w, i32_w]
                rfl
              refine pure_ (i := 5) (N := some 52) (v := ?_) (a' := ?_) #[true, true, true, true, true, true, false, false, false, false, false, false, false, false, false, false, false, false, false, false] rfl rfl (any_of HT_.out (by kernel_rfl)) (fun _ _ _ h => h) (Or.inl ⟨by rfl, ?_⟩) ?_ ?_
              rotate_left
              · intro w'
                go_simp
                with_reducible rfl
              rotate_left
              · simp only [Act.put, List.setIfInBounds_toArray, List.set_cons_zero, List.set_cons_succ, i64_w, i32_w]
                rfl
              refine take_ (i := 7) (N := some 54) (v := ?_) (a' := ?_) #[true, true, true, true, true, true, false, true, false, false, false, false, false, false, false, false, false, false, false, false] rfl rfl (take_ofW HT_.out HW_.out (by kernel_rfl)) (fun _ _ _ h => h) (Or.inl ⟨by rfl, ?_⟩) hHeld ?_ ?_
              rotate_left
              · rintro w' ⟨s0, s1, s2, s3⟩
                go_simp
                with_reducible rfl
              rotate_left
              · simp only [Act.put, List.setIfInBounds_toArray, List.set_cons_zero, List.set_cons_succ, i64_w, i32_w]
                rfl
              refine one_ (i := 6) (N := some 53) #[true, true, true, true, true, true, true, true, false, false, false, false, false, false, false, false, false, false, false, false] rfl rfl (one_of HT_.out (by kernel_rfl)) (by decide) (fun K hK => ?_)
              refine goes_ Tryd.func20 (by kernel_rfl) rfl #[.float .f64 t197] (by rfl) rfl rfl (by (try simp only [List.map_toArray, List.map_cons, List.map_nil]); first | done | rfl | (simp only [List.length_drop, List.length_take]; rfl)) ?_
              with_reducible refine (bits_Split.calls kj6 t197 t205 t206 t207 t208 _ A28.out).mono ?_
              rintro e w31 ⟨rfl, hb⟩
              refine ⟨_, rfl, ?_⟩
              have n0_ := kb_ BK189 hb
              have n1_ := bs_ HB hb
              clear BK189
              clear HB
              have BK189 := n0_
              have HB := n1_
              clear n0_ n1_
              (try clear hb)
              (try clear hb2)
              (try clear hk)
              (try clear hi)
              refine hK.out _ _ ⟨(blk_cell BK189.out 0).trans rfl, (blk_cell BK189.out 1).trans rfl, (blk_cell BK189.out 2).trans rfl, (blk_cell BK189.out 3).trans rfl⟩ (fun hHeld => ?_)
              clear hK K
              refine norm_ (a' := ?_) ?_ ?_
              rotate_left
              · show Act.put _ (some 53) _ = _
                simp only [Act.put, List.setIfInBounds_toArray, List.set_cons_zero, List.set_cons_succ, i64_w, i32_w]
                rfl
              refine pure_ (i := 8) (N := some 55) (v := ?_) (a' := ?_) #[true, true, true, true, true, true, true, true, true, false, false, false, false, false, false, false, false, false, false, false] rfl rfl (any_of HT_.out (by kernel_rfl)) (fun _ _ _ h => h) (Or.inl ⟨by rfl, ?_⟩) ?_ ?_
              rotate_left
              · intro w'
                go_simp
                with_reducible rfl
              rotate_left
              · simp only [Act.put, List.setIfInBounds_toArray, List.set_cons_zero, List.set_cons_succ, i64_w, i32_w]
                rfl
              refine pure_ (i := 9) (N := some 56) (v := ?_) (a' := ?_) #[true, true, true, true, true, true, true, true, true, true, false, false, false, false, false, false, false, false, false, false] rfl rfl (any_of HT_.out (by kernel_rfl)) (fun _ _ _ h => h) (Or.inl ⟨by rfl, ?_⟩) ?_ ?_
              rotate_left
              · intro w'
                go_simp
                with_reducible rfl
              rotate_left
              · simp only [Act.put, List.setIfInBounds_toArray, List.set_cons_zero, List.set_cons_succ, i64_w, i32_w]
                rfl
              refine pure_ (i := 10) (N := some 57) (v := ?_) (a' := ?_) #[true, true, true, true, true, true, true, true, true, true, true, false, false, false, false, false, false, false, false, false] rfl rfl (any_of HT_.out (by kernel_rfl)) (fun _ _ _ h => h) (Or.inl ⟨by rfl, ?_⟩) ?_ ?_
              rotate_left
              · intro w'
                go_simp
                with_reducible rfl
              rotate_left
              · simp only [Act.put, List.setIfInBounds_toArray, List.set_cons_zero, List.set_cons_succ, i64_w, i32_w]
                rfl
              refine pure_ (i := 11) (N := some 58) (v := undef) (a' := ?_) #[true, true, true, true, true, true, true, true, true, true, true, true, false, false, false, false, false, false, false, false] rfl rfl (any_of HT_.out (by kernel_rfl)) (fun _ _ _ h => h) (Or.inr ⟨by rfl, rfl⟩) ?_ ?_
              rotate_left
              · simp only [Act.put, List.setIfInBounds_toArray, List.set_cons_zero, List.set_cons_succ, i64_w, i32_w]
                rfl
              refine pure_ (i := 12) (N := some 59) (v := undef) (a' := ?_) #[true, true, true, true, true, true, true, true, true, true, true, true, true, false, false, false, false, false, false, false] rfl rfl (any_of HT_.out (by kernel_rfl)) (fun _ _ _ h => h) (Or.inr ⟨by rfl, rfl⟩) ?_ ?_
              rotate_left
              · simp only [Act.put, List.setIfInBounds_toArray, List.set_cons_zero, List.set_cons_succ, i64_w, i32_w]
                rfl
              refine pure_ (i := 13) (N := some 60) (v := undef) (a' := ?_) #[true, true, true, true, true, true, true, true, true, true, true, true, true, true, false, false, false, false, false, false] rfl rfl (any_of HT_.out (by kernel_rfl)) (fun _ _ _ h => h) (Or.inr ⟨by rfl, rfl⟩) ?_ ?_
              rotate_left
              · simp only [Act.put, List.setIfInBounds_toArray, List.set_cons_zero, List.set_cons_succ, i64_w, i32_w]
                rfl
              refine pure_ (i := 14) (N := some 61) (v := undef) (a' := ?_) #[true, true, true, true, true, true, true, true, true, true, true, true, true, true, true, false, false, false, false, false] rfl rfl (any_of HT_.out (by kernel_rfl)) (fun _ _ _ h => h) (Or.inr ⟨by rfl, rfl⟩) ?_ ?_
              rotate_left
              · simp only [Act.put, List.setIfInBounds_toArray, List.set_cons_zero, List.set_cons_succ, i64_w, i32_w]
                rfl
              refine pure_ (i := 15) (N := some 62) (v := undef) (a' := ?_) #[true, true, true, true, true, true, true, true, true, true, true, true, true, true, true, true, false, false, false, false] rfl rfl (any_of HT_.out (by kernel_rfl)) (fun _ _ _ h => h) (Or.inr ⟨by rfl, rfl⟩) ?_ ?_
              rotate_left
              · simp only [Act.put, List.setIfInBounds_toArray, List.set_cons_zero, List.set_cons_succ, i64_w, i32_w]
                rfl
              refine pure_ (i := 16) (N := some 63) (v := undef) (a' := ?_) #[true, true, true, true, true, true, true, true, true, true, true, true, true, true, true, true, true, false, false, false] rfl rfl (any_of HT_.out (by kernel_rfl)) (fun _ _ _ h => h) (Or.inr ⟨by rfl, rfl⟩) ?_ ?_
              rotate_left
              · simp only [Act.put, List.setIfInBounds_toArray, List.set_cons_zero, List.set_cons_succ, i64_w, i32_w]
                rfl
              refine pure_ (i := 17) (N := some 64) (v := ?_) (a' := ?_) #[true, true, true, true, true, true, true, true, true, true, true, true, true, true, true, true, true, true, false, false] rfl rfl (any_of HT_.out (by kernel_rfl)) (fun _ _ _ h => h) (Or.inl ⟨by rfl, ?_⟩) ?_ ?_
              rotate_left
              · intro w'
                go_simp
                with_reducible rfl
              rotate_left
              · simp only [Act.put, List.setIfInBounds_toArray, List.set_cons_zero, List.set_cons_succ, i64_w, i32_w]
                rfl
              refine pure_ (i := 18) (N := some 65) (v := ?_) (a' := ?_) #[true, true, true, true, true, true, true, true, true, true, true, true, true, true, true, true, true, true, true, false] rfl rfl (any_of HT_.out (by kernel_rfl)) (fun _ _ _ h => h) (Or.inl ⟨by rfl, ?_⟩) ?_ ?_
              rotate_left
              · intro w'
                go_simp
                with_reducible rfl
              rotate_left
              · simp only [Act.put, List.setIfInBounds_toArray, List.set_cons_zero, List.set_cons_succ, i64_w, i32_w]
                rfl
              refine pure_ (i := 19) (N := some 4) (v := ?_) (a' := ?_) #[true, true, true, true, true, true, true, true, true, true, true, true, true, true, true, true, true, true, true, true] rfl rfl (any_of HT_.out (by kernel_rfl)) (fun _ _ _ h => h) (Or.inl ⟨by rfl, ?_⟩) ?_ ?_
              rotate_left
              · intro w'
                go_simp
                with_reducible rfl
              rotate_left
              · simp only [Act.put, List.setIfInBounds_toArray, List.set_cons_zero, List.set_cons_succ, i64_w, i32_w]
                rfl
              refine done_ (done_of HT_.out (by kernel_rfl)) ?_
              try go_wp2
              go_ret
              exact ⟨by first | rfl | (simp [errW_none, errW_some] <;> rfl) | (simp [*, errW_none, errW_some] <;> rfl), by repeat (first | (with_reducible first | exact HB.out | apply below_alloc | apply pw_below_drewN | apply below_drew1 | refine below_set ?_ GE189.out) | exact HB.out)⟩
            · rw [if_neg c29] at H
              have c29b0 : (t205 == a1_0 && (t206 == a1_1 && (t207 == a1_2 && (t208 == a1_3)))) = false := by simpa using c29
              (try (have c29b1 : decide (t205 = a1_0 && (t206 == a1_1 && (t207 == a1_2 && (t208 == a1_3)))) = false := by simpa using c29))
              (try (have c29b2 : (t205 == a1_0 && (t206 == a1_1 && (t207 == a1_2 && (t208 == a1_3)))) = false := by simpa using c29))
              (try (have c29b3 : ¬ (t205 = a1_0 && (t206 == a1_1 && (t207 == a1_2 && (t208 == a1_3)))) := by simpa using c29))
              clear c29
              by_cases c32 : t198 = 10
              · rw [if_pos c32] at H
                have c32b0 : (t198 == 10) = true := beq_iff_eq.mpr c32
                have c32b1 : (t198 != 10) = false := bne_eq_false_iff_eq.mpr c32
                clear c32
                replace H := Option.bind_eq_some_iff.mp H
                obtain ⟨t209, A330, H⟩ := H
                replace H : (some t209) = some r := H
                have A33 := Aside0.mk A330
                clear A330
                obtain rfl := Option.some.inj H
                try go_wp2
                have n0_ := Aside0.mk (blk_drew BK189.out)
                have n1_ := Aside0.mk (below_drew1 HB.out)
                clear BK189
                clear HB
                have BK189 := n0_
                have HB := n1_
                clear n0_ n1_
                refine start_ (n := 20) (S := fun w' => w'.cell? ⟨gb189, 0, none⟩ = some (.bool a1_0) ∧ w'.cell? ⟨gb189, 1, none⟩ = some (.int .i64 a1_1) ∧ w'.cell? ⟨gb189, 2, none⟩ = some (.int .i64 a1_2) ∧ w'.cell? ⟨gb189, 3, none⟩ = some (.int .u64 a1_3)) (ds := []) #[false, false, false, false, false, false, false, false, false, false, false, false, false, false, false, false, false, false, false, false] (by kernel_rfl) rfl rfl ⟨(blk_cell BK189.out 0).trans rfl, (blk_cell BK189.out 1).trans rfl, (blk_cell BK189.out 2).trans rfl, (blk_cell BK189.out 3).trans rfl⟩ (fun hHeld => ?_); refine with_tabW steelyardlaw01_BitsBack.tab6 steelyardlaw01_BitsBack.bits6 (fun HT_ HW_ => ?_)
                generalize wc.drew = w34 at BK189 HB hHeld ⊢
                refine pure_ (i := 0) (N := some 47) (v := ?_) (a' := ?_) #[true, false, false, false, false, false, false, false, false, false, false, false, false, false, false, false, false, false, false, false] rfl rfl (any_of HT_.out (by kernel_rfl)) (fun _ _ _ h => h) (Or.inl ⟨by rfl, ?_⟩) ?_ ?_
                rotate_left
                · intro w'
                  go_simp
                  with_reducible rfl
                rotate_left
                · simp only [Act.put, List.setIfInBounds_toArray, List.set_cons_zero, List.set_cons_succ, i64_w, i32_w]
                  rfl
                refine pure_ (i := 1) (N := some 48) (v := ?_) (a' := ?_) #[true, true, false, false, false, false, false, false, false, false, false, false, false, false, false, false, false, false, false, false] rfl rfl (any_of HT_.out (by kernel_rfl)) (fun _ _ _ h => h) (Or.inl ⟨by rfl, ?_⟩) ?_ ?_
                rotate_left
                · intro w'
                  go_simp
                  with_reducible rfl
                rotate_left
                · simp only [Act.put, List.setIfInBounds_toArray, List.set_cons_zero, List.set_cons_succ, i64_w, i32_w]
                  rfl
                refine pure_ (i := 2) (N := some 49) (v := ?_) (a' := ?_) #[true, true, true, false, false, false, false, false, false, false, false, false, false, false, false, false, false, false, false, false] rfl rfl (any_of HT_.out (by kernel_rfl)) (fun _ _ _ h => h) (Or.inl ⟨by rfl, ?_⟩) ?_ ?_
                rotate_left
                · intro w'
                  go_simp
                  with_reducible rfl
                rotate_left
                · simp only [Act.put, List.setIfInBounds_toArray, List.set_cons_zero, List.set_cons_succ, i64_w, i32_w]
                  rfl
                refine pure_ (i := 3) (N := some 50) (v := ?_) (a' := ?_) #[true, true, true, true, false, false, false, false, false, false, false, false, false, false, false, false, false, false, false, false] rfl rfl (any_of HT_.out (by kernel_rfl)) (fun _ _ _ h => h) (Or.inl ⟨by rfl, ?_⟩) ?_ ?_
                rotate_left
                · intro w'
                  go_simp
                  with_reducible rfl
                rotate_left
                · simp only [Act.put, List.setIfInBounds_toArray, List.set_cons_zero, List.set_cons_succ, i64_w, i32_w]
                  rfl
                refine pure_ (i := 4) (N := some 51) (v := ?_) (a' := ?_) #[true, true, true, true, true, false, false, false, false, false, false, false, false, false, false, false, false, false, false, false] rfl rfl (any_of HT_.out (by kernel_rfl)) (fun _ _ _ h => h) (Or.inl ⟨by rfl, ?_⟩) ?_ ?_
                rotate_left
                · intro w'
                  go_simp
                  with_reducible rfl
                rotate_left
                · simp only [Act.put, List.setIfInBounds_toArray, List.set_cons_zero, List.set_cons_succ, i64_w, i32_w]
                  rfl
                refine pure_ (i := 5) (N := some 52) (v := ?_) (a' := ?_) #[true, true, true, true, true, true, false, false, false, false, false, false, false, false, false, false, false, false, false, false] rfl rfl (any_of HT_.out (by kernel_rfl)) (fun _ _ _ h => h) (Or.inl ⟨by rfl, ?_⟩) ?_ ?_
                rotate_left
                · intro w'
                  go_simp
                  with_reducible rfl
                rotate_left
                · simp only [Act.put, List.setIfInBounds_toArray, List.set_cons_zero, List.set_cons_succ, i64_w, i32_w]
                  rfl
                refine take_ (i := 7) (N := some 54) (v := ?_) (a' := ?_) #[true, true, true, true, true, true, false, true, false, false, false, false, false, false, false, false, false, false, false, false] rfl rfl (take_ofW HT_.out HW_.out (by kernel_rfl)) (fun _ _ _ h => h) (Or.inl ⟨by rfl, ?_⟩) hHeld ?_ ?_
                rotate_left
                · rintro w' ⟨s0, s1, s2, s3⟩
                  go_simp
                  with_reducible rfl
                rotate_left
                · simp only [Act.put, List.setIfInBounds_toArray, List.set_cons_zero, List.set_cons_succ, i64_w, i32_w]
                  rfl
                refine one_ (i := 6) (N := some 53) #[true, true, true, true, true, true, true, true, false, false, false, false, false, false, false, false, false, false, false, false] rfl rfl (one_of HT_.out (by kernel_rfl)) (by decide) (fun K hK => ?_)
                refine goes_ Tryd.func20 (by kernel_rfl) rfl #[.float .f64 t197] (by rfl) rfl rfl (by (try simp only [List.map_toArray, List.map_cons, List.map_nil]); first | done | rfl | (simp only [List.length_drop, List.length_take]; rfl)) ?_
                with_reducible refine (bits_Split.calls kj6 t197 t205 t206 t207 t208 _ A28.out).mono ?_
                rintro e w35 ⟨rfl, hb⟩
                refine ⟨_, rfl, ?_⟩
                have n0_ := kb_ BK189 hb
                have n1_ := bs_ HB hb
                clear BK189
                clear HB
                have BK189 := n0_
                have HB := n1_
                clear n0_ n1_
                (try clear hb)
                (try clear hb2)
                (try clear hk)
                (try clear hi)
                refine hK.out _ _ ⟨(blk_cell BK189.out 0).trans rfl, (blk_cell BK189.out 1).trans rfl, (blk_cell BK189.out 2).trans rfl, (blk_cell BK189.out 3).trans rfl⟩ (fun hHeld => ?_)
                clear hK K
                refine norm_ (a' := ?_) ?_ ?_
                rotate_left
                · show Act.put _ (some 53) _ = _
                  simp only [Act.put, List.setIfInBounds_toArray, List.set_cons_zero, List.set_cons_succ, i64_w, i32_w]
                  rfl
                refine pure_ (i := 8) (N := some 55) (v := ?_) (a' := ?_) #[true, true, true, true, true, true, true, true, true, false, false, false, false, false, false, false, false, false, false, false] rfl rfl (any_of HT_.out (by kernel_rfl)) (fun _ _ _ h => h) (Or.inl ⟨by rfl, ?_⟩) ?_ ?_
                rotate_left
                · intro w'
                  go_simp
                  with_reducible rfl
                rotate_left
                · simp only [Act.put, List.setIfInBounds_toArray, List.set_cons_zero, List.set_cons_succ, i64_w, i32_w]
                  rfl
                refine pure_ (i := 9) (N := some 56) (v := ?_) (a' := ?_) #[true, true, true, true, true, true, true, true, true, true, false, false, false, false, false, false, false, false, false, false] rfl rfl (any_of HT_.out (by kernel_rfl)) (fun _ _ _ h => h) (Or.inl ⟨by rfl, ?_⟩) ?_ ?_
                rotate_left
                · intro w'
                  go_simp
                  with_reducible rfl
                rotate_left
                · simp only [Act.put, List.setIfInBounds_toArray, List.set_cons_zero, List.set_cons_succ, i64_w, i32_w]
                  rfl
                refine pure_ (i := 10) (N := some 57) (v := ?_) (a' := ?_) #[true, true, true, true, true, true, true, true, true, true, true, false, false, false, false, false, false, false, false, false] rfl rfl (any_of HT_.out (by kernel_rfl)) (fun _ _ _ h => h) (Or.inl ⟨by rfl, ?_⟩) ?_ ?_
                rotate_left
                · intro w'
                  go_simp
                  with_reducible rfl
                rotate_left
                · simp only [Act.put, List.setIfInBounds_toArray, List.set_cons_zero, List.set_cons_succ, i64_w, i32_w]
                  rfl
                refine pure_ (i := 11) (N := some 58) (v := ?_) (a' := ?_) #[true, true, true, true, true, true, true, true, true, true, true, true, false, false, false, false, false, false, false, false] rfl rfl (any_of HT_.out (by kernel_rfl)) (fun _ _ _ h => h) (Or.inl ⟨by rfl, ?_⟩) ?_ ?_
                rotate_left
                · intro w'
                  go_simp
                  with_reducible rfl
                rotate_left
                · simp only [Act.put, List.setIfInBounds_toArray, List.set_cons_zero, List.set_cons_succ, i64_w, i32_w]
                  rfl
                refine pure_ (i := 12) (N := some 59) (v := ?_) (a' := ?_) #[true, true, true, true, true, true, true, true, true, true, true, true, true, false, false, false, false, false, false, false] rfl rfl (any_of HT_.out (by kernel_rfl)) (fun _ _ _ h => h) (Or.inl ⟨by rfl, ?_⟩) ?_ ?_
                rotate_left
                · intro w'
                  go_simp
                  with_reducible rfl
                rotate_left
                · simp only [Act.put, List.setIfInBounds_toArray, List.set_cons_zero, List.set_cons_succ, i64_w, i32_w]
                  rfl
                refine pure_ (i := 13) (N := some 60) (v := ?_) (a' := ?_) #[true, true, true, true, true, true, true, true, true, true, true, true, true, true, false, false, false, false, false, false] rfl rfl (any_of HT_.out (by kernel_rfl)) (fun _ _ _ h => h) (Or.inl ⟨by rfl, ?_⟩) ?_ ?_
                rotate_left
                · intro w'
                  go_simp
                  with_reducible rfl
                rotate_left
                · simp only [Act.put, List.setIfInBounds_toArray, List.set_cons_zero, List.set_cons_succ, i64_w, i32_w]
                  rfl
                refine pure_ (i := 14) (N := some 61) (v := ?_) (a' := ?_) #[true, true, true, true, true, true, true, true, true, true, true, true, true, true, true, false, false, false, false, false] rfl rfl (any_of HT_.out (by kernel_rfl)) (fun _ _ _ h => h) (Or.inl ⟨by rfl, ?_⟩) ?_ ?_
                rotate_left
                · intro w'
                  go_simp
                  with_reducible rfl
                rotate_left
                · simp only [Act.put, List.setIfInBounds_toArray, List.set_cons_zero, List.set_cons_succ, i64_w, i32_w]
                  rfl
                refine one_ (i := 15) (N := some 62) #[true, true, true, true, true, true, true, true, true, true, true, true, true, true, true, true, false, false, false, false] rfl rfl (one_of HT_.out (by kernel_rfl)) (by decide) (fun K hK => ?_)
                refine goes_ Tryd.func19 (by kernel_rfl) rfl #[.float .f64 t197, .float .f64 0] (by rfl) rfl rfl (by (try simp only [List.map_toArray, List.map_cons, List.map_nil]); first | done | rfl | (simp only [List.length_drop, List.length_take]; rfl)) ?_
                with_reducible refine (steelyardlaw01_exact.calls t197 0 t209 _ A33.out).mono ?_
                rintro e w' ⟨rfl, ⟨nd, rfl⟩⟩
                refine ⟨_, rfl, ?_⟩
                refine hK.out _ _ ⟨(blk_cell BK189.out 0).trans rfl, (blk_cell BK189.out 1).trans rfl, (blk_cell BK189.out 2).trans rfl, (blk_cell BK189.out 3).trans rfl⟩ (fun hHeld => ?_)
                clear hK K
                refine norm_ (a' := ?_) ?_ ?_
                rotate_left
                · show Act.put _ (some 62) _ = _
                  simp only [Act.put, List.setIfInBounds_toArray, List.set_cons_zero, List.set_cons_succ, i64_w, i32_w]
                  rfl
                refine pure_ (i := 16) (N := some 63) (v := ?_) (a' := ?_) #[true, true, true, true, true, true, true, true, true, true, true, true, true, true, true, true, true, false, false, false] rfl rfl (any_of HT_.out (by kernel_rfl)) (fun _ _ _ h => h) (Or.inl ⟨by rfl, ?_⟩) ?_ ?_
                rotate_left
                · intro w'
                  go_simp
                  with_reducible rfl
                rotate_left
                · simp only [Act.put, List.setIfInBounds_toArray, List.set_cons_zero, List.set_cons_succ, i64_w, i32_w]
                  rfl
                refine pure_ (i := 17) (N := some 64) (v := ?_) (a' := ?_) #[true, true, true, true, true, true, true, true, true, true, true, true, true, true, true, true, true, true, false, false] rfl rfl (any_of HT_.out (by kernel_rfl)) (fun _ _ _ h => h) (Or.inl ⟨by rfl, ?_⟩) ?_ ?_
                rotate_left
                · intro w'
                  go_simp
                  with_reducible rfl
                rotate_left
                · simp only [Act.put, List.setIfInBounds_toArray, List.set_cons_zero, List.set_cons_succ, i64_w, i32_w]
                  rfl
                refine pure_ (i := 18) (N := some 65) (v := ?_) (a' := ?_) #[true, true, true, true, true, true, true, true, true, true, true, true, true, true, true, true, true, true, true, false] rfl rfl (any_of HT_.out (by kernel_rfl)) (fun _ _ _ h => h) (Or.inl ⟨by rfl, ?_⟩) ?_ ?_
                rotate_left
                · intro w'
                  go_simp
                  with_reducible rfl
                rotate_left
                · simp only [Act.put, List.setIfInBounds_toArray, List.set_cons_zero, List.set_cons_succ, i64_w, i32_w]
                  rfl
                refine pure_ (i := 19) (N := some 4) (v := ?_) (a' := ?_) #[true, true, true, true, true, true, true, true, true, true, true, true, true, true, true, true, true, true, true, true] rfl rfl (any_of HT_.out (by kernel_rfl)) (fun _ _ _ h => h) (Or.inl ⟨by rfl, ?_⟩) ?_ ?_
                rotate_left
                · intro w'
                  go_simp
                  with_reducible rfl
                rotate_left
                · simp only [Act.put, List.setIfInBounds_toArray, List.set_cons_zero, List.set_cons_succ, i64_w, i32_w]
                  rfl
                refine done_ (done_of HT_.out (by kernel_rfl)) ?_
                try go_wp2
                go_ret
                exact ⟨by first | rfl | (simp [errW_none, errW_some] <;> rfl) | (simp [*, errW_none, errW_some] <;> rfl), by repeat (first | (with_reducible first | exact HB.out | apply below_alloc | apply pw_below_drewN | apply below_drew1 | refine below_set ?_ GE189.out) | exact HB.out)⟩
              · rw [if_neg c32] at H
                have c32b0 : (t198 == 10) = false := beq_eq_false_iff_ne.mpr c32
                have c32b1 : (t198 != 10) = true := bne_iff_ne.mpr c32
                exact absurd H (by simp)
          · rw [if_neg c27] at H
            have c27b0 : (t198 == 0) = false := beq_eq_false_iff_ne.mpr c27
            have c27b1 : (t198 != 0) = true := bne_iff_ne.mpr c27
            by_cases c36 : t198 = 10
            · rw [if_pos c36] at H
              have c36b0 : (t198 == 10) = true := beq_iff_eq.mpr c36
              have c36b1 : (t198 != 10) = false := bne_eq_false_iff_eq.mpr c36
              clear c36
              replace H := Option.bind_eq_some_iff.mp H
              obtain ⟨t210, A370, H⟩ := H
              replace H : (some t210) = some r := H
              have A37 := Aside0.mk A370
              clear A370
              obtain rfl := Option.some.inj H
              try go_wp2
              have n0_ := Aside0.mk (blk_drew BK189.out)
              have n1_ := Aside0.mk (below_drew1 HB.out)
              clear BK189
              clear HB
              have BK189 := n0_
              have HB := n1_
              clear n0_ n1_
              refine start_ (n := 20) (S := fun w' => True) (ds := []) #[false, false, false, false, false, false, false, false, false, false, false, false, false, false, false, false, false, false, false, false] (by kernel_rfl) rfl rfl trivial (fun hHeld => ?_); refine with_tabW steelyardlaw01_BitsBack.tab6 steelyardlaw01_BitsBack.bits6 (fun HT_ HW_ => ?_)
              generalize wc.drew = w38 at BK189 HB hHeld ⊢
              refine pure_ (i := 0) (N := some 47) (v := ?_) (a' := ?_) #[true, false, false, false, false, false, false, false, false, false, false, false, false, false, false, false, false, false, false, false] rfl rfl (any_of HT_.out (by kernel_rfl)) (fun _ _ _ h => h) (Or.inl ⟨by rfl, ?_⟩) ?_ ?_
              rotate_left
              · intro w'
                go_simp
                with_reducible rfl
              rotate_left
              · simp only [Act.put, List.setIfInBounds_toArray, List.set_cons_zero, List.set_cons_succ, i64_w, i32_w]
                rfl
              refine pure_ (i := 1) (N := some 48) (v := ?_) (a' := ?_) #[true, true, false, false, false, false, false, false, false, false, false, false, false, false, false, false, false, false, false, false] rfl rfl (any_of HT_.out (by kernel_rfl)) (fun _ _ _ h => h) (Or.inl ⟨by rfl, ?_⟩) ?_ ?_
              rotate_left
              · intro w'
                go_simp
                with_reducible rfl
              rotate_left
              · simp only [Act.put, List.setIfInBounds_toArray, List.set_cons_zero, List.set_cons_succ, i64_w, i32_w]
                rfl
              refine pure_ (i := 2) (N := some 49) (v := ?_) (a' := ?_) #[true, true, true, false, false, false, false, false, false, false, false, false, false, false, false, false, false, false, false, false] rfl rfl (any_of HT_.out (by kernel_rfl)) (fun _ _ _ h => h) (Or.inl ⟨by rfl, ?_⟩) ?_ ?_
              rotate_left
              · intro w'
                go_simp
                with_reducible rfl
              rotate_left
              · simp only [Act.put, List.setIfInBounds_toArray, List.set_cons_zero, List.set_cons_succ, i64_w, i32_w]
                rfl
              refine pure_ (i := 3) (N := some 50) (v := ?_) (a' := ?_) #[true, true, true, true, false, false, false, false, false, false, false, false, false, false, false, false, false, false, false, false] rfl rfl (any_of HT_.out (by kernel_rfl)) (fun _ _ _ h => h) (Or.inl ⟨by rfl, ?_⟩) ?_ ?_
              rotate_left
              · intro w'
                go_simp
                with_reducible rfl
              rotate_left
              · simp only [Act.put, List.setIfInBounds_toArray, List.set_cons_zero, List.set_cons_succ, i64_w, i32_w]
                rfl
              refine pure_ (i := 4) (N := some 51) (v := ?_) (a' := ?_) #[true, true, true, true, true, false, false, false, false, false, false, false, false, false, false, false, false, false, false, false] rfl rfl (any_of HT_.out (by kernel_rfl)) (fun _ _ _ h => h) (Or.inl ⟨by rfl, ?_⟩) ?_ ?_
              rotate_left
              · intro w'
                go_simp
                with_reducible rfl
              rotate_left
              · simp only [Act.put, List.setIfInBounds_toArray, List.set_cons_zero, List.set_cons_succ, i64_w, i32_w]
                rfl
              refine pure_ (i := 5) (N := some 52) (v := undef) (a' := ?_) #[true, true, true, true, true, true, false, false, false, false, false, false, false, false, false, false, false, false, false, false] rfl rfl (any_of HT_.out (by kernel_rfl)) (fun _ _ _ h => h) (Or.inr ⟨by rfl, rfl⟩) ?_ ?_
              rotate_left
              · simp only [Act.put, List.setIfInBounds_toArray, List.set_cons_zero, List.set_cons_succ, i64_w, i32_w]
                rfl
              refine pure_ (i := 6) (N := some 53) (v := undef) (a' := ?_) #[true, true, true, true, true, true, true, false, false, false, false, false, false, false, false, false, false, false, false, false] rfl rfl (any_of HT_.out (by kernel_rfl)) (fun _ _ _ h => h) (Or.inr ⟨by rfl, rfl⟩) ?_ ?_
              rotate_left
              · simp only [Act.put, List.setIfInBounds_toArray, List.set_cons_zero, List.set_cons_succ, i64_w, i32_w]
                rfl
              refine pure_ (i := 7) (N := some 54) (v := undef) (a' := ?_) #[true, true, true, true, true, true, true, true, false, false, false, false, false, false, false, false, false, false, false, false] rfl rfl (any_of HT_.out (by kernel_rfl)) (fun _ _ _ h => h) (Or.inr ⟨by rfl, rfl⟩) ?_ ?_
              rotate_left
              · simp only [Act.put, List.setIfInBounds_toArray, List.set_cons_zero, List.set_cons_succ, i64_w, i32_w]
                rfl
              refine pure_ (i := 8) (N := some 55) (v := undef) (a' := ?_) #[true, true, true, true, true, true, true, true, true, false, false, false, false, false, false, false, false, false, false, false] rfl rfl (any_of HT_.out (by kernel_rfl)) (fun _ _ _ h => h) (Or.inr ⟨by rfl, rfl⟩) ?_ ?_
              rotate_left
              · simp only [Act.put, List.setIfInBounds_toArray, List.set_cons_zero, List.set_cons_succ, i64_w, i32_w]
                rfl
              refine pure_ (i := 9) (N := some 56) (v := ?_) (a' := ?_) #[true, true, true, true, true, true, true, true, true, true, false, false, false, false, false, false, false, false, false, false] rfl rfl (any_of HT_.out (by kernel_rfl)) (fun _ _ _ h => h) (Or.inl ⟨by rfl, ?_⟩) ?_ ?_
              rotate_left
              · intro w'
                go_simp
                with_reducible rfl
              rotate_left
              · simp only [Act.put, List.setIfInBounds_toArray, List.set_cons_zero, List.set_cons_succ, i64_w, i32_w]
                rfl
              refine pure_ (i := 10) (N := some 57) (v := ?_) (a' := ?_) #[true, true, true, true, true, true, true, true, true, true, true, false, false, false, false, false, false, false, false, false] rfl rfl (any_of HT_.out (by kernel_rfl)) (fun _ _ _ h => h) (Or.inl ⟨by rfl, ?_⟩) ?_ ?_
              rotate_left
              · intro w'
                go_simp
                with_reducible rfl
              rotate_left
              · simp only [Act.put, List.setIfInBounds_toArray, List.set_cons_zero, List.set_cons_succ, i64_w, i32_w]
                rfl
              refine pure_ (i := 11) (N := some 58) (v := ?_) (a' := ?_) #[true, true, true, true, true, true, true, true, true, true, true, true, false, false, false, false, false, false, false, false] rfl rfl (any_of HT_.out (by kernel_rfl)) (fun _ _ _ h => h) (Or.inl ⟨by rfl, ?_⟩) ?_ ?_
              rotate_left
              · intro w'
                go_simp
                with_reducible rfl
              rotate_left
              · simp only [Act.put, List.setIfInBounds_toArray, List.set_cons_zero, List.set_cons_succ, i64_w, i32_w]
                rfl
              refine pure_ (i := 12) (N := some 59) (v := ?_) (a' := ?_) #[true, true, true, true, true, true, true, true, true, true, true, true, true, false, false, false, false, false, false, false] rfl rfl (any_of HT_.out (by kernel_rfl)) (fun _ _ _ h => h) (Or.inl ⟨by rfl, ?_⟩) ?_ ?_
              rotate_left
              · intro w'
                go_simp
                with_reducible rfl
              rotate_left
              · simp only [Act.put, List.setIfInBounds_toArray, List.set_cons_zero, List.set_cons_succ, i64_w, i32_w]
                rfl
              refine pure_ (i := 13) (N := some 60) (v := ?_) (a' := ?_) #[true, true, true, true, true, true, true, true, true, true, true, true, true, true, false, false, false, false, false, false] rfl rfl (any_of HT_.out (by kernel_rfl)) (fun _ _ _ h => h) (Or.inl ⟨by rfl, ?_⟩) ?_ ?_
              rotate_left
              · intro w'
                go_simp
                with_reducible rfl
              rotate_left
              · simp only [Act.put, List.setIfInBounds_toArray, List.set_cons_zero, List.set_cons_succ, i64_w, i32_w]
                rfl
              refine pure_ (i := 14) (N := some 61) (v := ?_) (a' := ?_) #[true, true, true, true, true, true, true, true, true, true, true, true, true, true, true, false, false, false, false, false] rfl rfl (any_of HT_.out (by kernel_rfl)) (fun _ _ _ h => h) (Or.inl ⟨by rfl, ?_⟩) ?_ ?_
              rotate_left
              · intro w'
                go_simp
                with_reducible rfl
              rotate_left
              · simp only [Act.put, List.setIfInBounds_toArray, List.set_cons_zero, List.set_cons_succ, i64_w, i32_w]
                rfl
              refine one_ (i := 15) (N := some 62) #[true, true, true, true, true, true, true, true, true, true, true, true, true, true, true, true, false, false, false, false] rfl rfl (one_of HT_.out (by kernel_rfl)) (by decide) (fun K hK => ?_)
              refine goes_ Tryd.func19 (by kernel_rfl) rfl #[.float .f64 t197, .float .f64 0] (by rfl) rfl rfl (by (try simp only [List.map_toArray, List.map_cons, List.map_nil]); first | done | rfl | (simp only [List.length_drop, List.length_take]; rfl)) ?_
              with_reducible refine (steelyardlaw01_exact.calls t197 0 t210 _ A37.out).mono ?_
              rintro e w' ⟨rfl, ⟨nd, rfl⟩⟩
              refine ⟨_, rfl, ?_⟩
              refine hK.out _ _ trivial (fun hHeld => ?_)
              clear hK K
              refine norm_ (a' := ?_) ?_ ?_
              rotate_left
              · show Act.put _ (some 62) _ = _
                simp only [Act.put, List.setIfInBounds_toArray, List.set_cons_zero, List.set_cons_succ, i64_w, i32_w]
                rfl
              refine pure_ (i := 16) (N := some 63) (v := ?_) (a' := ?_) #[true, true, true, true, true, true, true, true, true, true, true, true, true, true, true, true, true, false, false, false] rfl rfl (any_of HT_.out (by kernel_rfl)) (fun _ _ _ h => h) (Or.inl ⟨by rfl, ?_⟩) ?_ ?_
              rotate_left
              · intro w'
                go_simp
                with_reducible rfl
              rotate_left
              · simp only [Act.put, List.setIfInBounds_toArray, List.set_cons_zero, List.set_cons_succ, i64_w, i32_w]
                rfl
              refine pure_ (i := 17) (N := some 64) (v := ?_) (a' := ?_) #[true, true, true, true, true, true, true, true, true, true, true, true, true, true, true, true, true, true, false, false] rfl rfl (any_of HT_.out (by kernel_rfl)) (fun _ _ _ h => h) (Or.inl ⟨by rfl, ?_⟩) ?_ ?_
              rotate_left
              · intro w'
                go_simp
                with_reducible rfl
              rotate_left
              · simp only [Act.put, List.setIfInBounds_toArray, List.set_cons_zero, List.set_cons_succ, i64_w, i32_w]
                rfl
              refine pure_ (i := 18) (N := some 65) (v := ?_) (a' := ?_) #[true, true, true, true, true, true, true, true, true, true, true, true, true, true, true, true, true, true, true, false] rfl rfl (any_of HT_.out (by kernel_rfl)) (fun _ _ _ h => h) (Or.inl ⟨by rfl, ?_⟩) ?_ ?_
              rotate_left
              · intro w'
                go_simp
                with_reducible rfl
              rotate_left
              · simp only [Act.put, List.setIfInBounds_toArray, List.set_cons_zero, List.set_cons_succ, i64_w, i32_w]
                rfl
              refine pure_ (i := 19) (N := some 4) (v := ?_) (a' := ?_) #[true, true, true, true, true, true, true, true, true, true, true, true, true, true, true, true, true, true, true, true] rfl rfl (any_of HT_.out (by kernel_rfl)) (fun _ _ _ h => h) (Or.inl ⟨by rfl, ?_⟩) ?_ ?_
              rotate_left
              · intro w'
                go_simp
                with_reducible rfl
              rotate_left
              · simp only [Act.put, List.setIfInBounds_toArray, List.set_cons_zero, List.set_cons_succ, i64_w, i32_w]
                rfl
              refine done_ (done_of HT_.out (by kernel_rfl)) ?_
              try go_wp2
              go_ret
              exact ⟨by first | rfl | (simp [errW_none, errW_some] <;> rfl) | (simp [*, errW_none, errW_some] <;> rfl), by repeat (first | (with_reducible first | exact HB.out | apply below_alloc | apply pw_below_drewN | apply below_drew1 | refine below_set ?_ GE189.out) | exact HB.out)⟩
            · rw [if_neg c36] at H
              have c36b0 : (t198 == 10) = false := beq_eq_false_iff_ne.mpr c36
              have c36b1 : (t198 != 10) = true := bne_iff_ne.mpr c36
              exact absurd H (by simp)
        · replace c26 := Bool.eq_false_iff.mpr c26
          subst c26
          have H1 : (none) = some r := by rw [if_neg (show ¬ (false = true) by decide)] at H; exact H
          clear H
          have H := H1
          clear H1
          exact absurd H (by simp)

/-- THE ONE PURE STATEMENT of steelyardlaw01_BitsBack: yours. -/
def steelyardlaw01_BitsBack.Pure : Prop := ∀ (a0 : Nat) (a1_0 : Bool) (a1_1 : Int) (a1_2 : Int) (a1_3 : Int), (Lit.float .f64 a0).wf = true → (Lit.int .i64 a1_1).wf = true → (Lit.int .i64 a1_2).wf = true → (Lit.int .u64 a1_3).wf = true → ∃ k, steelyardlaw01_BitsBack.f k a0 a1_0 a1_1 a1_2 a1_3 = some true

end Go.Proofs.YtjkcgelemidapaaDoor.Pr
