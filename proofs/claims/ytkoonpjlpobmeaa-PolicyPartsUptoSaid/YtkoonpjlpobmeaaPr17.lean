-- short
-- written by this session's own program (wip/fprint.py), which widens the kit's print by floats
import Derived.Test.YtkoonpjlpobmeaaWShort
import Derived.Test.YtkoonpjlpobmeaaPr0
import Derived.Test.YtkoonpjlpobmeaaPr2
import Derived.Test.YtkoonpjlpobmeaaPr3
import Derived.Test.YtkoonpjlpobmeaaPr8
import Derived.Test.YtkoonpjlpobmeaaPr11
import Derived.Test.YtkoonpjlpobmeaaPr12
import Derived.Test.YtkoonpjlpobmeaaPr16
namespace Go.Proofs.Ytkoonpjlpobmeaa.Pr
open Go.RowKit Go.Proofs.YtkoonpjlpobmeaaW.PrintWords Go.Proofs.YtkoonpjlpobmeaaW.PrintLast Go.Proofs.YtkoonpjlpobmeaaW.PrintMore
attribute [local go_sem] max2_int min2_int max_two min_two max_three min_three max_four min_four   -- for this text's walks alone
set_option linter.unusedVariables false
set_option linter.unusedSimpArgs false

attribute [local go_sem high] eqA30
/-! ### steelyardlaw06_PolicyParts: function 6 -/
mutual
def steelyardlaw06_PolicyParts.j0 : Nat → List Nat → List Nat → List Nat → List Nat → Int → Bool → Int → Int → Int → Int → Int → Int → Int → Int → Int → Int → Int → Int → Int → Int → Int → Int → Int → Int → Option (Bool)
 | 0, _, _, _, _, _, _, _, _, _, _, _, _, _, _, _, _, _, _, _, _, _, _, _, _ => none
 | k + 1, x8, x9, x12, x15, x17, x61, x263000, x263001, x263002, x263003, x263004, x263005, x274000, x274001, x274002, x274003, x274004, x274005, x285000, x285001, x285002, x285003, x285004, x285005 => if x61 = true then (some (x17 != 0)) else (if x17 = 0 then (if ([] : List Nat).length + x9.length < 17592186044416 then ((some (([] : List Nat) ++ x9 : List Nat)).bind fun y285 => (if y285.length + x12.length < 17592186044416 then ((steelyardlaw06_sum.f x263000 x263001 x263002 x263003 x263004 x263005 x274000 x274001 x274002 x274003 x274004 x274005).bind fun bt291 => (if (!(x285000 == bt291.1) || (!(x285001 == bt291.2.1) || (!(x285002 == bt291.2.2.1) || (!(x285003 == bt291.2.2.2.1) || (!(x285004 == bt291.2.2.2.2.1) || (!(x285005 == bt291.2.2.2.2.2))))))) = true then (steelyardlaw06_PolicyParts.j1 k x15 true x285000 x285001 x285002 x285003 x285004 x285005) else ((steelyardref03_AlikeLists.f k x15 (y285 ++ x12)).bind fun t297 => (if t297 = true then (if (wrap64 ((wrap64 ((wrap64 ((x15.length : Int) + x285000)) + x285001)) + x285002)) = (x8.length : Int) then (steelyardlaw06_PolicyParts.j1 k x15 (x285005 != (x8.length : Int)) x285000 x285001 x285002 x285003 x285004 x285005) else (steelyardlaw06_PolicyParts.j1 k x15 true x285000 x285001 x285002 x285003 x285004 x285005)) else (steelyardlaw06_PolicyParts.j1 k x15 true x285000 x285001 x285002 x285003 x285004 x285005))))) else (none))) else (none)) else (if x17 = 2 then (some (decide ((x8.length : Int) > 65536))) else (none)))
def steelyardlaw06_PolicyParts.j1 : Nat → List Nat → Bool → Int → Int → Int → Int → Int → Int → Option (Bool)
 | 0, _, _, _, _, _, _, _, _ => none
 | k + 1, x15, x112, x285000, x285001, x285002, x285003, x285004, x285005 => if x112 = true then (none) else (steelyardlaw06_PolicyParts.l0 k x15 ([] : List Nat) 0 x285000 x285001 x285002 x285003 x285004 x285005)
def steelyardlaw06_PolicyParts.l0 : Nat → List Nat → List Nat → Int → Int → Int → Int → Int → Int → Int → Option (Bool)
 | 0, _, _, _, _, _, _, _, _, _ => none
 | k + 1, x15, x19, x20, x285000, x285001, x285002, x285003, x285004, x285005 => if x20 < (x15.length : Int) then (if 0 ≤ x20 then (if (FloatKind.f64.format.order (rdOf (0 : Nat) x15 x20) 0 == some .eq) = true then (if x19.length < 17592186044416 then (steelyardlaw06_PolicyParts.l0 k x15 (x19 ++ [rdOf (0 : Nat) x15 x20]) (wrap64 (x20 + 1)) x285000 x285001 x285002 x285003 x285004 x285005) else (none)) else (steelyardlaw06_PolicyParts.l0 k x15 x19 (wrap64 (x20 + 1)) x285000 x285001 x285002 x285003 x285004 x285005)) else (none)) else ((policy_Plain.f).bind fun bt303 => ((policy_Sift.f k x19 bt303.1 bt303.2).bind fun bt305 => ((steelyardref06_Zero.f true).bind fun t316 => (steelyardlaw06_PolicyParts.l1 k x19 bt305.2.2.2.2.2.2.2 t316 0 x285000 x285001 x285002 x285003 x285004 x285005 bt305.2.1 bt305.2.2.1 bt305.2.2.2.1 bt305.2.2.2.2.1 bt305.2.2.2.2.2.1 bt305.2.2.2.2.2.2.1))))
def steelyardlaw06_PolicyParts.l1 : Nat → List Nat → Int → Nat → Int → Int → Int → Int → Int → Int → Int → Int → Int → Int → Int → Int → Int → Option (Bool)
 | 0, _, _, _, _, _, _, _, _, _, _, _, _, _, _, _, _ => none
 | k + 1, x19, x23, x24, x25, x285000, x285001, x285002, x285003, x285004, x285005, x316000, x316001, x316002, x316003, x316004, x316005 => if x25 < (x19.length : Int) then (if 0 ≤ x25 then (if (FloatKind.f64.format.add x24 (rdOf (0 : Nat) x19 x25)).isSome = true then (steelyardlaw06_PolicyParts.l1 k x19 x23 ((FloatKind.f64.format.add x24 (rdOf (0 : Nat) x19 x25)).getD 0) (wrap64 (x25 + 1)) x285000 x285001 x285002 x285003 x285004 x285005 x316000 x316001 x316002 x316003 x316004 x316005) else (none)) else (none)) else (if (x19.length : Int) = 0 then (if x23 = 0 then (if (wrap64 (x316003 + x316004)) = (x19.length : Int) then (if x316003 = x285003 then (if x316004 = x285004 then ((policy_Nought.f x316000 x316001 x316002 x316003 x316004 x316005 0).bind fun t318 => ((steelyardref03_Alike.f t318 0).bind fun t319 => (some t319))) else (none)) else (none)) else (none)) else (none)) else (if x23 = 0 then (if (wrap64 (x316003 + x316004)) = (x19.length : Int) then (if x316003 = x285003 then (if x316004 = x285004 then ((policy_Nought.f x316000 x316001 x316002 x316003 x316004 x316005 0).bind fun t320 => ((steelyardref03_Alike.f t320 x24).bind fun t321 => (some t321))) else (none)) else (none)) else (none)) else (none)))
end
def steelyardlaw06_PolicyParts.f (k : Nat) (l0 : List Nat) (l1 : List Nat) (a2_0 : Int) (a2_1 : Int) : Option (Bool) := (steelyardlaw06_awake.f k).bind fun t245 => (if t245 = true then (if ([] : List Nat).length + l0.length < 17592186044416 then ((some (([] : List Nat) ++ l0 : List Nat)).bind fun y246 => (if y246.length + l1.length < 17592186044416 then ((some (y246 ++ l1 : List Nat)).bind fun y249 => ((policy_Sift.f k l0 a2_0 a2_1).bind fun bt252 => ((policy_Sift.f k l1 a2_0 a2_1).bind fun bt263 => ((policy_Sift.f k y249 a2_0 a2_1).bind fun bt274 => (if bt252.2.2.2.2.2.2.2 = 0 then (steelyardlaw06_PolicyParts.j0 k y249 bt252.1 bt263.1 bt274.1 bt274.2.2.2.2.2.2.2 (bt263.2.2.2.2.2.2.2 != 0) bt252.2.1 bt252.2.2.1 bt252.2.2.2.1 bt252.2.2.2.2.1 bt252.2.2.2.2.2.1 bt252.2.2.2.2.2.2.1 bt263.2.1 bt263.2.2.1 bt263.2.2.2.1 bt263.2.2.2.2.1 bt263.2.2.2.2.2.1 bt263.2.2.2.2.2.2.1 bt274.2.1 bt274.2.2.1 bt274.2.2.2.1 bt274.2.2.2.2.1 bt274.2.2.2.2.2.1 bt274.2.2.2.2.2.2.1) else (steelyardlaw06_PolicyParts.j0 k y249 bt252.1 bt263.1 bt274.1 bt274.2.2.2.2.2.2.2 true bt252.2.1 bt252.2.2.1 bt252.2.2.2.1 bt252.2.2.2.2.1 bt252.2.2.2.2.2.1 bt252.2.2.2.2.2.2.1 bt263.2.1 bt263.2.2.1 bt263.2.2.2.1 bt263.2.2.2.2.1 bt263.2.2.2.2.2.1 bt263.2.2.2.2.2.2.1 bt274.2.1 bt274.2.2.1 bt274.2.2.2.1 bt274.2.2.2.2.1 bt274.2.2.2.2.2.1 bt274.2.2.2.2.2.2.1)))))) else (none))) else (none)) else (none))
theorem steelyardlaw06_PolicyParts.mono_l : ∀ k, (∀ y0 y1 y2 y3 y4 y5 y6 y7 y8 y9 y10 y11 y12 y13 y14 y15 y16 y17 y18 y19 y20 y21 y22 y23, LeO (steelyardlaw06_PolicyParts.j0 k y0 y1 y2 y3 y4 y5 y6 y7 y8 y9 y10 y11 y12 y13 y14 y15 y16 y17 y18 y19 y20 y21 y22 y23) (steelyardlaw06_PolicyParts.j0 (k + 1) y0 y1 y2 y3 y4 y5 y6 y7 y8 y9 y10 y11 y12 y13 y14 y15 y16 y17 y18 y19 y20 y21 y22 y23)) ∧ (∀ y0 y1 y2 y3 y4 y5 y6 y7, LeO (steelyardlaw06_PolicyParts.j1 k y0 y1 y2 y3 y4 y5 y6 y7) (steelyardlaw06_PolicyParts.j1 (k + 1) y0 y1 y2 y3 y4 y5 y6 y7)) ∧ (∀ y0 y1 y2 y3 y4 y5 y6 y7 y8, LeO (steelyardlaw06_PolicyParts.l0 k y0 y1 y2 y3 y4 y5 y6 y7 y8) (steelyardlaw06_PolicyParts.l0 (k + 1) y0 y1 y2 y3 y4 y5 y6 y7 y8)) ∧ (∀ y0 y1 y2 y3 y4 y5 y6 y7 y8 y9 y10 y11 y12 y13 y14 y15, LeO (steelyardlaw06_PolicyParts.l1 k y0 y1 y2 y3 y4 y5 y6 y7 y8 y9 y10 y11 y12 y13 y14 y15) (steelyardlaw06_PolicyParts.l1 (k + 1) y0 y1 y2 y3 y4 y5 y6 y7 y8 y9 y10 y11 y12 y13 y14 y15))
 | 0 => ⟨fun _ _ _ _ _ _ _ _ _ _ _ _ _ _ _ _ _ _ _ _ _ _ _ _ r h => by simp [steelyardlaw06_PolicyParts.j0] at h, fun _ _ _ _ _ _ _ _ r h => by simp [steelyardlaw06_PolicyParts.j1] at h, fun _ _ _ _ _ _ _ _ _ r h => by simp [steelyardlaw06_PolicyParts.l0] at h, fun _ _ _ _ _ _ _ _ _ _ _ _ _ _ _ _ r h => by simp [steelyardlaw06_PolicyParts.l1] at h⟩
 | k + 1 => by
  obtain ⟨ih0, ih1, ih2, ih3⟩ := steelyardlaw06_PolicyParts.mono_l k
  refine ⟨?_, ?_, ?_, ?_⟩
  ·intro y0 y1 y2 y3 y4 y5 y6 y7 y8 y9 y10 y11 y12 y13 y14 y15 y16 y17 y18 y19 y20 y21 y22 y23
   unfold steelyardlaw06_PolicyParts.j0
   repeat' first
   | (with_reducible exact ih0 _ _ _ _ _ _ _ _ _ _ _ _ _ _ _ _ _ _ _ _ _ _ _ _)
   | (with_reducible exact ih1 _ _ _ _ _ _ _ _)
   | (with_reducible exact ih2 _ _ _ _ _ _ _ _ _)
   | (with_reducible exact ih3 _ _ _ _ _ _ _ _ _ _ _ _ _ _ _ _)
   | (with_reducible exact policy_Sift.mono _ _ _ _)
   | (with_reducible exact steelyardlaw06_awake.mono _)
   | (with_reducible exact steelyardref03_AlikeLists.mono _ _ _)
   | (with_reducible exact LeO.refl _)
   | (with_reducible exact LeO.none _)
   | (with_reducible refine LeO.ite ?_ ?_)
   | (with_reducible refine LeO.bind ?_ (fun _ => ?_))
   | exact ih0 _ _ _ _ _ _ _ _ _ _ _ _ _ _ _ _ _ _ _ _ _ _ _ _
   | exact ih1 _ _ _ _ _ _ _ _
   | exact ih2 _ _ _ _ _ _ _ _ _
   | exact ih3 _ _ _ _ _ _ _ _ _ _ _ _ _ _ _ _
   | exact policy_Sift.mono _ _ _ _
   | exact steelyardlaw06_awake.mono _
   | exact steelyardref03_AlikeLists.mono _ _ _
   | exact LeO.none _
   | refine LeO.ite ?_ ?_
   | refine LeO.bind ?_ (fun _ => ?_)
  ·intro y0 y1 y2 y3 y4 y5 y6 y7
   unfold steelyardlaw06_PolicyParts.j1
   repeat' first
   | (with_reducible exact ih0 _ _ _ _ _ _ _ _ _ _ _ _ _ _ _ _ _ _ _ _ _ _ _ _)
   | (with_reducible exact ih1 _ _ _ _ _ _ _ _)
   | (with_reducible exact ih2 _ _ _ _ _ _ _ _ _)
   | (with_reducible exact ih3 _ _ _ _ _ _ _ _ _ _ _ _ _ _ _ _)
   | (with_reducible exact policy_Sift.mono _ _ _ _)
   | (with_reducible exact steelyardlaw06_awake.mono _)
   | (with_reducible exact steelyardref03_AlikeLists.mono _ _ _)
   | (with_reducible exact LeO.refl _)
   | (with_reducible exact LeO.none _)
   | (with_reducible refine LeO.ite ?_ ?_)
   | (with_reducible refine LeO.bind ?_ (fun _ => ?_))
   | exact ih0 _ _ _ _ _ _ _ _ _ _ _ _ _ _ _ _ _ _ _ _ _ _ _ _
   | exact ih1 _ _ _ _ _ _ _ _
   | exact ih2 _ _ _ _ _ _ _ _ _
   | exact ih3 _ _ _ _ _ _ _ _ _ _ _ _ _ _ _ _
   | exact policy_Sift.mono _ _ _ _
   | exact steelyardlaw06_awake.mono _
   | exact steelyardref03_AlikeLists.mono _ _ _
   | exact LeO.none _
   | refine LeO.ite ?_ ?_
   | refine LeO.bind ?_ (fun _ => ?_)
  ·intro y0 y1 y2 y3 y4 y5 y6 y7 y8
   unfold steelyardlaw06_PolicyParts.l0
   repeat' first
   | (with_reducible exact ih0 _ _ _ _ _ _ _ _ _ _ _ _ _ _ _ _ _ _ _ _ _ _ _ _)
   | (with_reducible exact ih1 _ _ _ _ _ _ _ _)
   | (with_reducible exact ih2 _ _ _ _ _ _ _ _ _)
   | (with_reducible exact ih3 _ _ _ _ _ _ _ _ _ _ _ _ _ _ _ _)
   | (with_reducible exact policy_Sift.mono _ _ _ _)
   | (with_reducible exact steelyardlaw06_awake.mono _)
   | (with_reducible exact steelyardref03_AlikeLists.mono _ _ _)
   | (with_reducible exact LeO.refl _)
   | (with_reducible exact LeO.none _)
   | (with_reducible refine LeO.ite ?_ ?_)
   | (with_reducible refine LeO.bind ?_ (fun _ => ?_))
   | exact ih0 _ _ _ _ _ _ _ _ _ _ _ _ _ _ _ _ _ _ _ _ _ _ _ _
   | exact ih1 _ _ _ _ _ _ _ _
   | exact ih2 _ _ _ _ _ _ _ _ _
   | exact ih3 _ _ _ _ _ _ _ _ _ _ _ _ _ _ _ _
   | exact policy_Sift.mono _ _ _ _
   | exact steelyardlaw06_awake.mono _
   | exact steelyardref03_AlikeLists.mono _ _ _
   | exact LeO.none _
   | refine LeO.ite ?_ ?_
   | refine LeO.bind ?_ (fun _ => ?_)
  ·intro y0 y1 y2 y3 y4 y5 y6 y7 y8 y9 y10 y11 y12 y13 y14 y15
   unfold steelyardlaw06_PolicyParts.l1
   repeat' first
   | (with_reducible exact ih0 _ _ _ _ _ _ _ _ _ _ _ _ _ _ _ _ _ _ _ _ _ _ _ _)
   | (with_reducible exact ih1 _ _ _ _ _ _ _ _)
   | (with_reducible exact ih2 _ _ _ _ _ _ _ _ _)
   | (with_reducible exact ih3 _ _ _ _ _ _ _ _ _ _ _ _ _ _ _ _)
   | (with_reducible exact policy_Sift.mono _ _ _ _)
   | (with_reducible exact steelyardlaw06_awake.mono _)
   | (with_reducible exact steelyardref03_AlikeLists.mono _ _ _)
   | (with_reducible exact LeO.refl _)
   | (with_reducible exact LeO.none _)
   | (with_reducible refine LeO.ite ?_ ?_)
   | (with_reducible refine LeO.bind ?_ (fun _ => ?_))
   | exact ih0 _ _ _ _ _ _ _ _ _ _ _ _ _ _ _ _ _ _ _ _ _ _ _ _
   | exact ih1 _ _ _ _ _ _ _ _
   | exact ih2 _ _ _ _ _ _ _ _ _
   | exact ih3 _ _ _ _ _ _ _ _ _ _ _ _ _ _ _ _
   | exact policy_Sift.mono _ _ _ _
   | exact steelyardlaw06_awake.mono _
   | exact steelyardref03_AlikeLists.mono _ _ _
   | exact LeO.none _
   | refine LeO.ite ?_ ?_
   | refine LeO.bind ?_ (fun _ => ?_)
theorem steelyardlaw06_PolicyParts.mono : ∀ a0 a1 a2 a3 k, LeO (steelyardlaw06_PolicyParts.f k a0 a1 a2 a3) (steelyardlaw06_PolicyParts.f (k + 1) a0 a1 a2 a3) := by
 intro a0 a1 a2 a3 k
 obtain ⟨ih0, ih1, ih2, ih3⟩ := steelyardlaw06_PolicyParts.mono_l k
 unfold steelyardlaw06_PolicyParts.f
 repeat' first
   | (with_reducible exact ih0 _ _ _ _ _ _ _ _ _ _ _ _ _ _ _ _ _ _ _ _ _ _ _ _)
   | (with_reducible exact ih1 _ _ _ _ _ _ _ _)
   | (with_reducible exact ih2 _ _ _ _ _ _ _ _ _)
   | (with_reducible exact ih3 _ _ _ _ _ _ _ _ _ _ _ _ _ _ _ _)
   | (with_reducible exact policy_Sift.mono _ _ _ _)
   | (with_reducible exact steelyardlaw06_awake.mono _)
   | (with_reducible exact steelyardref03_AlikeLists.mono _ _ _)
   | (with_reducible exact LeO.refl _)
   | (with_reducible exact LeO.none _)
   | (with_reducible refine LeO.ite ?_ ?_)
   | (with_reducible refine LeO.bind ?_ (fun _ => ?_))
   | exact ih0 _ _ _ _ _ _ _ _ _ _ _ _ _ _ _ _ _ _ _ _ _ _ _ _
   | exact ih1 _ _ _ _ _ _ _ _
   | exact ih2 _ _ _ _ _ _ _ _ _
   | exact ih3 _ _ _ _ _ _ _ _ _ _ _ _ _ _ _ _
   | exact policy_Sift.mono _ _ _ _
   | exact steelyardlaw06_awake.mono _
   | exact steelyardref03_AlikeLists.mono _ _ _
   | exact LeO.none _
   | refine LeO.ite ?_ ?_
   | refine LeO.bind ?_ (fun _ => ?_)
def steelyardlaw06_PolicyParts.T17 : Bool × List (List Nat × List Nat) := (true, [([], []), ([], []), ([], []), ([1, 2], [1, 2]), ([0, 3], [0, 3]), ([4, 3], [4]), ([5], [5]), ([5], [5]), ([6, 7, 5, 5], [5, 6, 7]), ([8, 5], [5, 8]), ([5, 9], [5, 9]), ([10, 8], [10]), ([11], [11]), ([12, 11], [11, 12]), ([11], [11]), ([14, 11], [11, 14]), ([13, 15, 11], [11, 13, 15]), ([11], [11]), ([17, 11], [11, 17]), ([16, 18, 11], [11, 16, 18]), ([11], [11]), ([20, 11], [11, 20]), ([19, 21, 11], [11, 19, 21]), ([11], [11]), ([23, 11], [11, 23]), ([22, 24, 11], [11, 22, 24]), ([11, 25], [11, 25]), ([26, 11], [26]), ([27], [27]), ([28, 27], [27, 28]), ([27], [27]), ([30, 27], [27, 30]), ([29, 31, 27], [27, 29, 31]), ([27, 32], [27, 32])])
def steelyardlaw06_PolicyParts.B17 : List Nat := [0, 0, 0, 6, 15, 31, 63, 63, 255, 511, 1023, 2047, 4095, 8191, 4095, 20479, 65535, 4095, 135167, 524287, 4095, 1052671, 4194303, 4095, 8392703, 33554431, 67108863, 134217727, 268435455, 536870911, 268435455, 1342177279, 4294967295, 8589934591]
theorem steelyardlaw06_PolicyParts.tab17 : rtab .any (opsOf Try.f6 17) = steelyardlaw06_PolicyParts.T17 := by kernel_rfl
theorem steelyardlaw06_PolicyParts.bits17 : waitsOk steelyardlaw06_PolicyParts.T17.2 steelyardlaw06_PolicyParts.B17 = true := by kernel_rfl
set_option maxHeartbeats 3000000 in
set_option maxRecDepth 100000 in
theorem steelyardlaw06_PolicyParts.calls (k : Nat) (A0 : Option Addr) (c0 : Nat) (l0 : List Nat) (A1 : Option Addr) (c1 : Nat) (l1 : List Nat) (a2_0 : Int) (a2_1 : Int) (r : Bool) (w : World) (hr0 : Kd.C (Kd.float .f64) w A0 l0.length l0) (hc0 : l0.length ≤ c0) (hr1 : Kd.C (Kd.float .f64) w A1 l1.length l1) (hc1 : l1.length ≤ c1) (h : steelyardlaw06_PolicyParts.f k l0 l1 a2_0 a2_1 = some r) :
  Calls Try.prog 6 #[.slice A0 l0.length c0, .slice A1 l1.length c1, .agg #[.int .i64 a2_0, .int .i64 a2_1]] w fun e w' => e = .returned (.bool r) ∧ Below w.heap.size w w' := by
 have hu23 := Try.underlying23
 have hu30 := Try.underlying30
 have HR0 := Aside0.mk hr0
 have HC0 := Aside0.mk hc0
 clear hr0 hc0
 have HR1 := Aside0.mk hr1
 have HC1 := Aside0.mk hc1
 clear hr1 hc1
 have HB := Aside0.mk (Below.refl w.heap.size w)
 have H : ((steelyardlaw06_awake.f k).bind fun t245 => (if t245 = true then (if ([] : List Nat).length + l0.length < 17592186044416 then ((some (([] : List Nat) ++ l0 : List Nat)).bind fun y246 => (if y246.length + l1.length < 17592186044416 then ((some (y246 ++ l1 : List Nat)).bind fun y249 => ((policy_Sift.f k l0 a2_0 a2_1).bind fun bt252 => ((policy_Sift.f k l1 a2_0 a2_1).bind fun bt263 => ((policy_Sift.f k y249 a2_0 a2_1).bind fun bt274 => (if bt252.2.2.2.2.2.2.2 = 0 then (steelyardlaw06_PolicyParts.j0 k y249 bt252.1 bt263.1 bt274.1 bt274.2.2.2.2.2.2.2 (bt263.2.2.2.2.2.2.2 != 0) bt252.2.1 bt252.2.2.1 bt252.2.2.2.1 bt252.2.2.2.2.1 bt252.2.2.2.2.2.1 bt252.2.2.2.2.2.2.1 bt263.2.1 bt263.2.2.1 bt263.2.2.2.1 bt263.2.2.2.2.1 bt263.2.2.2.2.2.1 bt263.2.2.2.2.2.2.1 bt274.2.1 bt274.2.2.1 bt274.2.2.2.1 bt274.2.2.2.2.1 bt274.2.2.2.2.2.1 bt274.2.2.2.2.2.2.1) else (steelyardlaw06_PolicyParts.j0 k y249 bt252.1 bt263.1 bt274.1 bt274.2.2.2.2.2.2.2 true bt252.2.1 bt252.2.2.1 bt252.2.2.2.1 bt252.2.2.2.2.1 bt252.2.2.2.2.2.1 bt252.2.2.2.2.2.2.1 bt263.2.1 bt263.2.2.1 bt263.2.2.2.1 bt263.2.2.2.2.1 bt263.2.2.2.2.2.1 bt263.2.2.2.2.2.2.1 bt274.2.1 bt274.2.2.1 bt274.2.2.2.1 bt274.2.2.2.2.1 bt274.2.2.2.2.2.1 bt274.2.2.2.2.2.2.1)))))) else (none))) else (none)) else (none))) = some r := h
 clear h
 obtain ⟨t245, A4, H⟩ := ob_ H
 try dsimp only at H
 by_cases c5 : t245 = true
 ·subst c5
  have H1 : (if ([] : List Nat).length + l0.length < 17592186044416 then ((some (([] : List Nat) ++ l0 : List Nat)).bind fun y246 => (if y246.length + l1.length < 17592186044416 then ((some (y246 ++ l1 : List Nat)).bind fun y249 => ((policy_Sift.f k l0 a2_0 a2_1).bind fun bt252 => ((policy_Sift.f k l1 a2_0 a2_1).bind fun bt263 => ((policy_Sift.f k y249 a2_0 a2_1).bind fun bt274 => (if bt252.2.2.2.2.2.2.2 = 0 then (steelyardlaw06_PolicyParts.j0 k y249 bt252.1 bt263.1 bt274.1 bt274.2.2.2.2.2.2.2 (bt263.2.2.2.2.2.2.2 != 0) bt252.2.1 bt252.2.2.1 bt252.2.2.2.1 bt252.2.2.2.2.1 bt252.2.2.2.2.2.1 bt252.2.2.2.2.2.2.1 bt263.2.1 bt263.2.2.1 bt263.2.2.2.1 bt263.2.2.2.2.1 bt263.2.2.2.2.2.1 bt263.2.2.2.2.2.2.1 bt274.2.1 bt274.2.2.1 bt274.2.2.2.1 bt274.2.2.2.2.1 bt274.2.2.2.2.2.1 bt274.2.2.2.2.2.2.1) else (steelyardlaw06_PolicyParts.j0 k y249 bt252.1 bt263.1 bt274.1 bt274.2.2.2.2.2.2.2 true bt252.2.1 bt252.2.2.1 bt252.2.2.2.1 bt252.2.2.2.2.1 bt252.2.2.2.2.2.1 bt252.2.2.2.2.2.2.1 bt263.2.1 bt263.2.2.1 bt263.2.2.2.1 bt263.2.2.2.2.1 bt263.2.2.2.2.2.1 bt263.2.2.2.2.2.2.1 bt274.2.1 bt274.2.2.1 bt274.2.2.2.1 bt274.2.2.2.2.1 bt274.2.2.2.2.2.1 bt274.2.2.2.2.2.2.1)))))) else (none))) else (none)) = some r := by rw [if_pos rfl] at H; exact H
  clear H
  have H := H1
  clear H1
  by_cases c6 : ([] : List Nat).length + l0.length < 17592186044416
  ·rw [if_pos c6] at H
   have LMc6 := Aside0.mk c6
   clear c6
   obtain ⟨y246, hy246⟩ : ∃ y_ : List Nat, y_ = (([] : List Nat) ++ l0) := ⟨_, rfl⟩
   replace H : (if y246.length + l1.length < 17592186044416 then ((some (y246 ++ l1 : List Nat)).bind fun y249 => ((policy_Sift.f k l0 a2_0 a2_1).bind fun bt252 => ((policy_Sift.f k l1 a2_0 a2_1).bind fun bt263 => ((policy_Sift.f k y249 a2_0 a2_1).bind fun bt274 => (if bt252.2.2.2.2.2.2.2 = 0 then (steelyardlaw06_PolicyParts.j0 k y249 bt252.1 bt263.1 bt274.1 bt274.2.2.2.2.2.2.2 (bt263.2.2.2.2.2.2.2 != 0) bt252.2.1 bt252.2.2.1 bt252.2.2.2.1 bt252.2.2.2.2.1 bt252.2.2.2.2.2.1 bt252.2.2.2.2.2.2.1 bt263.2.1 bt263.2.2.1 bt263.2.2.2.1 bt263.2.2.2.2.1 bt263.2.2.2.2.2.1 bt263.2.2.2.2.2.2.1 bt274.2.1 bt274.2.2.1 bt274.2.2.2.1 bt274.2.2.2.2.1 bt274.2.2.2.2.2.1 bt274.2.2.2.2.2.2.1) else (steelyardlaw06_PolicyParts.j0 k y249 bt252.1 bt263.1 bt274.1 bt274.2.2.2.2.2.2.2 true bt252.2.1 bt252.2.2.1 bt252.2.2.2.1 bt252.2.2.2.2.1 bt252.2.2.2.2.2.1 bt252.2.2.2.2.2.2.1 bt263.2.1 bt263.2.2.1 bt263.2.2.2.1 bt263.2.2.2.2.1 bt263.2.2.2.2.2.1 bt263.2.2.2.2.2.2.1 bt274.2.1 bt274.2.2.1 bt274.2.2.2.1 bt274.2.2.2.2.1 bt274.2.2.2.2.2.1 bt274.2.2.2.2.2.2.1)))))) else (none)) = some r := by first | (rw [hy246]; with_reducible exact H) | (have H2_ := (Option.bind_some _ _).symm.trans H; rw [hy246]; with_reducible exact H2_) | (have H2_ := (Option.bind_some _ _).symm.trans H; with_reducible exact H2_) | with_reducible exact H | (rw [hy246]; exact H) | exact H
   have Ny246 := Aside0.mk hy246
   clear hy246
   by_cases c7 : y246.length + l1.length < 17592186044416
   ·rw [if_pos c7] at H
    have LMc7 := Aside0.mk c7
    clear c7
    obtain ⟨y249, hy249⟩ : ∃ y_ : List Nat, y_ = (y246 ++ l1) := ⟨_, rfl⟩
    replace H : ((policy_Sift.f k l0 a2_0 a2_1).bind fun bt252 => ((policy_Sift.f k l1 a2_0 a2_1).bind fun bt263 => ((policy_Sift.f k y249 a2_0 a2_1).bind fun bt274 => (if bt252.2.2.2.2.2.2.2 = 0 then (steelyardlaw06_PolicyParts.j0 k y249 bt252.1 bt263.1 bt274.1 bt274.2.2.2.2.2.2.2 (bt263.2.2.2.2.2.2.2 != 0) bt252.2.1 bt252.2.2.1 bt252.2.2.2.1 bt252.2.2.2.2.1 bt252.2.2.2.2.2.1 bt252.2.2.2.2.2.2.1 bt263.2.1 bt263.2.2.1 bt263.2.2.2.1 bt263.2.2.2.2.1 bt263.2.2.2.2.2.1 bt263.2.2.2.2.2.2.1 bt274.2.1 bt274.2.2.1 bt274.2.2.2.1 bt274.2.2.2.2.1 bt274.2.2.2.2.2.1 bt274.2.2.2.2.2.2.1) else (steelyardlaw06_PolicyParts.j0 k y249 bt252.1 bt263.1 bt274.1 bt274.2.2.2.2.2.2.2 true bt252.2.1 bt252.2.2.1 bt252.2.2.2.1 bt252.2.2.2.2.1 bt252.2.2.2.2.2.1 bt252.2.2.2.2.2.2.1 bt263.2.1 bt263.2.2.1 bt263.2.2.2.1 bt263.2.2.2.2.1 bt263.2.2.2.2.2.1 bt263.2.2.2.2.2.2.1 bt274.2.1 bt274.2.2.1 bt274.2.2.2.1 bt274.2.2.2.2.1 bt274.2.2.2.2.2.1 bt274.2.2.2.2.2.2.1))))) = some r := by first | (rw [hy249]; with_reducible exact H) | (have H2_ := (Option.bind_some _ _).symm.trans H; rw [hy249]; with_reducible exact H2_) | (have H2_ := (Option.bind_some _ _).symm.trans H; with_reducible exact H2_) | with_reducible exact H | (rw [hy249]; exact H) | exact H
    have Ny249 := Aside0.mk hy249
    clear hy249
    obtain ⟨⟨t252, t255, t256, t257, t258, t259, t260, t261⟩, A8, H⟩ := ob_ H
    try dsimp only at H
    obtain ⟨⟨t263, t266, t267, t268, t269, t270, t271, t272⟩, A9, H⟩ := ob_ H
    try dsimp only at H
    obtain ⟨⟨t274, t277, t278, t279, t280, t281, t282, t283⟩, A10, H⟩ := ob_ H
    try dsimp only at H
    have HC11 := Aside0.mk H
    clear H
    go_enter Try.func6, Try.ntmps6
    go_upto_region 10 with (first | ((with_reducible refine gate_dst (N := 5) rfl ?_); (try (refine gate_guard (by rfl) ?_; dsimp only)); refine box_event ?hg (N := 5) ?hd (cs := #[.int .i64 a2_0, .int .i64 a2_1]) (t := 23) ?hr ?_; (case hd => rfl); (case hg => rfl); (case hr => first | (go_simp; done) | (go_simp; rfl)); intro gb244 hg w12 hbox hb; have n0_ := bs_ HB hb; have n1_ := Aside0.mk (hbox); have n2_ := ge_ HB hg; have n3_ := ge_ HB hg; clear HB; have HB := n0_; have BK244 := n1_; have GW244 := n2_; have GE244 := n3_; clear n0_ n1_ n2_ n3_; clear hb hbox hg) | ((with_reducible refine gate_callee (f := 7) rfl ?_); refine goesM (some 26) Try.func7 #[] ?_; (with_reducible refine (steelyardlaw06_awake.calls k  true _ A4.out).mono ?_); rintro e w13 ⟨rfl, hb⟩; refine ⟨_, rfl, ?_⟩; have n0_ := kb_ BK244 hb; have n1_ := bs_ HB hb; clear BK244; clear HB; have BK244 := n0_; have HB := n1_; clear n0_ n1_; (try clear hb); (try clear hb2); (try clear hk); (try clear hi)) | ((with_reducible refine gate_builtin (b := .append) (xs := #[.tmp 29, .tmp 30]) rfl ?_); (try (refine gate_guard (by rfl) ?_; dsimp only)); at_builtin; refine Kd.R_append_rows (Kd.float .f64) (w0 := w) w.heap.size rfl (.tmp 29) (.tmp 30) 27 41 (.float .f64 0) 8 rfl Try.underlying27 info41 rfl (by decide) (by omega) (.slice none 0 0) ([] : List Nat) l0 _ _ _ (fun _ => True) (fun _ => False) rfl rfl ?aO ?aR (fun _ _ h => h) (fun _ h => h.elim) ?aF ?aB ?aS ?aL ?_; (case aR => repeat (first | exact (Kd.C_below HR0.out HB.out) | (with_reducible first | apply cA | apply cN | apply cD))); (case aB => exact (bl_ HB)); (case aF => exact (fun _ _ => trivial)); (case aO => exact ((Kd.R_nil _ _ _ _ (fun _ => True)))); (case aS => exact (below_size (bl_ HB))); (case aL => have := LMc6.out; omega); intro v247 w14 ho hb hg hat; rw [← Ny246.out] at ho; have n0_ := Aside0.mk (blk_grown (g := gb244) (o := .cells #[.int .i64 a2_0, .int .i64 a2_1] 23 (0, 0)) (bk_ BK244) hg (by simp [Value.ownBlock])); have n1_ := Aside0.mk (hb); have n2_ := Aside0.mk (ho); clear BK244; clear HB; have BK244 := n0_; have HB := n1_; have HO248 := n2_; clear n0_ n1_ n2_; clear ho hb hg hat) | ((with_reducible refine gate_builtin (b := .append) (xs := #[.tmp 32, .tmp 33]) rfl ?_); (try (refine gate_guard (by rfl) ?_; dsimp only)); at_builtin; refine Kd.R_append_rows (Kd.float .f64) (w0 := w) w.heap.size rfl (.tmp 32) (.tmp 33) 27 41 (.float .f64 0) 8 rfl Try.underlying27 info41 rfl (by decide) (by omega) v247 y246 l1 _ _ _ (fun _ => True) (fun _ => False) rfl rfl ?aO ?aR (fun _ _ h => h) (fun _ h => h.elim) ?aF ?aB ?aS ?aL ?_; (case aR => repeat (first | exact (Kd.C_below HR1.out HB.out) | (with_reducible first | apply cA | apply cN | apply cD))); (case aB => exact (bl_ HB)); (case aF => exact (fun _ _ => trivial)); (case aO => exact (by (with_reducible repeat (first | apply rA | apply rN | apply rD)); exact HO248.out)); (case aS => exact (below_size (bl_ HB))); (case aL => have := LMc7.out; omega); intro v250 w15 ho hb hg hat; rw [← Ny249.out] at ho; have n0_ := Aside0.mk (blk_grown (g := gb244) (o := .cells #[.int .i64 a2_0, .int .i64 a2_1] 23 (0, 0)) (bk_ BK244) hg (Kd.R_ne HO248.out BK244.out (by decide))); have n1_ := Aside0.mk (hb); have n2_ := Aside0.mk (ho); clear BK244; clear HB; clear HO248; have BK244 := n0_; have HB := n1_; have HO251 := n2_; clear n0_ n1_ n2_; clear ho hb hg hat; have hcz16_0 : w15.cell? ⟨gb244, 0, none⟩ = some (.int .i64 a2_0) := (blk_cell BK244.out 0).trans rfl; have hcz16_1 : w15.cell? ⟨gb244, 1, none⟩ = some (.int .i64 a2_1) := (blk_cell BK244.out 1).trans rfl; have hfz16_0 := blk_frozen BK244.out 0; have hfz16_1 := blk_frozen BK244.out 1) | ((with_reducible refine gate_callee (f := 12) rfl ?_); refine goesM (some 38) Try.func12 #[.slice A0 l0.length c0, .agg #[.int .i64 a2_0, .int .i64 a2_1]] ?_; (with_reducible refine (policy_Sift.calls k _ _ l0 a2_0 a2_1 t252 t255 t256 t257 t258 t259 t260 t261 _ ?side1 ?side2 A8.out).mono ?_); (case side1 => repeat (first | exact (Kd.C_below HR0.out HB.out) | (with_reducible first | apply cA | apply cN | apply cD))); (case side2 => exact HC0.out); rintro e w17 ⟨v253, rfl, ho0, hb⟩; refine ⟨_, rfl, ?_⟩; have n0_ := Aside0.mk (Kd.R_elder' (by (with_reducible repeat (first | apply rA | apply rN | apply rD)); exact HO251.out) (Kd.R_base ho0) hb); have n1_ := Aside0.mk (Kd.R_lower (Kd.R_new' ho0 (Kd.R_lt (by (with_reducible repeat (first | apply rA | apply rN | apply rD)); exact HO251.out))) (below_size (bl_ HB))); have n2_ := kb_ BK244 hb; have n3_ := bs_ HB hb; clear HO251; clear BK244; clear HB; have HO251 := n0_; have HO254 := n1_; have BK244 := n2_; have HB := n3_; clear n0_ n1_ n2_ n3_; (try clear hb); (try clear hb2); (try clear hk); (try clear hi); (try clear ho0)) | ((with_reducible refine gate_dst (N := 10) rfl ?_); (try (refine gate_guard (by rfl) ?_; dsimp only)); refine box_event ?hg (N := 10) ?hd (cs := #[.int .i64 0, .int .i64 0, .int .i64 0, .int .i64 0, .int .i64 0, .int .i64 0]) (t := 30) ?hr ?_; (case hd => rfl); (case hg => rfl); (case hr => first | (go_simp; done) | (go_simp; rfl)); intro gb262 hg w18 hbox hb; have n0_ := Aside0.mk (Kd.R_below (by (with_reducible repeat (first | apply rA | apply rN | apply rD)); exact HO251.out) hb); have n1_ := Aside0.mk (Kd.R_below (by (with_reducible repeat (first | apply rA | apply rN | apply rD)); exact HO254.out) hb); have n2_ := kb_ BK244 hb; have n3_ := bs_ HB hb; have n4_ := Aside0.mk (hbox); have n5_ := ge_ HB hg; have n6_ := ge_ HB hg; have n7_ := nlt_ BK244 hg; have n8_ := ngt_ BK244 hg; clear HO251; clear HO254; clear BK244; clear HB; have HO251 := n0_; have HO254 := n1_; have BK244 := n2_; have HB := n3_; have BK262 := n4_; have GW262 := n5_; have GE262 := n6_; have NB244_262 := n7_; have NB262_244 := n8_; clear n0_ n1_ n2_ n3_ n4_ n5_ n6_ n7_ n8_; clear hb hbox hg; have hnb19 := NB262_244.out; have hnc19 := NB244_262.out; have hcz20_0 : w18.cell? ⟨gb262, 0, none⟩ = some (.int .i64 0) := (blk_cell BK262.out 0).trans rfl; have hcz20_1 : w18.cell? ⟨gb262, 1, none⟩ = some (.int .i64 0) := (blk_cell BK262.out 1).trans rfl; have hcz20_2 : w18.cell? ⟨gb262, 2, none⟩ = some (.int .i64 0) := (blk_cell BK262.out 2).trans rfl; have hcz20_3 : w18.cell? ⟨gb262, 3, none⟩ = some (.int .i64 0) := (blk_cell BK262.out 3).trans rfl; have hcz20_4 : w18.cell? ⟨gb262, 4, none⟩ = some (.int .i64 0) := (blk_cell BK262.out 4).trans rfl; have hcz20_5 : w18.cell? ⟨gb262, 5, none⟩ = some (.int .i64 0) := (blk_cell BK262.out 5).trans rfl; have hfz20_0 := blk_frozen BK262.out 0; have hfz20_1 := blk_frozen BK262.out 1; have hfz20_2 := blk_frozen BK262.out 2; have hfz20_3 := blk_frozen BK262.out 3; have hfz20_4 := blk_frozen BK262.out 4; have hfz20_5 := blk_frozen BK262.out 5; have hcz21_0 : w18.cell? ⟨gb244, 0, none⟩ = some (.int .i64 a2_0) := (blk_cell BK244.out 0).trans rfl; have hcz21_1 : w18.cell? ⟨gb244, 1, none⟩ = some (.int .i64 a2_1) := (blk_cell BK244.out 1).trans rfl; have hfz21_0 := blk_frozen BK244.out 0; have hfz21_1 := blk_frozen BK244.out 1) | ((with_reducible refine gate_callee (f := 12) rfl ?_); refine goesM (some 45) Try.func12 #[.slice A1 l1.length c1, .agg #[.int .i64 a2_0, .int .i64 a2_1]] ?_; (with_reducible refine (policy_Sift.calls k _ _ l1 a2_0 a2_1 t263 t266 t267 t268 t269 t270 t271 t272 _ ?side1 ?side2 A9.out).mono ?_); (case side1 => exact Kd.C_below HR1.out (bl_ HB)); (case side2 => exact HC1.out); rintro e w22 ⟨v264, rfl, ho0, hb⟩; refine ⟨_, rfl, ?_⟩; have n0_ := Aside0.mk (Kd.R_elder' (by (with_reducible repeat (first | apply rA | apply rN | apply rD)); exact (Kd.R_mono (Kd.R_far (p := ⟨gb262, 5, none⟩) (Kd.R_far (p := ⟨gb262, 4, none⟩) (Kd.R_far (p := ⟨gb262, 3, none⟩) (Kd.R_far (p := ⟨gb262, 2, none⟩) (Kd.R_far (p := ⟨gb262, 1, none⟩) (Kd.R_far (p := ⟨gb262, 0, none⟩) (Kd.R_types HO251.out BK262.out (by decide)) (fun _ hk => hk.2) (.int .i64 t255)) (fun _ hk => hk.2) (.int .i64 t256)) (fun _ hk => hk.2) (.int .i64 t257)) (fun _ hk => hk.2) (.int .i64 t258)) (fun _ hk => hk.2) (.int .i64 t259)) (fun _ hk => hk.2) (.int .i64 t260)) (fun _ h_ => h_.1))) (Kd.R_base ho0) hb); have n1_ := Aside0.mk (Kd.R_elder' (by (with_reducible repeat (first | apply rA | apply rN | apply rD)); exact (Kd.R_mono (Kd.R_far (p := ⟨gb262, 5, none⟩) (Kd.R_far (p := ⟨gb262, 4, none⟩) (Kd.R_far (p := ⟨gb262, 3, none⟩) (Kd.R_far (p := ⟨gb262, 2, none⟩) (Kd.R_far (p := ⟨gb262, 1, none⟩) (Kd.R_far (p := ⟨gb262, 0, none⟩) (Kd.R_types HO254.out BK262.out (by decide)) (fun _ hk => hk.2) (.int .i64 t255)) (fun _ hk => hk.2) (.int .i64 t256)) (fun _ hk => hk.2) (.int .i64 t257)) (fun _ hk => hk.2) (.int .i64 t258)) (fun _ hk => hk.2) (.int .i64 t259)) (fun _ hk => hk.2) (.int .i64 t260)) (fun _ h_ => h_.1))) (Kd.R_base ho0) hb); have n2_ := Aside0.mk (Kd.R_lower (Kd.R_new' (Kd.R_new' ho0 (Kd.R_lt (by (with_reducible repeat (first | apply rA | apply rN | apply rD)); exact (Kd.R_mono (Kd.R_far (p := ⟨gb262, 5, none⟩) (Kd.R_far (p := ⟨gb262, 4, none⟩) (Kd.R_far (p := ⟨gb262, 3, none⟩) (Kd.R_far (p := ⟨gb262, 2, none⟩) (Kd.R_far (p := ⟨gb262, 1, none⟩) (Kd.R_far (p := ⟨gb262, 0, none⟩) (Kd.R_types HO251.out BK262.out (by decide)) (fun _ hk => hk.2) (.int .i64 t255)) (fun _ hk => hk.2) (.int .i64 t256)) (fun _ hk => hk.2) (.int .i64 t257)) (fun _ hk => hk.2) (.int .i64 t258)) (fun _ hk => hk.2) (.int .i64 t259)) (fun _ hk => hk.2) (.int .i64 t260)) (fun _ h_ => h_.1))))) (Kd.R_lt (by (with_reducible repeat (first | apply rA | apply rN | apply rD)); exact (Kd.R_mono (Kd.R_far (p := ⟨gb262, 5, none⟩) (Kd.R_far (p := ⟨gb262, 4, none⟩) (Kd.R_far (p := ⟨gb262, 3, none⟩) (Kd.R_far (p := ⟨gb262, 2, none⟩) (Kd.R_far (p := ⟨gb262, 1, none⟩) (Kd.R_far (p := ⟨gb262, 0, none⟩) (Kd.R_types HO254.out BK262.out (by decide)) (fun _ hk => hk.2) (.int .i64 t255)) (fun _ hk => hk.2) (.int .i64 t256)) (fun _ hk => hk.2) (.int .i64 t257)) (fun _ hk => hk.2) (.int .i64 t258)) (fun _ hk => hk.2) (.int .i64 t259)) (fun _ hk => hk.2) (.int .i64 t260)) (fun _ h_ => h_.1))))) (below_size (bl_ HB))); have n3_ := Aside0.mk (blk_below (g := gb244) (o := .cells #[.int .i64 a2_0, .int .i64 a2_1] 23 (0, 0)) (by (with_reducible repeat (first | apply bN | apply bD | apply bA)); refine blk_far ?_ NB244_262.out _; (with_reducible repeat (first | apply bN | apply bD | apply bA)); refine blk_far ?_ NB244_262.out _; (with_reducible repeat (first | apply bN | apply bD | apply bA)); refine blk_far ?_ NB244_262.out _; (with_reducible repeat (first | apply bN | apply bD | apply bA)); refine blk_far ?_ NB244_262.out _; (with_reducible repeat (first | apply bN | apply bD | apply bA)); refine blk_far ?_ NB244_262.out _; (with_reducible repeat (first | apply bN | apply bD | apply bA)); refine blk_far ?_ NB244_262.out _; (with_reducible repeat (first | apply bN | apply bD | apply bA)); exact BK244.out) hb); have n4_ := Aside0.mk (blk_below (g := gb262) (o := .cells #[.int .i64 t255, .int .i64 t256, .int .i64 t257, .int .i64 t258, .int .i64 t259, .int .i64 t260] 30 (0, 0)) (by (with_reducible repeat (first | apply bN | apply bD | apply bA)); refine blk_put (cs := #[.int .i64 t255, .int .i64 t256, .int .i64 t257, .int .i64 t258, .int .i64 t259, .int .i64 0]) ?_ 5 _ rfl; (with_reducible repeat (first | apply bN | apply bD | apply bA)); refine blk_put (cs := #[.int .i64 t255, .int .i64 t256, .int .i64 t257, .int .i64 t258, .int .i64 0, .int .i64 0]) ?_ 4 _ rfl; (with_reducible repeat (first | apply bN | apply bD | apply bA)); refine blk_put (cs := #[.int .i64 t255, .int .i64 t256, .int .i64 t257, .int .i64 0, .int .i64 0, .int .i64 0]) ?_ 3 _ rfl; (with_reducible repeat (first | apply bN | apply bD | apply bA)); refine blk_put (cs := #[.int .i64 t255, .int .i64 t256, .int .i64 0, .int .i64 0, .int .i64 0, .int .i64 0]) ?_ 2 _ rfl; (with_reducible repeat (first | apply bN | apply bD | apply bA)); refine blk_put (cs := #[.int .i64 t255, .int .i64 0, .int .i64 0, .int .i64 0, .int .i64 0, .int .i64 0]) ?_ 1 _ rfl; (with_reducible repeat (first | apply bN | apply bD | apply bA)); refine blk_put (cs := #[.int .i64 0, .int .i64 0, .int .i64 0, .int .i64 0, .int .i64 0, .int .i64 0]) ?_ 0 _ rfl; (with_reducible repeat (first | apply bN | apply bD | apply bA)); exact BK262.out) hb); have n5_ := bs_ HB hb; clear HO251; clear HO254; clear BK244; clear BK262; clear HB; have HO251 := n0_; have HO254 := n1_; have HO265 := n2_; have BK244 := n3_; have BK262 := n4_; have HB := n5_; clear n0_ n1_ n2_ n3_ n4_ n5_; (try clear hb); (try clear hb2); (try clear hk); (try clear hi); (try clear ho0)) | ((with_reducible refine gate_dst (N := 13) rfl ?_); (try (refine gate_guard (by rfl) ?_; dsimp only)); refine box_event ?hg (N := 13) ?hd (cs := #[.int .i64 0, .int .i64 0, .int .i64 0, .int .i64 0, .int .i64 0, .int .i64 0]) (t := 30) ?hr ?_; (case hd => rfl); (case hg => rfl); (case hr => first | (go_simp; done) | (go_simp; rfl)); intro gb273 hg w23 hbox hb; have n0_ := Aside0.mk (Kd.R_below (by (with_reducible repeat (first | apply rA | apply rN | apply rD)); exact HO251.out) hb); have n1_ := Aside0.mk (Kd.R_below (by (with_reducible repeat (first | apply rA | apply rN | apply rD)); exact HO254.out) hb); have n2_ := Aside0.mk (Kd.R_below (by (with_reducible repeat (first | apply rA | apply rN | apply rD)); exact HO265.out) hb); have n3_ := kb_ BK244 hb; have n4_ := kb_ BK262 hb; have n5_ := bs_ HB hb; have n6_ := Aside0.mk (hbox); have n7_ := ge_ HB hg; have n8_ := ge_ HB hg; have n9_ := nlt_ BK244 hg; have n10_ := ngt_ BK244 hg; have n11_ := nlt_ BK262 hg; have n12_ := ngt_ BK262 hg; clear HO251; clear HO254; clear HO265; clear BK244; clear BK262; clear HB; have HO251 := n0_; have HO254 := n1_; have HO265 := n2_; have BK244 := n3_; have BK262 := n4_; have HB := n5_; have BK273 := n6_; have GW273 := n7_; have GE273 := n8_; have NB244_273 := n9_; have NB273_244 := n10_; have NB262_273 := n11_; have NB273_262 := n12_; clear n0_ n1_ n2_ n3_ n4_ n5_ n6_ n7_ n8_ n9_ n10_ n11_ n12_; clear hb hbox hg; have hnb24 := NB273_244.out; have hnc24 := NB244_273.out; have hnb25 := NB273_262.out; have hnc25 := NB262_273.out; have hcz26_0 : w23.cell? ⟨gb273, 0, none⟩ = some (.int .i64 0) := (blk_cell BK273.out 0).trans rfl; have hcz26_1 : w23.cell? ⟨gb273, 1, none⟩ = some (.int .i64 0) := (blk_cell BK273.out 1).trans rfl; have hcz26_2 : w23.cell? ⟨gb273, 2, none⟩ = some (.int .i64 0) := (blk_cell BK273.out 2).trans rfl; have hcz26_3 : w23.cell? ⟨gb273, 3, none⟩ = some (.int .i64 0) := (blk_cell BK273.out 3).trans rfl; have hcz26_4 : w23.cell? ⟨gb273, 4, none⟩ = some (.int .i64 0) := (blk_cell BK273.out 4).trans rfl; have hcz26_5 : w23.cell? ⟨gb273, 5, none⟩ = some (.int .i64 0) := (blk_cell BK273.out 5).trans rfl; have hfz26_0 := blk_frozen BK273.out 0; have hfz26_1 := blk_frozen BK273.out 1; have hfz26_2 := blk_frozen BK273.out 2; have hfz26_3 := blk_frozen BK273.out 3; have hfz26_4 := blk_frozen BK273.out 4; have hfz26_5 := blk_frozen BK273.out 5; have hcz27_0 : w23.cell? ⟨gb244, 0, none⟩ = some (.int .i64 a2_0) := (blk_cell BK244.out 0).trans rfl; have hcz27_1 : w23.cell? ⟨gb244, 1, none⟩ = some (.int .i64 a2_1) := (blk_cell BK244.out 1).trans rfl; have hfz27_0 := blk_frozen BK244.out 0; have hfz27_1 := blk_frozen BK244.out 1; obtain ⟨Ao28, co28, eo28⟩ := Kd.R_slice HO251.out; subst eo28) | ((with_reducible refine gate_callee (f := 12) rfl ?_); refine goesM (some 52) Try.func12 #[.slice Ao28 y249.length co28, .agg #[.int .i64 a2_0, .int .i64 a2_1]] ?_; (with_reducible refine (policy_Sift.calls k _ _ y249 a2_0 a2_1 t274 t277 t278 t279 t280 t281 t282 t283 _ ?side1 ?side2 A10.out).mono ?_); (case side1 => refine (Kd.R_reads' (e := 41) (base := w.heap.size) (ok := fun k_ => ((True ∧ some k_ ≠ (v253 : Value).ownBlock) ∧ some k_ ≠ (v264 : Value).ownBlock)) (n := y249.length) (c := co28) ?_).2.2; exact (by (with_reducible repeat (first | apply rA | apply rN | apply rD)); exact (Kd.R_mono (Kd.R_far (p := ⟨gb273, 5, none⟩) (Kd.R_far (p := ⟨gb273, 4, none⟩) (Kd.R_far (p := ⟨gb273, 3, none⟩) (Kd.R_far (p := ⟨gb273, 2, none⟩) (Kd.R_far (p := ⟨gb273, 1, none⟩) (Kd.R_far (p := ⟨gb273, 0, none⟩) (Kd.R_types HO251.out BK273.out (by decide)) (fun _ hk => hk.2) (.int .i64 t266)) (fun _ hk => hk.2) (.int .i64 t267)) (fun _ hk => hk.2) (.int .i64 t268)) (fun _ hk => hk.2) (.int .i64 t269)) (fun _ hk => hk.2) (.int .i64 t270)) (fun _ hk => hk.2) (.int .i64 t271)) (fun _ h_ => h_.1)))); (case side2 => exact (Kd.R_reads' HO251.out).2.1); rintro e w29 ⟨v275, rfl, ho0, hb⟩; refine ⟨_, rfl, ?_⟩; have n0_ := Aside0.mk (Kd.R_elder' (by (with_reducible repeat (first | apply rA | apply rN | apply rD)); exact (Kd.R_mono (Kd.R_far (p := ⟨gb273, 5, none⟩) (Kd.R_far (p := ⟨gb273, 4, none⟩) (Kd.R_far (p := ⟨gb273, 3, none⟩) (Kd.R_far (p := ⟨gb273, 2, none⟩) (Kd.R_far (p := ⟨gb273, 1, none⟩) (Kd.R_far (p := ⟨gb273, 0, none⟩) (Kd.R_types HO251.out BK273.out (by decide)) (fun _ hk => hk.2) (.int .i64 t266)) (fun _ hk => hk.2) (.int .i64 t267)) (fun _ hk => hk.2) (.int .i64 t268)) (fun _ hk => hk.2) (.int .i64 t269)) (fun _ hk => hk.2) (.int .i64 t270)) (fun _ hk => hk.2) (.int .i64 t271)) (fun _ h_ => h_.1))) (Kd.R_base ho0) hb); have n1_ := Aside0.mk (Kd.R_elder' (by (with_reducible repeat (first | apply rA | apply rN | apply rD)); exact (Kd.R_mono (Kd.R_far (p := ⟨gb273, 5, none⟩) (Kd.R_far (p := ⟨gb273, 4, none⟩) (Kd.R_far (p := ⟨gb273, 3, none⟩) (Kd.R_far (p := ⟨gb273, 2, none⟩) (Kd.R_far (p := ⟨gb273, 1, none⟩) (Kd.R_far (p := ⟨gb273, 0, none⟩) (Kd.R_types HO254.out BK273.out (by decide)) (fun _ hk => hk.2) (.int .i64 t266)) (fun _ hk => hk.2) (.int .i64 t267)) (fun _ hk => hk.2) (.int .i64 t268)) (fun _ hk => hk.2) (.int .i64 t269)) (fun _ hk => hk.2) (.int .i64 t270)) (fun _ hk => hk.2) (.int .i64 t271)) (fun _ h_ => h_.1))) (Kd.R_base ho0) hb); have n2_ := Aside0.mk (Kd.R_elder' (by (with_reducible repeat (first | apply rA | apply rN | apply rD)); exact (Kd.R_mono (Kd.R_far (p := ⟨gb273, 5, none⟩) (Kd.R_far (p := ⟨gb273, 4, none⟩) (Kd.R_far (p := ⟨gb273, 3, none⟩) (Kd.R_far (p := ⟨gb273, 2, none⟩) (Kd.R_far (p := ⟨gb273, 1, none⟩) (Kd.R_far (p := ⟨gb273, 0, none⟩) (Kd.R_types HO265.out BK273.out (by decide)) (fun _ hk => hk.2) (.int .i64 t266)) (fun _ hk => hk.2) (.int .i64 t267)) (fun _ hk => hk.2) (.int .i64 t268)) (fun _ hk => hk.2) (.int .i64 t269)) (fun _ hk => hk.2) (.int .i64 t270)) (fun _ hk => hk.2) (.int .i64 t271)) (fun _ h_ => h_.1))) (Kd.R_base ho0) hb); have n3_ := Aside0.mk (Kd.R_lower (Kd.R_new' (Kd.R_new' (Kd.R_new' ho0 (Kd.R_lt (by (with_reducible repeat (first | apply rA | apply rN | apply rD)); exact (Kd.R_mono (Kd.R_far (p := ⟨gb273, 5, none⟩) (Kd.R_far (p := ⟨gb273, 4, none⟩) (Kd.R_far (p := ⟨gb273, 3, none⟩) (Kd.R_far (p := ⟨gb273, 2, none⟩) (Kd.R_far (p := ⟨gb273, 1, none⟩) (Kd.R_far (p := ⟨gb273, 0, none⟩) (Kd.R_types HO251.out BK273.out (by decide)) (fun _ hk => hk.2) (.int .i64 t266)) (fun _ hk => hk.2) (.int .i64 t267)) (fun _ hk => hk.2) (.int .i64 t268)) (fun _ hk => hk.2) (.int .i64 t269)) (fun _ hk => hk.2) (.int .i64 t270)) (fun _ hk => hk.2) (.int .i64 t271)) (fun _ h_ => h_.1))))) (Kd.R_lt (by (with_reducible repeat (first | apply rA | apply rN | apply rD)); exact (Kd.R_mono (Kd.R_far (p := ⟨gb273, 5, none⟩) (Kd.R_far (p := ⟨gb273, 4, none⟩) (Kd.R_far (p := ⟨gb273, 3, none⟩) (Kd.R_far (p := ⟨gb273, 2, none⟩) (Kd.R_far (p := ⟨gb273, 1, none⟩) (Kd.R_far (p := ⟨gb273, 0, none⟩) (Kd.R_types HO254.out BK273.out (by decide)) (fun _ hk => hk.2) (.int .i64 t266)) (fun _ hk => hk.2) (.int .i64 t267)) (fun _ hk => hk.2) (.int .i64 t268)) (fun _ hk => hk.2) (.int .i64 t269)) (fun _ hk => hk.2) (.int .i64 t270)) (fun _ hk => hk.2) (.int .i64 t271)) (fun _ h_ => h_.1))))) (Kd.R_lt (by (with_reducible repeat (first | apply rA | apply rN | apply rD)); exact (Kd.R_mono (Kd.R_far (p := ⟨gb273, 5, none⟩) (Kd.R_far (p := ⟨gb273, 4, none⟩) (Kd.R_far (p := ⟨gb273, 3, none⟩) (Kd.R_far (p := ⟨gb273, 2, none⟩) (Kd.R_far (p := ⟨gb273, 1, none⟩) (Kd.R_far (p := ⟨gb273, 0, none⟩) (Kd.R_types HO265.out BK273.out (by decide)) (fun _ hk => hk.2) (.int .i64 t266)) (fun _ hk => hk.2) (.int .i64 t267)) (fun _ hk => hk.2) (.int .i64 t268)) (fun _ hk => hk.2) (.int .i64 t269)) (fun _ hk => hk.2) (.int .i64 t270)) (fun _ hk => hk.2) (.int .i64 t271)) (fun _ h_ => h_.1))))) (below_size (bl_ HB))); have n4_ := Aside0.mk (blk_below (g := gb244) (o := .cells #[.int .i64 a2_0, .int .i64 a2_1] 23 (0, 0)) (by (with_reducible repeat (first | apply bN | apply bD | apply bA)); refine blk_far ?_ NB244_273.out _; (with_reducible repeat (first | apply bN | apply bD | apply bA)); refine blk_far ?_ NB244_273.out _; (with_reducible repeat (first | apply bN | apply bD | apply bA)); refine blk_far ?_ NB244_273.out _; (with_reducible repeat (first | apply bN | apply bD | apply bA)); refine blk_far ?_ NB244_273.out _; (with_reducible repeat (first | apply bN | apply bD | apply bA)); refine blk_far ?_ NB244_273.out _; (with_reducible repeat (first | apply bN | apply bD | apply bA)); refine blk_far ?_ NB244_273.out _; (with_reducible repeat (first | apply bN | apply bD | apply bA)); exact BK244.out) hb); have n5_ := Aside0.mk (blk_below (g := gb262) (o := .cells #[.int .i64 t255, .int .i64 t256, .int .i64 t257, .int .i64 t258, .int .i64 t259, .int .i64 t260] 30 (0, 0)) (by (with_reducible repeat (first | apply bN | apply bD | apply bA)); refine blk_far ?_ NB262_273.out _; (with_reducible repeat (first | apply bN | apply bD | apply bA)); refine blk_far ?_ NB262_273.out _; (with_reducible repeat (first | apply bN | apply bD | apply bA)); refine blk_far ?_ NB262_273.out _; (with_reducible repeat (first | apply bN | apply bD | apply bA)); refine blk_far ?_ NB262_273.out _; (with_reducible repeat (first | apply bN | apply bD | apply bA)); refine blk_far ?_ NB262_273.out _; (with_reducible repeat (first | apply bN | apply bD | apply bA)); refine blk_far ?_ NB262_273.out _; (with_reducible repeat (first | apply bN | apply bD | apply bA)); exact BK262.out) hb); have n6_ := Aside0.mk (blk_below (g := gb273) (o := .cells #[.int .i64 t266, .int .i64 t267, .int .i64 t268, .int .i64 t269, .int .i64 t270, .int .i64 t271] 30 (0, 0)) (by (with_reducible repeat (first | apply bN | apply bD | apply bA)); refine blk_put (cs := #[.int .i64 t266, .int .i64 t267, .int .i64 t268, .int .i64 t269, .int .i64 t270, .int .i64 0]) ?_ 5 _ rfl; (with_reducible repeat (first | apply bN | apply bD | apply bA)); refine blk_put (cs := #[.int .i64 t266, .int .i64 t267, .int .i64 t268, .int .i64 t269, .int .i64 0, .int .i64 0]) ?_ 4 _ rfl; (with_reducible repeat (first | apply bN | apply bD | apply bA)); refine blk_put (cs := #[.int .i64 t266, .int .i64 t267, .int .i64 t268, .int .i64 0, .int .i64 0, .int .i64 0]) ?_ 3 _ rfl; (with_reducible repeat (first | apply bN | apply bD | apply bA)); refine blk_put (cs := #[.int .i64 t266, .int .i64 t267, .int .i64 0, .int .i64 0, .int .i64 0, .int .i64 0]) ?_ 2 _ rfl; (with_reducible repeat (first | apply bN | apply bD | apply bA)); refine blk_put (cs := #[.int .i64 t266, .int .i64 0, .int .i64 0, .int .i64 0, .int .i64 0, .int .i64 0]) ?_ 1 _ rfl; (with_reducible repeat (first | apply bN | apply bD | apply bA)); refine blk_put (cs := #[.int .i64 0, .int .i64 0, .int .i64 0, .int .i64 0, .int .i64 0, .int .i64 0]) ?_ 0 _ rfl; (with_reducible repeat (first | apply bN | apply bD | apply bA)); exact BK273.out) hb); have n7_ := bs_ HB hb; clear HO251; clear HO254; clear HO265; clear BK244; clear BK262; clear BK273; clear HB; have HO251 := n0_; have HO254 := n1_; have HO265 := n2_; have HO276 := n3_; have BK244 := n4_; have BK262 := n5_; have BK273 := n6_; have HB := n7_; clear n0_ n1_ n2_ n3_ n4_ n5_ n6_ n7_; (try clear hb); (try clear hb2); (try clear hk); (try clear hi); (try clear ho0)) | ((with_reducible refine gate_dst (N := 16) rfl ?_); (try (refine gate_guard (by rfl) ?_; dsimp only)); refine box_event ?hg (N := 16) ?hd (cs := #[.int .i64 0, .int .i64 0, .int .i64 0, .int .i64 0, .int .i64 0, .int .i64 0]) (t := 30) ?hr ?_; (case hd => rfl); (case hg => rfl); (case hr => first | (go_simp; done) | (go_simp; rfl)); intro gb284 hg w30 hbox hb; have n0_ := Aside0.mk (Kd.R_below (by (with_reducible repeat (first | apply rA | apply rN | apply rD)); exact HO251.out) hb); have n1_ := Aside0.mk (Kd.R_below (by (with_reducible repeat (first | apply rA | apply rN | apply rD)); exact HO254.out) hb); have n2_ := Aside0.mk (Kd.R_below (by (with_reducible repeat (first | apply rA | apply rN | apply rD)); exact HO265.out) hb); have n3_ := Aside0.mk (Kd.R_below (by (with_reducible repeat (first | apply rA | apply rN | apply rD)); exact HO276.out) hb); have n4_ := kb_ BK244 hb; have n5_ := kb_ BK262 hb; have n6_ := kb_ BK273 hb; have n7_ := bs_ HB hb; have n8_ := Aside0.mk (hbox); have n9_ := ge_ HB hg; have n10_ := ge_ HB hg; have n11_ := nlt_ BK244 hg; have n12_ := ngt_ BK244 hg; have n13_ := nlt_ BK262 hg; have n14_ := ngt_ BK262 hg; have n15_ := nlt_ BK273 hg; have n16_ := ngt_ BK273 hg; clear HO251; clear HO254; clear HO265; clear HO276; clear BK244; clear BK262; clear BK273; clear HB; have HO251 := n0_; have HO254 := n1_; have HO265 := n2_; have HO276 := n3_; have BK244 := n4_; have BK262 := n5_; have BK273 := n6_; have HB := n7_; have BK284 := n8_; have GW284 := n9_; have GE284 := n10_; have NB244_284 := n11_; have NB284_244 := n12_; have NB262_284 := n13_; have NB284_262 := n14_; have NB273_284 := n15_; have NB284_273 := n16_; clear n0_ n1_ n2_ n3_ n4_ n5_ n6_ n7_ n8_ n9_ n10_ n11_ n12_ n13_ n14_ n15_ n16_; clear hb hbox hg; have hnb31 := NB284_244.out; have hnc31 := NB244_284.out; have hnb32 := NB284_262.out; have hnc32 := NB262_284.out; have hnb33 := NB284_273.out; have hnc33 := NB273_284.out; have hcz34_0 : w30.cell? ⟨gb284, 0, none⟩ = some (.int .i64 0) := (blk_cell BK284.out 0).trans rfl; have hcz34_1 : w30.cell? ⟨gb284, 1, none⟩ = some (.int .i64 0) := (blk_cell BK284.out 1).trans rfl; have hcz34_2 : w30.cell? ⟨gb284, 2, none⟩ = some (.int .i64 0) := (blk_cell BK284.out 2).trans rfl; have hcz34_3 : w30.cell? ⟨gb284, 3, none⟩ = some (.int .i64 0) := (blk_cell BK284.out 3).trans rfl; have hcz34_4 : w30.cell? ⟨gb284, 4, none⟩ = some (.int .i64 0) := (blk_cell BK284.out 4).trans rfl; have hcz34_5 : w30.cell? ⟨gb284, 5, none⟩ = some (.int .i64 0) := (blk_cell BK284.out 5).trans rfl; have hfz34_0 := blk_frozen BK284.out 0; have hfz34_1 := blk_frozen BK284.out 1; have hfz34_2 := blk_frozen BK284.out 2; have hfz34_3 := blk_frozen BK284.out 3; have hfz34_4 := blk_frozen BK284.out 4; have hfz34_5 := blk_frozen BK284.out 5))
    (try simp only [Act.put, List.setIfInBounds_toArray, List.set_cons_zero, List.set_cons_succ])
    go_cut [61] (fun v61 wc => ∃ (kq : Nat) (x61_10 : Bool), v61 = .bool x61_10 ∧ Aside0 (steelyardlaw06_PolicyParts.j0 kq y249 t252 t263 t274 t283 x61_10 t255 t256 t257 t258 t259 t260 t266 t267 t268 t269 t270 t271 t277 t278 t279 t280 t281 t282 = some r) ∧ Aside0 (kq ≤ k) ∧ Aside0 (Kd.R (Kd.float .f64) 41 wc w.heap.size (fun k_ => some k_ ≠ (v253 : Value).ownBlock ∧ some k_ ≠ (v264 : Value).ownBlock ∧ some k_ ≠ (v275 : Value).ownBlock) (.slice Ao28 y249.length co28) y249) ∧ Aside0 (Kd.R (Kd.float .f64) 41 wc w.heap.size (fun k_ => some k_ ≠ ((.slice Ao28 y249.length co28) : Value).ownBlock ∧ some k_ ≠ (v264 : Value).ownBlock ∧ some k_ ≠ (v275 : Value).ownBlock) v253 t252) ∧ Aside0 (Kd.R (Kd.float .f64) 41 wc w.heap.size (fun k_ => some k_ ≠ ((.slice Ao28 y249.length co28) : Value).ownBlock ∧ some k_ ≠ (v253 : Value).ownBlock ∧ some k_ ≠ (v275 : Value).ownBlock) v264 t263) ∧ Aside0 (Kd.R (Kd.float .f64) 41 wc w.heap.size (fun k_ => some k_ ≠ ((.slice Ao28 y249.length co28) : Value).ownBlock ∧ some k_ ≠ (v253 : Value).ownBlock ∧ some k_ ≠ (v264 : Value).ownBlock) v275 t274) ∧ Aside0 (wc.heap[gb244]? = some (.cells #[.int .i64 a2_0, .int .i64 a2_1] 23 (0, 0))) ∧ Aside0 (wc.heap[gb262]? = some (.cells #[.int .i64 t255, .int .i64 t256, .int .i64 t257, .int .i64 t258, .int .i64 t259, .int .i64 t260] 30 (0, 0))) ∧ Aside0 (wc.heap[gb273]? = some (.cells #[.int .i64 t266, .int .i64 t267, .int .i64 t268, .int .i64 t269, .int .i64 t270, .int .i64 t271] 30 (0, 0))) ∧ Aside0 (wc.heap[gb284]? = some (.cells #[.int .i64 t277, .int .i64 t278, .int .i64 t279, .int .i64 t280, .int .i64 t281, .int .i64 t282] 30 (0, 0))) ∧ Aside0 (Below w.heap.size w wc))
    case first =>
     have H := HC11.out
     clear HC11
     by_cases c35 : t261 = 0
     ·rw [if_pos c35] at H
      have c35b0 : (t261 == 0) = true := beq_iff_eq.mpr c35
      have c35b1 : (t261 != 0) = false := bne_eq_false_iff_eq.mpr c35
      clear c35
      (first | rw [c35b0] | (simp only [i64_w, i32_w]; rw [c35b0]) | skip)
      have H' := Aside0.mk H
      clear H
      go_wp2
      go_meet
      case rel => exact ⟨_, ((t272 != 0)), (by first | rfl | (simp; done) | (simp [*]; done)), H', ⟨by first | omega | exact Nat.le_refl _⟩, ⟨by (with_reducible repeat (first | apply rA | apply rN | apply rD)); exact Kd.R_mono (Kd.R_far (p := ⟨gb284, 5, none⟩) (Kd.R_far (p := ⟨gb284, 4, none⟩) (Kd.R_far (p := ⟨gb284, 3, none⟩) (Kd.R_far (p := ⟨gb284, 2, none⟩) (Kd.R_far (p := ⟨gb284, 1, none⟩) (Kd.R_far (p := ⟨gb284, 0, none⟩) (Kd.R_types HO251.out BK284.out (by decide)) (fun _ hk => hk.2) (.int .i64 t277)) (fun _ hk => hk.2) (.int .i64 t278)) (fun _ hk => hk.2) (.int .i64 t279)) (fun _ hk => hk.2) (.int .i64 t280)) (fun _ hk => hk.2) (.int .i64 t281)) (fun _ hk => hk.2) (.int .i64 t282)) (fun _ hk => by first | exact ⟨hk.1.1.1.2, ⟨hk.1.1.2, hk.1.2⟩⟩ | (revert hk; simp only [and_imp]; intros; (repeat' apply And.intro) <;> assumption))⟩, ⟨by (with_reducible repeat (first | apply rA | apply rN | apply rD)); exact Kd.R_mono (Kd.R_far (p := ⟨gb284, 5, none⟩) (Kd.R_far (p := ⟨gb284, 4, none⟩) (Kd.R_far (p := ⟨gb284, 3, none⟩) (Kd.R_far (p := ⟨gb284, 2, none⟩) (Kd.R_far (p := ⟨gb284, 1, none⟩) (Kd.R_far (p := ⟨gb284, 0, none⟩) (Kd.R_types HO254.out BK284.out (by decide)) (fun _ hk => hk.2) (.int .i64 t277)) (fun _ hk => hk.2) (.int .i64 t278)) (fun _ hk => hk.2) (.int .i64 t279)) (fun _ hk => hk.2) (.int .i64 t280)) (fun _ hk => hk.2) (.int .i64 t281)) (fun _ hk => hk.2) (.int .i64 t282)) (fun _ hk => by first | exact ⟨hk.1.1.1.2, ⟨hk.1.1.2, hk.1.2⟩⟩ | (revert hk; simp only [and_imp]; intros; (repeat' apply And.intro) <;> assumption))⟩, ⟨by (with_reducible repeat (first | apply rA | apply rN | apply rD)); exact Kd.R_mono (Kd.R_far (p := ⟨gb284, 5, none⟩) (Kd.R_far (p := ⟨gb284, 4, none⟩) (Kd.R_far (p := ⟨gb284, 3, none⟩) (Kd.R_far (p := ⟨gb284, 2, none⟩) (Kd.R_far (p := ⟨gb284, 1, none⟩) (Kd.R_far (p := ⟨gb284, 0, none⟩) (Kd.R_types HO265.out BK284.out (by decide)) (fun _ hk => hk.2) (.int .i64 t277)) (fun _ hk => hk.2) (.int .i64 t278)) (fun _ hk => hk.2) (.int .i64 t279)) (fun _ hk => hk.2) (.int .i64 t280)) (fun _ hk => hk.2) (.int .i64 t281)) (fun _ hk => hk.2) (.int .i64 t282)) (fun _ hk => by first | exact ⟨hk.1.1.1.2, ⟨hk.1.1.2, hk.1.2⟩⟩ | (revert hk; simp only [and_imp]; intros; (repeat' apply And.intro) <;> assumption))⟩, ⟨by (with_reducible repeat (first | apply rA | apply rN | apply rD)); exact Kd.R_mono (Kd.R_far (p := ⟨gb284, 5, none⟩) (Kd.R_far (p := ⟨gb284, 4, none⟩) (Kd.R_far (p := ⟨gb284, 3, none⟩) (Kd.R_far (p := ⟨gb284, 2, none⟩) (Kd.R_far (p := ⟨gb284, 1, none⟩) (Kd.R_far (p := ⟨gb284, 0, none⟩) (Kd.R_types HO276.out BK284.out (by decide)) (fun _ hk => hk.2) (.int .i64 t277)) (fun _ hk => hk.2) (.int .i64 t278)) (fun _ hk => hk.2) (.int .i64 t279)) (fun _ hk => hk.2) (.int .i64 t280)) (fun _ hk => hk.2) (.int .i64 t281)) (fun _ hk => hk.2) (.int .i64 t282)) (fun _ hk => by first | exact ⟨hk.1.1.1.2, ⟨hk.1.1.2, hk.1.2⟩⟩ | (revert hk; simp only [and_imp]; intros; (repeat' apply And.intro) <;> assumption))⟩, ⟨by (with_reducible repeat (first | apply bN | apply bD | apply bA)); refine blk_far ?_ NB244_284.out _; (with_reducible repeat (first | apply bN | apply bD | apply bA)); refine blk_far ?_ NB244_284.out _; (with_reducible repeat (first | apply bN | apply bD | apply bA)); refine blk_far ?_ NB244_284.out _; (with_reducible repeat (first | apply bN | apply bD | apply bA)); refine blk_far ?_ NB244_284.out _; (with_reducible repeat (first | apply bN | apply bD | apply bA)); refine blk_far ?_ NB244_284.out _; (with_reducible repeat (first | apply bN | apply bD | apply bA)); refine blk_far ?_ NB244_284.out _; (with_reducible repeat (first | apply bN | apply bD | apply bA)); exact BK244.out⟩, ⟨by (with_reducible repeat (first | apply bN | apply bD | apply bA)); refine blk_far ?_ NB262_284.out _; (with_reducible repeat (first | apply bN | apply bD | apply bA)); refine blk_far ?_ NB262_284.out _; (with_reducible repeat (first | apply bN | apply bD | apply bA)); refine blk_far ?_ NB262_284.out _; (with_reducible repeat (first | apply bN | apply bD | apply bA)); refine blk_far ?_ NB262_284.out _; (with_reducible repeat (first | apply bN | apply bD | apply bA)); refine blk_far ?_ NB262_284.out _; (with_reducible repeat (first | apply bN | apply bD | apply bA)); refine blk_far ?_ NB262_284.out _; (with_reducible repeat (first | apply bN | apply bD | apply bA)); exact BK262.out⟩, ⟨by (with_reducible repeat (first | apply bN | apply bD | apply bA)); refine blk_far ?_ NB273_284.out _; (with_reducible repeat (first | apply bN | apply bD | apply bA)); refine blk_far ?_ NB273_284.out _; (with_reducible repeat (first | apply bN | apply bD | apply bA)); refine blk_far ?_ NB273_284.out _; (with_reducible repeat (first | apply bN | apply bD | apply bA)); refine blk_far ?_ NB273_284.out _; (with_reducible repeat (first | apply bN | apply bD | apply bA)); refine blk_far ?_ NB273_284.out _; (with_reducible repeat (first | apply bN | apply bD | apply bA)); refine blk_far ?_ NB273_284.out _; (with_reducible repeat (first | apply bN | apply bD | apply bA)); exact BK273.out⟩, ⟨by (with_reducible repeat (first | apply bN | apply bD | apply bA)); refine blk_put (cs := #[.int .i64 t277, .int .i64 t278, .int .i64 t279, .int .i64 t280, .int .i64 t281, .int .i64 0]) ?_ 5 _ rfl; (with_reducible repeat (first | apply bN | apply bD | apply bA)); refine blk_put (cs := #[.int .i64 t277, .int .i64 t278, .int .i64 t279, .int .i64 t280, .int .i64 0, .int .i64 0]) ?_ 4 _ rfl; (with_reducible repeat (first | apply bN | apply bD | apply bA)); refine blk_put (cs := #[.int .i64 t277, .int .i64 t278, .int .i64 t279, .int .i64 0, .int .i64 0, .int .i64 0]) ?_ 3 _ rfl; (with_reducible repeat (first | apply bN | apply bD | apply bA)); refine blk_put (cs := #[.int .i64 t277, .int .i64 t278, .int .i64 0, .int .i64 0, .int .i64 0, .int .i64 0]) ?_ 2 _ rfl; (with_reducible repeat (first | apply bN | apply bD | apply bA)); refine blk_put (cs := #[.int .i64 t277, .int .i64 0, .int .i64 0, .int .i64 0, .int .i64 0, .int .i64 0]) ?_ 1 _ rfl; (with_reducible repeat (first | apply bN | apply bD | apply bA)); refine blk_put (cs := #[.int .i64 0, .int .i64 0, .int .i64 0, .int .i64 0, .int .i64 0, .int .i64 0]) ?_ 0 _ rfl; (with_reducible repeat (first | apply bN | apply bD | apply bA)); exact BK284.out⟩, ⟨bl_ HB⟩⟩
     ·rw [if_neg c35] at H
      have c35b0 : (t261 == 0) = false := beq_eq_false_iff_ne.mpr c35
      have c35b1 : (t261 != 0) = true := bne_iff_ne.mpr c35
      (first | rw [c35b0] | (simp only [i64_w, i32_w]; rw [c35b0]) | skip)
      have H' := Aside0.mk H
      clear H
      go_wp2
      go_meet
      case rel => exact ⟨_, (true), (by first | rfl | (simp; done) | (simp [*]; done)), H', ⟨by first | omega | exact Nat.le_refl _⟩, ⟨by (with_reducible repeat (first | apply rA | apply rN | apply rD)); exact Kd.R_mono (Kd.R_far (p := ⟨gb284, 5, none⟩) (Kd.R_far (p := ⟨gb284, 4, none⟩) (Kd.R_far (p := ⟨gb284, 3, none⟩) (Kd.R_far (p := ⟨gb284, 2, none⟩) (Kd.R_far (p := ⟨gb284, 1, none⟩) (Kd.R_far (p := ⟨gb284, 0, none⟩) (Kd.R_types HO251.out BK284.out (by decide)) (fun _ hk => hk.2) (.int .i64 t277)) (fun _ hk => hk.2) (.int .i64 t278)) (fun _ hk => hk.2) (.int .i64 t279)) (fun _ hk => hk.2) (.int .i64 t280)) (fun _ hk => hk.2) (.int .i64 t281)) (fun _ hk => hk.2) (.int .i64 t282)) (fun _ hk => by first | exact ⟨hk.1.1.1.2, ⟨hk.1.1.2, hk.1.2⟩⟩ | (revert hk; simp only [and_imp]; intros; (repeat' apply And.intro) <;> assumption))⟩, ⟨by (with_reducible repeat (first | apply rA | apply rN | apply rD)); exact Kd.R_mono (Kd.R_far (p := ⟨gb284, 5, none⟩) (Kd.R_far (p := ⟨gb284, 4, none⟩) (Kd.R_far (p := ⟨gb284, 3, none⟩) (Kd.R_far (p := ⟨gb284, 2, none⟩) (Kd.R_far (p := ⟨gb284, 1, none⟩) (Kd.R_far (p := ⟨gb284, 0, none⟩) (Kd.R_types HO254.out BK284.out (by decide)) (fun _ hk => hk.2) (.int .i64 t277)) (fun _ hk => hk.2) (.int .i64 t278)) (fun _ hk => hk.2) (.int .i64 t279)) (fun _ hk => hk.2) (.int .i64 t280)) (fun _ hk => hk.2) (.int .i64 t281)) (fun _ hk => hk.2) (.int .i64 t282)) (fun _ hk => by first | exact ⟨hk.1.1.1.2, ⟨hk.1.1.2, hk.1.2⟩⟩ | (revert hk; simp only [and_imp]; intros; (repeat' apply And.intro) <;> assumption))⟩, ⟨by (with_reducible repeat (first | apply rA | apply rN | apply rD)); exact Kd.R_mono (Kd.R_far (p := ⟨gb284, 5, none⟩) (Kd.R_far (p := ⟨gb284, 4, none⟩) (Kd.R_far (p := ⟨gb284, 3, none⟩) (Kd.R_far (p := ⟨gb284, 2, none⟩) (Kd.R_far (p := ⟨gb284, 1, none⟩) (Kd.R_far (p := ⟨gb284, 0, none⟩) (Kd.R_types HO265.out BK284.out (by decide)) (fun _ hk => hk.2) (.int .i64 t277)) (fun _ hk => hk.2) (.int .i64 t278)) (fun _ hk => hk.2) (.int .i64 t279)) (fun _ hk => hk.2) (.int .i64 t280)) (fun _ hk => hk.2) (.int .i64 t281)) (fun _ hk => hk.2) (.int .i64 t282)) (fun _ hk => by first | exact ⟨hk.1.1.1.2, ⟨hk.1.1.2, hk.1.2⟩⟩ | (revert hk; simp only [and_imp]; intros; (repeat' apply And.intro) <;> assumption))⟩, ⟨by (with_reducible repeat (first | apply rA | apply rN | apply rD)); exact Kd.R_mono (Kd.R_far (p := ⟨gb284, 5, none⟩) (Kd.R_far (p := ⟨gb284, 4, none⟩) (Kd.R_far (p := ⟨gb284, 3, none⟩) (Kd.R_far (p := ⟨gb284, 2, none⟩) (Kd.R_far (p := ⟨gb284, 1, none⟩) (Kd.R_far (p := ⟨gb284, 0, none⟩) (Kd.R_types HO276.out BK284.out (by decide)) (fun _ hk => hk.2) (.int .i64 t277)) (fun _ hk => hk.2) (.int .i64 t278)) (fun _ hk => hk.2) (.int .i64 t279)) (fun _ hk => hk.2) (.int .i64 t280)) (fun _ hk => hk.2) (.int .i64 t281)) (fun _ hk => hk.2) (.int .i64 t282)) (fun _ hk => by first | exact ⟨hk.1.1.1.2, ⟨hk.1.1.2, hk.1.2⟩⟩ | (revert hk; simp only [and_imp]; intros; (repeat' apply And.intro) <;> assumption))⟩, ⟨by (with_reducible repeat (first | apply bN | apply bD | apply bA)); refine blk_far ?_ NB244_284.out _; (with_reducible repeat (first | apply bN | apply bD | apply bA)); refine blk_far ?_ NB244_284.out _; (with_reducible repeat (first | apply bN | apply bD | apply bA)); refine blk_far ?_ NB244_284.out _; (with_reducible repeat (first | apply bN | apply bD | apply bA)); refine blk_far ?_ NB244_284.out _; (with_reducible repeat (first | apply bN | apply bD | apply bA)); refine blk_far ?_ NB244_284.out _; (with_reducible repeat (first | apply bN | apply bD | apply bA)); refine blk_far ?_ NB244_284.out _; (with_reducible repeat (first | apply bN | apply bD | apply bA)); exact BK244.out⟩, ⟨by (with_reducible repeat (first | apply bN | apply bD | apply bA)); refine blk_far ?_ NB262_284.out _; (with_reducible repeat (first | apply bN | apply bD | apply bA)); refine blk_far ?_ NB262_284.out _; (with_reducible repeat (first | apply bN | apply bD | apply bA)); refine blk_far ?_ NB262_284.out _; (with_reducible repeat (first | apply bN | apply bD | apply bA)); refine blk_far ?_ NB262_284.out _; (with_reducible repeat (first | apply bN | apply bD | apply bA)); refine blk_far ?_ NB262_284.out _; (with_reducible repeat (first | apply bN | apply bD | apply bA)); refine blk_far ?_ NB262_284.out _; (with_reducible repeat (first | apply bN | apply bD | apply bA)); exact BK262.out⟩, ⟨by (with_reducible repeat (first | apply bN | apply bD | apply bA)); refine blk_far ?_ NB273_284.out _; (with_reducible repeat (first | apply bN | apply bD | apply bA)); refine blk_far ?_ NB273_284.out _; (with_reducible repeat (first | apply bN | apply bD | apply bA)); refine blk_far ?_ NB273_284.out _; (with_reducible repeat (first | apply bN | apply bD | apply bA)); refine blk_far ?_ NB273_284.out _; (with_reducible repeat (first | apply bN | apply bD | apply bA)); refine blk_far ?_ NB273_284.out _; (with_reducible repeat (first | apply bN | apply bD | apply bA)); refine blk_far ?_ NB273_284.out _; (with_reducible repeat (first | apply bN | apply bD | apply bA)); exact BK273.out⟩, ⟨by (with_reducible repeat (first | apply bN | apply bD | apply bA)); refine blk_put (cs := #[.int .i64 t277, .int .i64 t278, .int .i64 t279, .int .i64 t280, .int .i64 t281, .int .i64 0]) ?_ 5 _ rfl; (with_reducible repeat (first | apply bN | apply bD | apply bA)); refine blk_put (cs := #[.int .i64 t277, .int .i64 t278, .int .i64 t279, .int .i64 t280, .int .i64 0, .int .i64 0]) ?_ 4 _ rfl; (with_reducible repeat (first | apply bN | apply bD | apply bA)); refine blk_put (cs := #[.int .i64 t277, .int .i64 t278, .int .i64 t279, .int .i64 0, .int .i64 0, .int .i64 0]) ?_ 3 _ rfl; (with_reducible repeat (first | apply bN | apply bD | apply bA)); refine blk_put (cs := #[.int .i64 t277, .int .i64 t278, .int .i64 0, .int .i64 0, .int .i64 0, .int .i64 0]) ?_ 2 _ rfl; (with_reducible repeat (first | apply bN | apply bD | apply bA)); refine blk_put (cs := #[.int .i64 t277, .int .i64 0, .int .i64 0, .int .i64 0, .int .i64 0, .int .i64 0]) ?_ 1 _ rfl; (with_reducible repeat (first | apply bN | apply bD | apply bA)); refine blk_put (cs := #[.int .i64 0, .int .i64 0, .int .i64 0, .int .i64 0, .int .i64 0, .int .i64 0]) ?_ 0 _ rfl; (with_reducible repeat (first | apply bN | apply bD | apply bA)); exact BK284.out⟩, ⟨bl_ HB⟩⟩
    case rest =>
     clear HC11
     try clear c1
     try clear c2
     try clear p2
     try clear c3
     try clear c5
     try clear c6
     try clear c7
     try clear c12
     try clear c19
     try clear c24
     try clear c25
     try clear c31
     try clear c32
     try clear c33
     try clear c35
     try clear c35b0
     try clear c35b1
     try clear hcz16_0
     try clear hcz16_1
     try clear hcz20_0
     try clear hcz20_1
     try clear hcz20_2
     try clear hcz20_3
     try clear hcz20_4
     try clear hcz20_5
     try clear hcz21_0
     try clear hcz21_1
     try clear hcz26_0
     try clear hcz26_1
     try clear hcz26_2
     try clear hcz26_3
     try clear hcz26_4
     try clear hcz26_5
     try clear hcz27_0
     try clear hcz27_1
     try clear hcz34_0
     try clear hcz34_1
     try clear hcz34_2
     try clear hcz34_3
     try clear hcz34_4
     try clear hcz34_5
     try clear hfz16_0
     try clear hfz16_1
     try clear hfz20_0
     try clear hfz20_1
     try clear hfz20_2
     try clear hfz20_3
     try clear hfz20_4
     try clear hfz20_5
     try clear hfz21_0
     try clear hfz21_1
     try clear hfz26_0
     try clear hfz26_1
     try clear hfz26_2
     try clear hfz26_3
     try clear hfz26_4
     try clear hfz26_5
     try clear hfz27_0
     try clear hfz27_1
     try clear hfz34_0
     try clear hfz34_1
     try clear hfz34_2
     try clear hfz34_3
     try clear hfz34_4
     try clear hfz34_5
     obtain ⟨kq, x61_10, rfl, HA, HJ10, HO_8, HO_9, HO_12, HO_15, BK244, BK262, BK273, BK284, HB⟩ := hcut
     cases kq with
     | zero => exact absurd HA.out (by simp [steelyardlaw06_PolicyParts.j0])
     | succ kj10 =>
      have H := HA.out
      clear HA
      simp only [steelyardlaw06_PolicyParts.j0] at H
      by_cases c36 : x61_10 = true
      ·subst c36
       have H1 : (some (t283 != 0)) = some r := by rw [if_pos rfl] at H; exact H
       clear H
       have H := H1
       clear H1
       obtain rfl := Option.some.inj H
       go_wp2
       go_ret
       exact ⟨by first | rfl | (simp [errW_none, errW_some] <;> rfl) | (simp [*, errW_none, errW_some] <;> rfl), bl_ HB⟩
      ·replace c36 := Bool.eq_false_iff.mpr c36
       subst c36
       have H1 : (if t283 = 0 then (if ([] : List Nat).length + t252.length < 17592186044416 then ((some (([] : List Nat) ++ t252 : List Nat)).bind fun y285 => (if y285.length + t263.length < 17592186044416 then ((steelyardlaw06_sum.f t255 t256 t257 t258 t259 t260 t266 t267 t268 t269 t270 t271).bind fun bt291 => (if (!(t277 == bt291.1) || (!(t278 == bt291.2.1) || (!(t279 == bt291.2.2.1) || (!(t280 == bt291.2.2.2.1) || (!(t281 == bt291.2.2.2.2.1) || (!(t282 == bt291.2.2.2.2.2))))))) = true then (steelyardlaw06_PolicyParts.j1 kj10 t274 true t277 t278 t279 t280 t281 t282) else ((steelyardref03_AlikeLists.f kj10 t274 (y285 ++ t263)).bind fun t297 => (if t297 = true then (if (wrap64 ((wrap64 ((wrap64 ((t274.length : Int) + t277)) + t278)) + t279)) = (y249.length : Int) then (steelyardlaw06_PolicyParts.j1 kj10 t274 (t282 != (y249.length : Int)) t277 t278 t279 t280 t281 t282) else (steelyardlaw06_PolicyParts.j1 kj10 t274 true t277 t278 t279 t280 t281 t282)) else (steelyardlaw06_PolicyParts.j1 kj10 t274 true t277 t278 t279 t280 t281 t282))))) else (none))) else (none)) else (if t283 = 2 then (some (decide ((y249.length : Int) > 65536))) else (none))) = some r := by rw [if_neg (show ¬ (false = true) by decide)] at H; exact H
       clear H
       have H := H1
       clear H1
       by_cases c37 : t283 = 0
       ·rw [if_pos c37] at H
        have c37b0 : (t283 == 0) = true := beq_iff_eq.mpr c37
        have c37b1 : (t283 != 0) = false := bne_eq_false_iff_eq.mpr c37
        clear c37
        by_cases c38 : ([] : List Nat).length + t252.length < 17592186044416
        ·rw [if_pos c38] at H
         have LMc38 := Aside0.mk c38
         clear c38
         obtain ⟨y285, hy285⟩ : ∃ y_ : List Nat, y_ = (([] : List Nat) ++ t252) := ⟨_, rfl⟩
         replace H : (if y285.length + t263.length < 17592186044416 then ((steelyardlaw06_sum.f t255 t256 t257 t258 t259 t260 t266 t267 t268 t269 t270 t271).bind fun bt291 => (if (!(t277 == bt291.1) || (!(t278 == bt291.2.1) || (!(t279 == bt291.2.2.1) || (!(t280 == bt291.2.2.2.1) || (!(t281 == bt291.2.2.2.2.1) || (!(t282 == bt291.2.2.2.2.2))))))) = true then (steelyardlaw06_PolicyParts.j1 kj10 t274 true t277 t278 t279 t280 t281 t282) else ((steelyardref03_AlikeLists.f kj10 t274 (y285 ++ t263)).bind fun t297 => (if t297 = true then (if (wrap64 ((wrap64 ((wrap64 ((t274.length : Int) + t277)) + t278)) + t279)) = (y249.length : Int) then (steelyardlaw06_PolicyParts.j1 kj10 t274 (t282 != (y249.length : Int)) t277 t278 t279 t280 t281 t282) else (steelyardlaw06_PolicyParts.j1 kj10 t274 true t277 t278 t279 t280 t281 t282)) else (steelyardlaw06_PolicyParts.j1 kj10 t274 true t277 t278 t279 t280 t281 t282))))) else (none)) = some r := by first | (rw [hy285]; with_reducible exact H) | (have H2_ := (Option.bind_some _ _).symm.trans H; rw [hy285]; with_reducible exact H2_) | (have H2_ := (Option.bind_some _ _).symm.trans H; with_reducible exact H2_) | with_reducible exact H | (rw [hy285]; exact H) | exact H
         have Ny285 := Aside0.mk hy285
         clear hy285
         by_cases c39 : y285.length + t263.length < 17592186044416
         ·rw [if_pos c39] at H
          have LMc39 := Aside0.mk c39
          clear c39
          obtain ⟨y288, hy288⟩ : ∃ y_ : List Nat, y_ = (y285 ++ t263) := ⟨_, rfl⟩
          replace H : ((steelyardlaw06_sum.f t255 t256 t257 t258 t259 t260 t266 t267 t268 t269 t270 t271).bind fun bt291 => (if (!(t277 == bt291.1) || (!(t278 == bt291.2.1) || (!(t279 == bt291.2.2.1) || (!(t280 == bt291.2.2.2.1) || (!(t281 == bt291.2.2.2.2.1) || (!(t282 == bt291.2.2.2.2.2))))))) = true then (steelyardlaw06_PolicyParts.j1 kj10 t274 true t277 t278 t279 t280 t281 t282) else ((steelyardref03_AlikeLists.f kj10 t274 y288).bind fun t297 => (if t297 = true then (if (wrap64 ((wrap64 ((wrap64 ((t274.length : Int) + t277)) + t278)) + t279)) = (y249.length : Int) then (steelyardlaw06_PolicyParts.j1 kj10 t274 (t282 != (y249.length : Int)) t277 t278 t279 t280 t281 t282) else (steelyardlaw06_PolicyParts.j1 kj10 t274 true t277 t278 t279 t280 t281 t282)) else (steelyardlaw06_PolicyParts.j1 kj10 t274 true t277 t278 t279 t280 t281 t282))))) = some r := by first | (rw [hy288]; with_reducible exact H) | (have H2_ := (Option.bind_some _ _).symm.trans H; rw [hy288]; with_reducible exact H2_) | (have H2_ := (Option.bind_some _ _).symm.trans H; with_reducible exact H2_) | with_reducible exact H | (rw [hy288]; exact H) | exact H
          have Ny288 := Aside0.mk hy288
          clear hy288
          have HC40 := Aside0.mk H
          clear H
          obtain ⟨Ao42, co42, eo42⟩ := Kd.R_slice HO_9.out
          subst eo42
          go_upto_region 17 with (first | ((with_reducible refine gate_builtin (b := .append) (xs := #[.tmp 73, .tmp 74]) rfl ?_); (try (refine gate_guard (by rfl) ?_; dsimp only)); at_builtin; refine Kd.R_append_rows (Kd.float .f64) (w0 := w) w.heap.size rfl (.tmp 73) (.tmp 74) 27 41 (.float .f64 0) 8 rfl Try.underlying27 info41 rfl (by decide) (by omega) (.slice none 0 0) ([] : List Nat) t252 _ _ _ (fun k_ => some k_ ≠ (.slice Ao28 y249.length co28 : Value).ownBlock ∧ some k_ ≠ (.slice Ao42 t252.length co42 : Value).ownBlock ∧ some k_ ≠ (v264 : Value).ownBlock ∧ some k_ ≠ (v275 : Value).ownBlock) (fun _ => False) rfl rfl ?aO ?aR (fun _ _ h => h) (fun _ h => h.elim) ?aF ?aB ?aS ?aL ?_; (case aR => repeat (first | exact (Kd.R_reads' HO_9.out).2.2 | (with_reducible first | apply cA | apply cN | apply cD))); (case aB => exact (bl_ HB)); (case aF => exact (fun k_ hk => ⟨Kd.fresh' (Kd.R_lt (by (with_reducible repeat (first | apply rA | apply rN | apply rD)); exact HO_8.out)) k_ hk, Kd.fresh' (Kd.R_lt (by (with_reducible repeat (first | apply rA | apply rN | apply rD)); exact HO_9.out)) k_ hk, Kd.fresh' (Kd.R_lt (by (with_reducible repeat (first | apply rA | apply rN | apply rD)); exact HO_12.out)) k_ hk, Kd.fresh' (Kd.R_lt (by (with_reducible repeat (first | apply rA | apply rN | apply rD)); exact HO_15.out)) k_ hk⟩)); (case aO => exact ((Kd.R_nil _ _ _ _ (fun k_ => some k_ ≠ (.slice Ao28 y249.length co28 : Value).ownBlock ∧ some k_ ≠ (.slice Ao42 t252.length co42 : Value).ownBlock ∧ some k_ ≠ (v264 : Value).ownBlock ∧ some k_ ≠ (v275 : Value).ownBlock)))); (case aS => exact (below_size (bl_ HB))); (case aL => have := LMc38.out; omega); intro v286 w41 ho hb hg hat; rw [← Ny285.out] at ho; have n0_ := Aside0.mk (Kd.R_after (Kd.R_apart_nil (by (with_reducible repeat (first | apply rA | apply rN | apply rD)); exact HO_8.out)) hg hat); have n1_ := Aside0.mk (Kd.R_after (Kd.R_apart_nil (by (with_reducible repeat (first | apply rA | apply rN | apply rD)); exact HO_9.out)) hg hat); have n2_ := Aside0.mk (Kd.R_after (Kd.R_apart_nil (by (with_reducible repeat (first | apply rA | apply rN | apply rD)); exact HO_12.out)) hg hat); have n3_ := Aside0.mk (Kd.R_after (Kd.R_apart_nil (by (with_reducible repeat (first | apply rA | apply rN | apply rD)); exact HO_15.out)) hg hat); have n4_ := Aside0.mk (blk_grown (g := gb244) (o := .cells #[.int .i64 a2_0, .int .i64 a2_1] 23 (0, 0)) (bk_ BK244) hg (by simp [Value.ownBlock])); have n5_ := Aside0.mk (blk_grown (g := gb262) (o := .cells #[.int .i64 t255, .int .i64 t256, .int .i64 t257, .int .i64 t258, .int .i64 t259, .int .i64 t260] 30 (0, 0)) (bk_ BK262) hg (by simp [Value.ownBlock])); have n6_ := Aside0.mk (blk_grown (g := gb273) (o := .cells #[.int .i64 t266, .int .i64 t267, .int .i64 t268, .int .i64 t269, .int .i64 t270, .int .i64 t271] 30 (0, 0)) (bk_ BK273) hg (by simp [Value.ownBlock])); have n7_ := Aside0.mk (blk_grown (g := gb284) (o := .cells #[.int .i64 t277, .int .i64 t278, .int .i64 t279, .int .i64 t280, .int .i64 t281, .int .i64 t282] 30 (0, 0)) (bk_ BK284) hg (by simp [Value.ownBlock])); have n8_ := Aside0.mk (hb); have n9_ := Aside0.mk (ho); clear HO_8; clear HO_9; clear HO_12; clear HO_15; clear BK244; clear BK262; clear BK273; clear BK284; clear HB; have HO_8 := n0_; have HO_9 := n1_; have HO_12 := n2_; have HO_15 := n3_; have BK244 := n4_; have BK262 := n5_; have BK273 := n6_; have BK284 := n7_; have HB := n8_; have HO287 := n9_; clear n0_ n1_ n2_ n3_ n4_ n5_ n6_ n7_ n8_ n9_; clear ho hb hg hat; obtain ⟨Ao44, co44, eo44⟩ := Kd.R_slice HO_12.out; subst eo44) | ((with_reducible refine gate_builtin (b := .append) (xs := #[.tmp 76, .tmp 77]) rfl ?_); (try (refine gate_guard (by rfl) ?_; dsimp only)); at_builtin; refine Kd.R_append_rows (Kd.float .f64) (w0 := w) w.heap.size rfl (.tmp 76) (.tmp 77) 27 41 (.float .f64 0) 8 rfl Try.underlying27 info41 rfl (by decide) (by omega) v286 y285 t263 _ _ _ (fun k_ => some k_ ≠ (.slice Ao28 y249.length co28 : Value).ownBlock ∧ some k_ ≠ (.slice Ao42 t252.length co42 : Value).ownBlock ∧ some k_ ≠ (.slice Ao44 t263.length co44 : Value).ownBlock ∧ some k_ ≠ (v275 : Value).ownBlock) (fun _ => False) rfl rfl ?aO ?aR (fun _ _ h => h) (fun _ h => h.elim) ?aF ?aB ?aS ?aL ?_; (case aR => repeat (first | exact (Kd.R_reads' HO_12.out).2.2 | (with_reducible first | apply cA | apply cN | apply cD))); (case aB => exact (bl_ HB)); (case aF => exact (fun k_ hk => ⟨Kd.fresh' (Kd.R_lt (by (with_reducible repeat (first | apply rA | apply rN | apply rD)); exact HO_8.out)) k_ hk, Kd.fresh' (Kd.R_lt (by (with_reducible repeat (first | apply rA | apply rN | apply rD)); exact HO_9.out)) k_ hk, Kd.fresh' (Kd.R_lt (by (with_reducible repeat (first | apply rA | apply rN | apply rD)); exact HO_12.out)) k_ hk, Kd.fresh' (Kd.R_lt (by (with_reducible repeat (first | apply rA | apply rN | apply rD)); exact HO_15.out)) k_ hk⟩)); (case aO => exact (by (with_reducible repeat (first | apply rA | apply rN | apply rD)); exact HO287.out)); (case aS => exact (below_size (bl_ HB))); (case aL => have := LMc39.out; omega); intro v289 w43 ho hb hg hat; rw [← Ny288.out] at ho; have n0_ := Aside0.mk (Kd.R_after (ok := (fun k_ => some k_ ≠ (.slice Ao42 t252.length co42 : Value).ownBlock ∧ some k_ ≠ (.slice Ao44 t263.length co44 : Value).ownBlock ∧ some k_ ≠ (v275 : Value).ownBlock)) (by (with_reducible repeat (first | apply rA | apply rN | apply rD)); exact HO_8.out) hg hat); have n1_ := Aside0.mk (Kd.R_after (ok := (fun k_ => some k_ ≠ (.slice Ao28 y249.length co28 : Value).ownBlock ∧ some k_ ≠ (.slice Ao44 t263.length co44 : Value).ownBlock ∧ some k_ ≠ (v275 : Value).ownBlock)) (by (with_reducible repeat (first | apply rA | apply rN | apply rD)); exact HO_9.out) hg hat); have n2_ := Aside0.mk (Kd.R_after (ok := (fun k_ => some k_ ≠ (.slice Ao28 y249.length co28 : Value).ownBlock ∧ some k_ ≠ (.slice Ao42 t252.length co42 : Value).ownBlock ∧ some k_ ≠ (v275 : Value).ownBlock)) (by (with_reducible repeat (first | apply rA | apply rN | apply rD)); exact HO_12.out) hg hat); have n3_ := Aside0.mk (Kd.R_after (ok := (fun k_ => some k_ ≠ (.slice Ao28 y249.length co28 : Value).ownBlock ∧ some k_ ≠ (.slice Ao42 t252.length co42 : Value).ownBlock ∧ some k_ ≠ (.slice Ao44 t263.length co44 : Value).ownBlock)) (by (with_reducible repeat (first | apply rA | apply rN | apply rD)); exact HO_15.out) hg hat); have n4_ := Aside0.mk (blk_grown (g := gb244) (o := .cells #[.int .i64 a2_0, .int .i64 a2_1] 23 (0, 0)) (bk_ BK244) hg (Kd.R_ne HO287.out BK244.out (by decide))); have n5_ := Aside0.mk (blk_grown (g := gb262) (o := .cells #[.int .i64 t255, .int .i64 t256, .int .i64 t257, .int .i64 t258, .int .i64 t259, .int .i64 t260] 30 (0, 0)) (bk_ BK262) hg (Kd.R_ne HO287.out BK262.out (by decide))); have n6_ := Aside0.mk (blk_grown (g := gb273) (o := .cells #[.int .i64 t266, .int .i64 t267, .int .i64 t268, .int .i64 t269, .int .i64 t270, .int .i64 t271] 30 (0, 0)) (bk_ BK273) hg (Kd.R_ne HO287.out BK273.out (by decide))); have n7_ := Aside0.mk (blk_grown (g := gb284) (o := .cells #[.int .i64 t277, .int .i64 t278, .int .i64 t279, .int .i64 t280, .int .i64 t281, .int .i64 t282] 30 (0, 0)) (bk_ BK284) hg (Kd.R_ne HO287.out BK284.out (by decide))); have n8_ := Aside0.mk (hb); have n9_ := Aside0.mk (ho); clear HO_8; clear HO_9; clear HO_12; clear HO_15; clear BK244; clear BK262; clear BK273; clear BK284; clear HB; clear HO287; have HO_8 := n0_; have HO_9 := n1_; have HO_12 := n2_; have HO_15 := n3_; have BK244 := n4_; have BK262 := n5_; have BK273 := n6_; have BK284 := n7_; have HB := n8_; have HO290 := n9_; clear n0_ n1_ n2_ n3_ n4_ n5_ n6_ n7_ n8_ n9_; clear ho hb hg hat))
          (try simp only [Act.put, List.setIfInBounds_toArray, List.set_cons_zero, List.set_cons_succ])
          go_cut [112] (fun v112 wc => ∃ (kq : Nat) (x112_39 : Bool), v112 = .bool x112_39 ∧ Aside0 (steelyardlaw06_PolicyParts.j1 kq t274 x112_39 t277 t278 t279 t280 t281 t282 = some r) ∧ Aside0 (kq ≤ kj10) ∧ Aside0 (Kd.R (Kd.float .f64) 41 wc w.heap.size (fun _ => True) v275 t274) ∧ Aside0 (wc.heap[gb244]? = some (.cells #[.int .i64 a2_0, .int .i64 a2_1] 23 (0, 0))) ∧ Aside0 (wc.heap[gb262]? = some (.cells #[.int .i64 t255, .int .i64 t256, .int .i64 t257, .int .i64 t258, .int .i64 t259, .int .i64 t260] 30 (0, 0))) ∧ Aside0 (wc.heap[gb273]? = some (.cells #[.int .i64 t266, .int .i64 t267, .int .i64 t268, .int .i64 t269, .int .i64 t270, .int .i64 t271] 30 (0, 0))) ∧ Aside0 (wc.heap[gb284]? = some (.cells #[.int .i64 t277, .int .i64 t278, .int .i64 t279, .int .i64 t280, .int .i64 t281, .int .i64 t282] 30 (0, 0))) ∧ Aside0 (Below w.heap.size w wc))
          case first =>
           have H := HC40.out
           clear HC40
           obtain ⟨⟨t291, t292, t293, t294, t295, t296⟩, A45, H⟩ := ob_ H
           try dsimp only at H
           by_cases c46 : (!(t277 == t291) || (!(t278 == t292) || (!(t279 == t293) || (!(t280 == t294) || (!(t281 == t295) || (!(t282 == t296))))))) = true
           ·rw [if_pos c46] at H
            have c46b0 : (!(t277 == t291) || (!(t278 == t292) || (!(t279 == t293) || (!(t280 == t294) || (!(t281 == t295) || (!(t282 == t296))))))) = true := c46
            clear c46
            (first | rw [c46b0] | (simp only [i64_w, i32_w]; rw [c46b0]) | skip)
            have H' := Aside0.mk H
            clear H
            try go_wp2
            have n0_ := Aside0.mk (Kd.R_drew HO_8.out)
            have n1_ := Aside0.mk (Kd.R_drew HO_9.out)
            have n2_ := Aside0.mk (Kd.R_drew HO_12.out)
            have n3_ := Aside0.mk (Kd.R_drew HO_15.out)
            have n4_ := Aside0.mk (Kd.R_drew HO290.out)
            have n5_ := Aside0.mk (blk_drew BK244.out)
            have n6_ := Aside0.mk (blk_drew BK262.out)
            have n7_ := Aside0.mk (blk_drew BK273.out)
            have n8_ := Aside0.mk (blk_drew BK284.out)
            have n9_ := Aside0.mk (below_drew1 HB.out)
            clear HO_8
            clear HO_9
            clear HO_12
            clear HO_15
            clear HO290
            clear BK244
            clear BK262
            clear BK273
            clear BK284
            clear HB
            have HO_8 := n0_
            have HO_9 := n1_
            have HO_12 := n2_
            have HO_15 := n3_
            have HO290 := n4_
            have BK244 := n5_
            have BK262 := n6_
            have BK273 := n7_
            have BK284 := n8_
            have HB := n9_
            clear n0_ n1_ n2_ n3_ n4_ n5_ n6_ n7_ n8_ n9_
            refine start_ (n := 34) (S := fun w' => w'.cell? ⟨gb284, 0, none⟩ = some (.int .i64 t277) ∧ w'.cell? ⟨gb284, 1, none⟩ = some (.int .i64 t278) ∧ w'.cell? ⟨gb284, 2, none⟩ = some (.int .i64 t279) ∧ w'.cell? ⟨gb284, 3, none⟩ = some (.int .i64 t280) ∧ w'.cell? ⟨gb284, 4, none⟩ = some (.int .i64 t281) ∧ w'.cell? ⟨gb284, 5, none⟩ = some (.int .i64 t282) ∧ w'.cell? ⟨gb262, 0, none⟩ = some (.int .i64 t255) ∧ w'.cell? ⟨gb262, 1, none⟩ = some (.int .i64 t256) ∧ w'.cell? ⟨gb262, 2, none⟩ = some (.int .i64 t257) ∧ w'.cell? ⟨gb262, 3, none⟩ = some (.int .i64 t258) ∧ w'.cell? ⟨gb262, 4, none⟩ = some (.int .i64 t259) ∧ w'.cell? ⟨gb262, 5, none⟩ = some (.int .i64 t260) ∧ w'.cell? ⟨gb273, 0, none⟩ = some (.int .i64 t266) ∧ w'.cell? ⟨gb273, 1, none⟩ = some (.int .i64 t267) ∧ w'.cell? ⟨gb273, 2, none⟩ = some (.int .i64 t268) ∧ w'.cell? ⟨gb273, 3, none⟩ = some (.int .i64 t269) ∧ w'.cell? ⟨gb273, 4, none⟩ = some (.int .i64 t270) ∧ w'.cell? ⟨gb273, 5, none⟩ = some (.int .i64 t271)) (ds := []) #[false, false, false, false, false, false, false, false, false, false, false, false, false, false, false, false, false, false, false, false, false, false, false, false, false, false, false, false, false, false, false, false, false, false] (by kernel_rfl) rfl rfl ⟨(blk_cell BK284.out 0).trans rfl, (blk_cell BK284.out 1).trans rfl, (blk_cell BK284.out 2).trans rfl, (blk_cell BK284.out 3).trans rfl, (blk_cell BK284.out 4).trans rfl, (blk_cell BK284.out 5).trans rfl, (blk_cell BK262.out 0).trans rfl, (blk_cell BK262.out 1).trans rfl, (blk_cell BK262.out 2).trans rfl, (blk_cell BK262.out 3).trans rfl, (blk_cell BK262.out 4).trans rfl, (blk_cell BK262.out 5).trans rfl, (blk_cell BK273.out 0).trans rfl, (blk_cell BK273.out 1).trans rfl, (blk_cell BK273.out 2).trans rfl, (blk_cell BK273.out 3).trans rfl, (blk_cell BK273.out 4).trans rfl, (blk_cell BK273.out 5).trans rfl⟩ (fun hHeld => ?_); refine with_tabW steelyardlaw06_PolicyParts.tab17 steelyardlaw06_PolicyParts.bits17 (fun HT_ HW_ => ?_)
            generalize w43.drew = w47 at HO_8 HO_9 HO_12 HO_15 HO290 BK244 BK262 BK273 BK284 HB hHeld ⊢
            refine take_ (i := 0) (N := some 79) (v := ?_) (a' := ?_) #[true, false, false, false, false, false, false, false, false, false, false, false, false, false, false, false, false, false, false, false, false, false, false, false, false, false, false, false, false, false, false, false, false, false] rfl rfl (take_ofW HT_.out HW_.out (by kernel_rfl)) (fun _ _ _ h => h) (Or.inl ⟨by rfl, ?_⟩) hHeld ?_ ?_
            rotate_left
            ·rintro w' ⟨s0, s1, s2, s3, s4, s5, s6, s7, s8, s9, s10, s11, s12, s13, s14, s15, s16, s17⟩
             go_simp
             with_reducible rfl
            rotate_left
            ·simp only [Act.put, List.setIfInBounds_toArray, List.set_cons_zero, List.set_cons_succ, i64_w, i32_w]
             rfl
            refine take_ (i := 1) (N := some 80) (v := ?_) (a' := ?_) #[true, true, false, false, false, false, false, false, false, false, false, false, false, false, false, false, false, false, false, false, false, false, false, false, false, false, false, false, false, false, false, false, false, false] rfl rfl (take_ofW HT_.out HW_.out (by kernel_rfl)) (fun _ _ _ h => h) (Or.inl ⟨by rfl, ?_⟩) hHeld ?_ ?_
            rotate_left
            ·rintro w' ⟨s0, s1, s2, s3, s4, s5, s6, s7, s8, s9, s10, s11, s12, s13, s14, s15, s16, s17⟩
             go_simp
             with_reducible rfl
            rotate_left
            ·simp only [Act.put, List.setIfInBounds_toArray, List.set_cons_zero, List.set_cons_succ, i64_w, i32_w]
             rfl
            refine take_ (i := 2) (N := some 81) (v := ?_) (a' := ?_) #[true, true, true, false, false, false, false, false, false, false, false, false, false, false, false, false, false, false, false, false, false, false, false, false, false, false, false, false, false, false, false, false, false, false] rfl rfl (take_ofW HT_.out HW_.out (by kernel_rfl)) (fun _ _ _ h => h) (Or.inl ⟨by rfl, ?_⟩) hHeld ?_ ?_
            rotate_left
            ·rintro w' ⟨s0, s1, s2, s3, s4, s5, s6, s7, s8, s9, s10, s11, s12, s13, s14, s15, s16, s17⟩
             go_simp
             with_reducible rfl
            rotate_left
            ·simp only [Act.put, List.setIfInBounds_toArray, List.set_cons_zero, List.set_cons_succ, i64_w, i32_w]
             rfl
            refine one_ (i := 3) (N := some 82) #[true, true, true, true, false, false, false, false, false, false, false, false, false, false, false, false, false, false, false, false, false, false, false, false, false, false, false, false, false, false, false, false, false, false] rfl rfl (one_of HT_.out (by kernel_rfl)) (by decide) (fun K hK => ?_)
            refine goes_ Try.func23 (by kernel_rfl) rfl #[.agg #[.int .i64 t255, .int .i64 t256, .int .i64 t257, .int .i64 t258, .int .i64 t259, .int .i64 t260], .agg #[.int .i64 t266, .int .i64 t267, .int .i64 t268, .int .i64 t269, .int .i64 t270, .int .i64 t271]] (by rfl) rfl rfl (by (try simp only [List.map_toArray, List.map_cons, List.map_nil]); first | done | rfl | (simp only [List.length_drop, List.length_take]; rfl)) ?_
            with_reducible refine (steelyardlaw06_sum.calls t255 t256 t257 t258 t259 t260 t266 t267 t268 t269 t270 t271 t291 t292 t293 t294 t295 t296 _ A45.out).mono ?_
            rintro e w48 ⟨rfl, hb⟩
            refine ⟨_, rfl, ?_⟩
            have n0_ := Aside0.mk (Kd.R_below (by (with_reducible repeat (first | apply rA | apply rN | apply rD)); exact HO_8.out) hb)
            have n1_ := Aside0.mk (Kd.R_below (by (with_reducible repeat (first | apply rA | apply rN | apply rD)); exact HO_9.out) hb)
            have n2_ := Aside0.mk (Kd.R_below (by (with_reducible repeat (first | apply rA | apply rN | apply rD)); exact HO_12.out) hb)
            have n3_ := Aside0.mk (Kd.R_below (by (with_reducible repeat (first | apply rA | apply rN | apply rD)); exact HO_15.out) hb)
            have n4_ := Aside0.mk (Kd.R_below (by (with_reducible repeat (first | apply rA | apply rN | apply rD)); exact HO290.out) hb)
            have n5_ := kb_ BK244 hb
            have n6_ := kb_ BK262 hb
            have n7_ := kb_ BK273 hb
            have n8_ := kb_ BK284 hb
            have n9_ := bs_ HB hb
            clear HO_8
            clear HO_9
            clear HO_12
            clear HO_15
            clear HO290
            clear BK244
            clear BK262
            clear BK273
            clear BK284
            clear HB
            have HO_8 := n0_
            have HO_9 := n1_
            have HO_12 := n2_
            have HO_15 := n3_
            have HO290 := n4_
            have BK244 := n5_
            have BK262 := n6_
            have BK273 := n7_
            have BK284 := n8_
            have HB := n9_
            clear n0_ n1_ n2_ n3_ n4_ n5_ n6_ n7_ n8_ n9_
            (try clear hb)
            (try clear hb2)
            (try clear hk)
            (try clear hi)
            refine hK.out _ _ ⟨(blk_cell BK284.out 0).trans rfl, (blk_cell BK284.out 1).trans rfl, (blk_cell BK284.out 2).trans rfl, (blk_cell BK284.out 3).trans rfl, (blk_cell BK284.out 4).trans rfl, (blk_cell BK284.out 5).trans rfl, (blk_cell BK262.out 0).trans rfl, (blk_cell BK262.out 1).trans rfl, (blk_cell BK262.out 2).trans rfl, (blk_cell BK262.out 3).trans rfl, (blk_cell BK262.out 4).trans rfl, (blk_cell BK262.out 5).trans rfl, (blk_cell BK273.out 0).trans rfl, (blk_cell BK273.out 1).trans rfl, (blk_cell BK273.out 2).trans rfl, (blk_cell BK273.out 3).trans rfl, (blk_cell BK273.out 4).trans rfl, (blk_cell BK273.out 5).trans rfl⟩ (fun hHeld => ?_)
            clear hK K
            refine norm_ (a' := ?_) ?_ ?_
            rotate_left
            ·show Act.put _ (some 82) _ = _
             simp only [Act.put, List.setIfInBounds_toArray, List.set_cons_zero, List.set_cons_succ, i64_w, i32_w]
             rfl
            refine pure_ (i := 4) (N := some 83) (v := ?_) (a' := ?_) #[true, true, true, true, true, false, false, false, false, false, false, false, false, false, false, false, false, false, false, false, false, false, false, false, false, false, false, false, false, false, false, false, false, false] rfl rfl (any_of HT_.out (by kernel_rfl)) (fun _ _ _ h => h) (Or.inl ⟨by rfl, ?_⟩) ?_ ?_
            rotate_left
            ·intro w'
             go_simp
             with_reducible rfl
            rotate_left
            ·simp only [Act.put, List.setIfInBounds_toArray, List.set_cons_zero, List.set_cons_succ, i64_w, i32_w]
             rfl
            refine pure_ (i := 5) (N := some 84) (v := ?_) (a' := ?_) #[true, true, true, true, true, true, false, false, false, false, false, false, false, false, false, false, false, false, false, false, false, false, false, false, false, false, false, false, false, false, false, false, false, false] rfl rfl (any_of HT_.out (by kernel_rfl)) (fun _ _ _ h => h) (Or.inl ⟨by rfl, ?_⟩) ?_ ?_
            rotate_left
            ·intro w'
             go_simp
             with_reducible rfl
            rotate_left
            ·simp only [Act.put, List.setIfInBounds_toArray, List.set_cons_zero, List.set_cons_succ, i64_w, i32_w]
             rfl
            refine pure_ (i := 6) (N := some 85) (v := undef) (a' := ?_) #[true, true, true, true, true, true, true, false, false, false, false, false, false, false, false, false, false, false, false, false, false, false, false, false, false, false, false, false, false, false, false, false, false, false] rfl rfl (any_of HT_.out (by kernel_rfl)) (fun _ _ _ h => h) (Or.inr ⟨by rfl, rfl⟩) ?_ ?_
            rotate_left
            ·simp only [Act.put, List.setIfInBounds_toArray, List.set_cons_zero, List.set_cons_succ, i64_w, i32_w]
             rfl
            refine pure_ (i := 7) (N := some 86) (v := undef) (a' := ?_) #[true, true, true, true, true, true, true, true, false, false, false, false, false, false, false, false, false, false, false, false, false, false, false, false, false, false, false, false, false, false, false, false, false, false] rfl rfl (any_of HT_.out (by kernel_rfl)) (fun _ _ _ h => h) (Or.inr ⟨by rfl, rfl⟩) ?_ ?_
            rotate_left
            ·simp only [Act.put, List.setIfInBounds_toArray, List.set_cons_zero, List.set_cons_succ, i64_w, i32_w]
             rfl
            refine pure_ (i := 8) (N := some 87) (v := undef) (a' := ?_) #[true, true, true, true, true, true, true, true, true, false, false, false, false, false, false, false, false, false, false, false, false, false, false, false, false, false, false, false, false, false, false, false, false, false] rfl rfl (any_of HT_.out (by kernel_rfl)) (fun _ _ _ h => h) (Or.inr ⟨by rfl, rfl⟩) ?_ ?_
            rotate_left
            ·simp only [Act.put, List.setIfInBounds_toArray, List.set_cons_zero, List.set_cons_succ, i64_w, i32_w]
             rfl
            refine pure_ (i := 9) (N := some 88) (v := undef) (a' := ?_) #[true, true, true, true, true, true, true, true, true, true, false, false, false, false, false, false, false, false, false, false, false, false, false, false, false, false, false, false, false, false, false, false, false, false] rfl rfl (any_of HT_.out (by kernel_rfl)) (fun _ _ _ h => h) (Or.inr ⟨by rfl, rfl⟩) ?_ ?_
            rotate_left
            ·simp only [Act.put, List.setIfInBounds_toArray, List.set_cons_zero, List.set_cons_succ, i64_w, i32_w]
             rfl
            refine pure_ (i := 10) (N := some 89) (v := ?_) (a' := ?_) #[true, true, true, true, true, true, true, true, true, true, true, false, false, false, false, false, false, false, false, false, false, false, false, false, false, false, false, false, false, false, false, false, false, false] rfl rfl (any_of HT_.out (by kernel_rfl)) (fun _ _ _ h => h) (Or.inl ⟨by rfl, ?_⟩) ?_ ?_
            rotate_left
            ·intro w'
             go_simp
             with_reducible rfl
            rotate_left
            ·simp only [Act.put, List.setIfInBounds_toArray, List.set_cons_zero, List.set_cons_succ, i64_w, i32_w]
             rfl
            refine pure_ (i := 11) (N := some 90) (v := ?_) (a' := ?_) #[true, true, true, true, true, true, true, true, true, true, true, true, false, false, false, false, false, false, false, false, false, false, false, false, false, false, false, false, false, false, false, false, false, false] rfl rfl (any_of HT_.out (by kernel_rfl)) (fun _ _ _ h => h) (Or.inl ⟨by rfl, ?_⟩) ?_ ?_
            rotate_left
            ·intro w'
             go_simp
             with_reducible rfl
            rotate_left
            ·simp only [Act.put, List.setIfInBounds_toArray, List.set_cons_zero, List.set_cons_succ, i64_w, i32_w]
             rfl
            refine pure_ (i := 12) (N := some 91) (v := undef) (a' := ?_) #[true, true, true, true, true, true, true, true, true, true, true, true, true, false, false, false, false, false, false, false, false, false, false, false, false, false, false, false, false, false, false, false, false, false] rfl rfl (any_of HT_.out (by kernel_rfl)) (fun _ _ _ h => h) (Or.inr ⟨by rfl, rfl⟩) ?_ ?_
            rotate_left
            ·simp only [Act.put, List.setIfInBounds_toArray, List.set_cons_zero, List.set_cons_succ, i64_w, i32_w]
             rfl
            refine pure_ (i := 13) (N := some 92) (v := undef) (a' := ?_) #[true, true, true, true, true, true, true, true, true, true, true, true, true, true, false, false, false, false, false, false, false, false, false, false, false, false, false, false, false, false, false, false, false, false] rfl rfl (any_of HT_.out (by kernel_rfl)) (fun _ _ _ h => h) (Or.inr ⟨by rfl, rfl⟩) ?_ ?_
            rotate_left
            ·simp only [Act.put, List.setIfInBounds_toArray, List.set_cons_zero, List.set_cons_succ, i64_w, i32_w]
             rfl
            refine pure_ (i := 14) (N := some 93) (v := undef) (a' := ?_) #[true, true, true, true, true, true, true, true, true, true, true, true, true, true, true, false, false, false, false, false, false, false, false, false, false, false, false, false, false, false, false, false, false, false] rfl rfl (any_of HT_.out (by kernel_rfl)) (fun _ _ _ h => h) (Or.inr ⟨by rfl, rfl⟩) ?_ ?_
            rotate_left
            ·simp only [Act.put, List.setIfInBounds_toArray, List.set_cons_zero, List.set_cons_succ, i64_w, i32_w]
             rfl
            refine pure_ (i := 15) (N := some 94) (v := undef) (a' := ?_) #[true, true, true, true, true, true, true, true, true, true, true, true, true, true, true, true, false, false, false, false, false, false, false, false, false, false, false, false, false, false, false, false, false, false] rfl rfl (any_of HT_.out (by kernel_rfl)) (fun _ _ _ h => h) (Or.inr ⟨by rfl, rfl⟩) ?_ ?_
            rotate_left
            ·simp only [Act.put, List.setIfInBounds_toArray, List.set_cons_zero, List.set_cons_succ, i64_w, i32_w]
             rfl
            refine pure_ (i := 16) (N := some 95) (v := undef) (a' := ?_) #[true, true, true, true, true, true, true, true, true, true, true, true, true, true, true, true, true, false, false, false, false, false, false, false, false, false, false, false, false, false, false, false, false, false] rfl rfl (any_of HT_.out (by kernel_rfl)) (fun _ _ _ h => h) (Or.inr ⟨by rfl, rfl⟩) ?_ ?_
            rotate_left
            ·simp only [Act.put, List.setIfInBounds_toArray, List.set_cons_zero, List.set_cons_succ, i64_w, i32_w]
             rfl
            refine pure_ (i := 17) (N := some 96) (v := undef) (a' := ?_) #[true, true, true, true, true, true, true, true, true, true, true, true, true, true, true, true, true, true, false, false, false, false, false, false, false, false, false, false, false, false, false, false, false, false] rfl rfl (any_of HT_.out (by kernel_rfl)) (fun _ _ _ h => h) (Or.inr ⟨by rfl, rfl⟩) ?_ ?_
            rotate_left
            ·simp only [Act.put, List.setIfInBounds_toArray, List.set_cons_zero, List.set_cons_succ, i64_w, i32_w]
             rfl
            refine pure_ (i := 18) (N := some 97) (v := undef) (a' := ?_) #[true, true, true, true, true, true, true, true, true, true, true, true, true, true, true, true, true, true, true, false, false, false, false, false, false, false, false, false, false, false, false, false, false, false] rfl rfl (any_of HT_.out (by kernel_rfl)) (fun _ _ _ h => h) (Or.inr ⟨by rfl, rfl⟩) ?_ ?_
            rotate_left
            ·simp only [Act.put, List.setIfInBounds_toArray, List.set_cons_zero, List.set_cons_succ, i64_w, i32_w]
             rfl
            refine pure_ (i := 19) (N := some 98) (v := undef) (a' := ?_) #[true, true, true, true, true, true, true, true, true, true, true, true, true, true, true, true, true, true, true, true, false, false, false, false, false, false, false, false, false, false, false, false, false, false] rfl rfl (any_of HT_.out (by kernel_rfl)) (fun _ _ _ h => h) (Or.inr ⟨by rfl, rfl⟩) ?_ ?_
            rotate_left
            ·simp only [Act.put, List.setIfInBounds_toArray, List.set_cons_zero, List.set_cons_succ, i64_w, i32_w]
             rfl
            refine pure_ (i := 20) (N := some 99) (v := undef) (a' := ?_) #[true, true, true, true, true, true, true, true, true, true, true, true, true, true, true, true, true, true, true, true, true, false, false, false, false, false, false, false, false, false, false, false, false, false] rfl rfl (any_of HT_.out (by kernel_rfl)) (fun _ _ _ h => h) (Or.inr ⟨by rfl, rfl⟩) ?_ ?_
            rotate_left
            ·simp only [Act.put, List.setIfInBounds_toArray, List.set_cons_zero, List.set_cons_succ, i64_w, i32_w]
             rfl
            refine pure_ (i := 21) (N := some 100) (v := undef) (a' := ?_) #[true, true, true, true, true, true, true, true, true, true, true, true, true, true, true, true, true, true, true, true, true, true, false, false, false, false, false, false, false, false, false, false, false, false] rfl rfl (any_of HT_.out (by kernel_rfl)) (fun _ _ _ h => h) (Or.inr ⟨by rfl, rfl⟩) ?_ ?_
            rotate_left
            ·simp only [Act.put, List.setIfInBounds_toArray, List.set_cons_zero, List.set_cons_succ, i64_w, i32_w]
             rfl
            refine pure_ (i := 22) (N := some 101) (v := undef) (a' := ?_) #[true, true, true, true, true, true, true, true, true, true, true, true, true, true, true, true, true, true, true, true, true, true, true, false, false, false, false, false, false, false, false, false, false, false] rfl rfl (any_of HT_.out (by kernel_rfl)) (fun _ _ _ h => h) (Or.inr ⟨by rfl, rfl⟩) ?_ ?_
            rotate_left
            ·simp only [Act.put, List.setIfInBounds_toArray, List.set_cons_zero, List.set_cons_succ, i64_w, i32_w]
             rfl
            refine pure_ (i := 23) (N := some 102) (v := undef) (a' := ?_) #[true, true, true, true, true, true, true, true, true, true, true, true, true, true, true, true, true, true, true, true, true, true, true, true, false, false, false, false, false, false, false, false, false, false] rfl rfl (any_of HT_.out (by kernel_rfl)) (fun _ _ _ h => h) (Or.inr ⟨by rfl, rfl⟩) ?_ ?_
            rotate_left
            ·simp only [Act.put, List.setIfInBounds_toArray, List.set_cons_zero, List.set_cons_succ, i64_w, i32_w]
             rfl
            refine pure_ (i := 24) (N := some 103) (v := undef) (a' := ?_) #[true, true, true, true, true, true, true, true, true, true, true, true, true, true, true, true, true, true, true, true, true, true, true, true, true, false, false, false, false, false, false, false, false, false] rfl rfl (any_of HT_.out (by kernel_rfl)) (fun _ _ _ h => h) (Or.inr ⟨by rfl, rfl⟩) ?_ ?_
            rotate_left
            ·simp only [Act.put, List.setIfInBounds_toArray, List.set_cons_zero, List.set_cons_succ, i64_w, i32_w]
             rfl
            refine pure_ (i := 25) (N := some 104) (v := undef) (a' := ?_) #[true, true, true, true, true, true, true, true, true, true, true, true, true, true, true, true, true, true, true, true, true, true, true, true, true, true, false, false, false, false, false, false, false, false] rfl rfl (any_of HT_.out (by kernel_rfl)) (fun _ _ _ h => h) (Or.inr ⟨by rfl, rfl⟩) ?_ ?_
            rotate_left
            ·simp only [Act.put, List.setIfInBounds_toArray, List.set_cons_zero, List.set_cons_succ, i64_w, i32_w]
             rfl
            refine pure_ (i := 26) (N := some 105) (v := ?_) (a' := ?_) #[true, true, true, true, true, true, true, true, true, true, true, true, true, true, true, true, true, true, true, true, true, true, true, true, true, true, true, false, false, false, false, false, false, false] rfl rfl (any_of HT_.out (by kernel_rfl)) (fun _ _ _ h => h) (Or.inl ⟨by rfl, ?_⟩) ?_ ?_
            rotate_left
            ·intro w'
             go_simp
             with_reducible rfl
            rotate_left
            ·simp only [Act.put, List.setIfInBounds_toArray, List.set_cons_zero, List.set_cons_succ, i64_w, i32_w]
             rfl
            refine pure_ (i := 27) (N := some 106) (v := ?_) (a' := ?_) #[true, true, true, true, true, true, true, true, true, true, true, true, true, true, true, true, true, true, true, true, true, true, true, true, true, true, true, true, false, false, false, false, false, false] rfl rfl (any_of HT_.out (by kernel_rfl)) (fun _ _ _ h => h) (Or.inl ⟨by rfl, ?_⟩) ?_ ?_
            rotate_left
            ·intro w'
             go_simp
             with_reducible rfl
            rotate_left
            ·simp only [Act.put, List.setIfInBounds_toArray, List.set_cons_zero, List.set_cons_succ, i64_w, i32_w]
             rfl
            refine pure_ (i := 28) (N := some 107) (v := undef) (a' := ?_) #[true, true, true, true, true, true, true, true, true, true, true, true, true, true, true, true, true, true, true, true, true, true, true, true, true, true, true, true, true, false, false, false, false, false] rfl rfl (any_of HT_.out (by kernel_rfl)) (fun _ _ _ h => h) (Or.inr ⟨by rfl, rfl⟩) ?_ ?_
            rotate_left
            ·simp only [Act.put, List.setIfInBounds_toArray, List.set_cons_zero, List.set_cons_succ, i64_w, i32_w]
             rfl
            refine pure_ (i := 29) (N := some 108) (v := undef) (a' := ?_) #[true, true, true, true, true, true, true, true, true, true, true, true, true, true, true, true, true, true, true, true, true, true, true, true, true, true, true, true, true, true, false, false, false, false] rfl rfl (any_of HT_.out (by kernel_rfl)) (fun _ _ _ h => h) (Or.inr ⟨by rfl, rfl⟩) ?_ ?_
            rotate_left
            ·simp only [Act.put, List.setIfInBounds_toArray, List.set_cons_zero, List.set_cons_succ, i64_w, i32_w]
             rfl
            refine pure_ (i := 30) (N := some 109) (v := undef) (a' := ?_) #[true, true, true, true, true, true, true, true, true, true, true, true, true, true, true, true, true, true, true, true, true, true, true, true, true, true, true, true, true, true, true, false, false, false] rfl rfl (any_of HT_.out (by kernel_rfl)) (fun _ _ _ h => h) (Or.inr ⟨by rfl, rfl⟩) ?_ ?_
            rotate_left
            ·simp only [Act.put, List.setIfInBounds_toArray, List.set_cons_zero, List.set_cons_succ, i64_w, i32_w]
             rfl
            refine pure_ (i := 31) (N := some 110) (v := undef) (a' := ?_) #[true, true, true, true, true, true, true, true, true, true, true, true, true, true, true, true, true, true, true, true, true, true, true, true, true, true, true, true, true, true, true, true, false, false] rfl rfl (any_of HT_.out (by kernel_rfl)) (fun _ _ _ h => h) (Or.inr ⟨by rfl, rfl⟩) ?_ ?_
            rotate_left
            ·simp only [Act.put, List.setIfInBounds_toArray, List.set_cons_zero, List.set_cons_succ, i64_w, i32_w]
             rfl
            refine pure_ (i := 32) (N := some 111) (v := undef) (a' := ?_) #[true, true, true, true, true, true, true, true, true, true, true, true, true, true, true, true, true, true, true, true, true, true, true, true, true, true, true, true, true, true, true, true, true, false] rfl rfl (any_of HT_.out (by kernel_rfl)) (fun _ _ _ h => h) (Or.inr ⟨by rfl, rfl⟩) ?_ ?_
            rotate_left
            ·simp only [Act.put, List.setIfInBounds_toArray, List.set_cons_zero, List.set_cons_succ, i64_w, i32_w]
             rfl
            refine pure_ (i := 33) (N := some 112) (v := ?_) (a' := ?_) #[true, true, true, true, true, true, true, true, true, true, true, true, true, true, true, true, true, true, true, true, true, true, true, true, true, true, true, true, true, true, true, true, true, true] rfl rfl (any_of HT_.out (by kernel_rfl)) (fun _ _ _ h => h) (Or.inl ⟨by rfl, ?_⟩) ?_ ?_
            rotate_left
            ·intro w'
             go_simp
             with_reducible rfl
            rotate_left
            ·simp only [Act.put, List.setIfInBounds_toArray, List.set_cons_zero, List.set_cons_succ, i64_w, i32_w]
             rfl
            refine done_ (done_of HT_.out (by kernel_rfl)) ?_
            try go_wp2
            go_meet
            case rel => exact ⟨_, (true), (by first | rfl | (simp; done) | (simp [*]; done)), H', ⟨by have := HJ10.out; first | omega | exact Nat.le_refl _⟩, ⟨by (with_reducible repeat (first | apply rA | apply rN | apply rD)); exact Kd.R_mono HO_15.out (fun _ hk => trivial)⟩, ⟨by (with_reducible repeat (first | apply bN | apply bD | apply bA)); exact BK244.out⟩, ⟨by (with_reducible repeat (first | apply bN | apply bD | apply bA)); exact BK262.out⟩, ⟨by (with_reducible repeat (first | apply bN | apply bD | apply bA)); exact BK273.out⟩, ⟨by (with_reducible repeat (first | apply bN | apply bD | apply bA)); exact BK284.out⟩, ⟨bl_ HB⟩⟩
           ·rw [if_neg c46] at H
            have c46b0 : (!(t277 == t291) || (!(t278 == t292) || (!(t279 == t293) || (!(t280 == t294) || (!(t281 == t295) || (!(t282 == t296))))))) = false := by simpa using c46
            clear c46
            (first | rw [c46b0] | (simp only [i64_w, i32_w]; rw [c46b0]) | skip)
            obtain ⟨t297, A49, H⟩ := ob_ H
            try dsimp only at H
            by_cases c50 : t297 = true
            ·subst c50
             have H1 : (if (wrap64 ((wrap64 ((wrap64 ((t274.length : Int) + t277)) + t278)) + t279)) = (y249.length : Int) then (steelyardlaw06_PolicyParts.j1 kj10 t274 (t282 != (y249.length : Int)) t277 t278 t279 t280 t281 t282) else (steelyardlaw06_PolicyParts.j1 kj10 t274 true t277 t278 t279 t280 t281 t282)) = some r := by rw [if_pos rfl] at H; exact H
             clear H
             have H := H1
             clear H1
             by_cases c51 : (wrap64 ((wrap64 ((wrap64 ((t274.length : Int) + t277)) + t278)) + t279)) = (y249.length : Int)
             ·rw [if_pos c51] at H
              have c51b0 : ((wrap64 ((wrap64 ((wrap64 ((t274.length : Int) + t277)) + t278)) + t279)) == (y249.length : Int)) = true := beq_iff_eq.mpr c51
              have c51b1 : ((wrap64 ((wrap64 ((wrap64 ((t274.length : Int) + t277)) + t278)) + t279)) != (y249.length : Int)) = false := bne_eq_false_iff_eq.mpr c51
              clear c51
              have H' := Aside0.mk H
              clear H
              try go_wp2
              have n0_ := Aside0.mk (Kd.R_drew HO_8.out)
              have n1_ := Aside0.mk (Kd.R_drew HO_9.out)
              have n2_ := Aside0.mk (Kd.R_drew HO_12.out)
              have n3_ := Aside0.mk (Kd.R_drew HO_15.out)
              have n4_ := Aside0.mk (Kd.R_drew HO290.out)
              have n5_ := Aside0.mk (blk_drew BK244.out)
              have n6_ := Aside0.mk (blk_drew BK262.out)
              have n7_ := Aside0.mk (blk_drew BK273.out)
              have n8_ := Aside0.mk (blk_drew BK284.out)
              have n9_ := Aside0.mk (below_drew1 HB.out)
              clear HO_8
              clear HO_9
              clear HO_12
              clear HO_15
              clear HO290
              clear BK244
              clear BK262
              clear BK273
              clear BK284
              clear HB
              have HO_8 := n0_
              have HO_9 := n1_
              have HO_12 := n2_
              have HO_15 := n3_
              have HO290 := n4_
              have BK244 := n5_
              have BK262 := n6_
              have BK273 := n7_
              have BK284 := n8_
              have HB := n9_
              clear n0_ n1_ n2_ n3_ n4_ n5_ n6_ n7_ n8_ n9_
              refine start_ (n := 34) (S := fun w' => w'.cell? ⟨gb284, 0, none⟩ = some (.int .i64 t277) ∧ w'.cell? ⟨gb284, 1, none⟩ = some (.int .i64 t278) ∧ w'.cell? ⟨gb284, 2, none⟩ = some (.int .i64 t279) ∧ w'.cell? ⟨gb284, 3, none⟩ = some (.int .i64 t280) ∧ w'.cell? ⟨gb284, 4, none⟩ = some (.int .i64 t281) ∧ w'.cell? ⟨gb284, 5, none⟩ = some (.int .i64 t282) ∧ w'.cell? ⟨gb262, 0, none⟩ = some (.int .i64 t255) ∧ w'.cell? ⟨gb262, 1, none⟩ = some (.int .i64 t256) ∧ w'.cell? ⟨gb262, 2, none⟩ = some (.int .i64 t257) ∧ w'.cell? ⟨gb262, 3, none⟩ = some (.int .i64 t258) ∧ w'.cell? ⟨gb262, 4, none⟩ = some (.int .i64 t259) ∧ w'.cell? ⟨gb262, 5, none⟩ = some (.int .i64 t260) ∧ w'.cell? ⟨gb273, 0, none⟩ = some (.int .i64 t266) ∧ w'.cell? ⟨gb273, 1, none⟩ = some (.int .i64 t267) ∧ w'.cell? ⟨gb273, 2, none⟩ = some (.int .i64 t268) ∧ w'.cell? ⟨gb273, 3, none⟩ = some (.int .i64 t269) ∧ w'.cell? ⟨gb273, 4, none⟩ = some (.int .i64 t270) ∧ w'.cell? ⟨gb273, 5, none⟩ = some (.int .i64 t271)) (ds := []) #[false, false, false, false, false, false, false, false, false, false, false, false, false, false, false, false, false, false, false, false, false, false, false, false, false, false, false, false, false, false, false, false, false, false] (by kernel_rfl) rfl rfl ⟨(blk_cell BK284.out 0).trans rfl, (blk_cell BK284.out 1).trans rfl, (blk_cell BK284.out 2).trans rfl, (blk_cell BK284.out 3).trans rfl, (blk_cell BK284.out 4).trans rfl, (blk_cell BK284.out 5).trans rfl, (blk_cell BK262.out 0).trans rfl, (blk_cell BK262.out 1).trans rfl, (blk_cell BK262.out 2).trans rfl, (blk_cell BK262.out 3).trans rfl, (blk_cell BK262.out 4).trans rfl, (blk_cell BK262.out 5).trans rfl, (blk_cell BK273.out 0).trans rfl, (blk_cell BK273.out 1).trans rfl, (blk_cell BK273.out 2).trans rfl, (blk_cell BK273.out 3).trans rfl, (blk_cell BK273.out 4).trans rfl, (blk_cell BK273.out 5).trans rfl⟩ (fun hHeld => ?_); refine with_tabW steelyardlaw06_PolicyParts.tab17 steelyardlaw06_PolicyParts.bits17 (fun HT_ HW_ => ?_)
              generalize w43.drew = w52 at HO_8 HO_9 HO_12 HO_15 HO290 BK244 BK262 BK273 BK284 HB hHeld ⊢
              refine take_ (i := 0) (N := some 79) (v := ?_) (a' := ?_) #[true, false, false, false, false, false, false, false, false, false, false, false, false, false, false, false, false, false, false, false, false, false, false, false, false, false, false, false, false, false, false, false, false, false] rfl rfl (take_ofW HT_.out HW_.out (by kernel_rfl)) (fun _ _ _ h => h) (Or.inl ⟨by rfl, ?_⟩) hHeld ?_ ?_
              rotate_left
              ·rintro w' ⟨s0, s1, s2, s3, s4, s5, s6, s7, s8, s9, s10, s11, s12, s13, s14, s15, s16, s17⟩
               go_simp
               with_reducible rfl
              rotate_left
              ·simp only [Act.put, List.setIfInBounds_toArray, List.set_cons_zero, List.set_cons_succ, i64_w, i32_w]
               rfl
              refine take_ (i := 1) (N := some 80) (v := ?_) (a' := ?_) #[true, true, false, false, false, false, false, false, false, false, false, false, false, false, false, false, false, false, false, false, false, false, false, false, false, false, false, false, false, false, false, false, false, false] rfl rfl (take_ofW HT_.out HW_.out (by kernel_rfl)) (fun _ _ _ h => h) (Or.inl ⟨by rfl, ?_⟩) hHeld ?_ ?_
              rotate_left
              ·rintro w' ⟨s0, s1, s2, s3, s4, s5, s6, s7, s8, s9, s10, s11, s12, s13, s14, s15, s16, s17⟩
               go_simp
               with_reducible rfl
              rotate_left
              ·simp only [Act.put, List.setIfInBounds_toArray, List.set_cons_zero, List.set_cons_succ, i64_w, i32_w]
               rfl
              refine take_ (i := 2) (N := some 81) (v := ?_) (a' := ?_) #[true, true, true, false, false, false, false, false, false, false, false, false, false, false, false, false, false, false, false, false, false, false, false, false, false, false, false, false, false, false, false, false, false, false] rfl rfl (take_ofW HT_.out HW_.out (by kernel_rfl)) (fun _ _ _ h => h) (Or.inl ⟨by rfl, ?_⟩) hHeld ?_ ?_
              rotate_left
              ·rintro w' ⟨s0, s1, s2, s3, s4, s5, s6, s7, s8, s9, s10, s11, s12, s13, s14, s15, s16, s17⟩
               go_simp
               with_reducible rfl
              rotate_left
              ·simp only [Act.put, List.setIfInBounds_toArray, List.set_cons_zero, List.set_cons_succ, i64_w, i32_w]
               rfl
              refine one_ (i := 3) (N := some 82) #[true, true, true, true, false, false, false, false, false, false, false, false, false, false, false, false, false, false, false, false, false, false, false, false, false, false, false, false, false, false, false, false, false, false] rfl rfl (one_of HT_.out (by kernel_rfl)) (by decide) (fun K hK => ?_)
              refine goes_ Try.func23 (by kernel_rfl) rfl #[.agg #[.int .i64 t255, .int .i64 t256, .int .i64 t257, .int .i64 t258, .int .i64 t259, .int .i64 t260], .agg #[.int .i64 t266, .int .i64 t267, .int .i64 t268, .int .i64 t269, .int .i64 t270, .int .i64 t271]] (by rfl) rfl rfl (by (try simp only [List.map_toArray, List.map_cons, List.map_nil]); first | done | rfl | (simp only [List.length_drop, List.length_take]; rfl)) ?_
              with_reducible refine (steelyardlaw06_sum.calls t255 t256 t257 t258 t259 t260 t266 t267 t268 t269 t270 t271 t291 t292 t293 t294 t295 t296 _ A45.out).mono ?_
              rintro e w53 ⟨rfl, hb⟩
              refine ⟨_, rfl, ?_⟩
              have n0_ := Aside0.mk (Kd.R_below (by (with_reducible repeat (first | apply rA | apply rN | apply rD)); exact HO_8.out) hb)
              have n1_ := Aside0.mk (Kd.R_below (by (with_reducible repeat (first | apply rA | apply rN | apply rD)); exact HO_9.out) hb)
              have n2_ := Aside0.mk (Kd.R_below (by (with_reducible repeat (first | apply rA | apply rN | apply rD)); exact HO_12.out) hb)
              have n3_ := Aside0.mk (Kd.R_below (by (with_reducible repeat (first | apply rA | apply rN | apply rD)); exact HO_15.out) hb)
              have n4_ := Aside0.mk (Kd.R_below (by (with_reducible repeat (first | apply rA | apply rN | apply rD)); exact HO290.out) hb)
              have n5_ := kb_ BK244 hb
              have n6_ := kb_ BK262 hb
              have n7_ := kb_ BK273 hb
              have n8_ := kb_ BK284 hb
              have n9_ := bs_ HB hb
              clear HO_8
              clear HO_9
              clear HO_12
              clear HO_15
              clear HO290
              clear BK244
              clear BK262
              clear BK273
              clear BK284
              clear HB
              have HO_8 := n0_
              have HO_9 := n1_
              have HO_12 := n2_
              have HO_15 := n3_
              have HO290 := n4_
              have BK244 := n5_
              have BK262 := n6_
              have BK273 := n7_
              have BK284 := n8_
              have HB := n9_
              clear n0_ n1_ n2_ n3_ n4_ n5_ n6_ n7_ n8_ n9_
              (try clear hb)
              (try clear hb2)
              (try clear hk)
              (try clear hi)
              obtain ⟨Ao54, co54, eo54⟩ := Kd.R_slice HO_15.out
              (first | subst eo54 | (injection eo54 with f1_ f2_ f3_; have f4_ := f1_.symm; have f5_ := f3_.symm; clear f1_ f2_ f3_; subst f4_; subst f5_))
              obtain ⟨Ao55, co55, eo55⟩ := Kd.R_slice HO290.out
              (first | subst eo55 | (injection eo55 with f1_ f2_ f3_; have f4_ := f1_.symm; have f5_ := f3_.symm; clear f1_ f2_ f3_; subst f4_; subst f5_))
              refine hK.out _ _ ⟨(blk_cell BK284.out 0).trans rfl, (blk_cell BK284.out 1).trans rfl, (blk_cell BK284.out 2).trans rfl, (blk_cell BK284.out 3).trans rfl, (blk_cell BK284.out 4).trans rfl, (blk_cell BK284.out 5).trans rfl, (blk_cell BK262.out 0).trans rfl, (blk_cell BK262.out 1).trans rfl, (blk_cell BK262.out 2).trans rfl, (blk_cell BK262.out 3).trans rfl, (blk_cell BK262.out 4).trans rfl, (blk_cell BK262.out 5).trans rfl, (blk_cell BK273.out 0).trans rfl, (blk_cell BK273.out 1).trans rfl, (blk_cell BK273.out 2).trans rfl, (blk_cell BK273.out 3).trans rfl, (blk_cell BK273.out 4).trans rfl, (blk_cell BK273.out 5).trans rfl⟩ (fun hHeld => ?_)
              clear hK K
              refine norm_ (a' := ?_) ?_ ?_
              rotate_left
              ·show Act.put _ (some 82) _ = _
               simp only [Act.put, List.setIfInBounds_toArray, List.set_cons_zero, List.set_cons_succ, i64_w, i32_w]
               rfl
              refine pure_ (i := 4) (N := some 83) (v := ?_) (a' := ?_) #[true, true, true, true, true, false, false, false, false, false, false, false, false, false, false, false, false, false, false, false, false, false, false, false, false, false, false, false, false, false, false, false, false, false] rfl rfl (any_of HT_.out (by kernel_rfl)) (fun _ _ _ h => h) (Or.inl ⟨by rfl, ?_⟩) ?_ ?_
              rotate_left
              ·intro w'
               go_simp
               with_reducible rfl
              rotate_left
              ·simp only [Act.put, List.setIfInBounds_toArray, List.set_cons_zero, List.set_cons_succ, i64_w, i32_w]
               rfl
              refine pure_ (i := 5) (N := some 84) (v := ?_) (a' := ?_) #[true, true, true, true, true, true, false, false, false, false, false, false, false, false, false, false, false, false, false, false, false, false, false, false, false, false, false, false, false, false, false, false, false, false] rfl rfl (any_of HT_.out (by kernel_rfl)) (fun _ _ _ h => h) (Or.inl ⟨by rfl, ?_⟩) ?_ ?_
              rotate_left
              ·intro w'
               go_simp
               with_reducible rfl
              rotate_left
              ·simp only [Act.put, List.setIfInBounds_toArray, List.set_cons_zero, List.set_cons_succ, i64_w, i32_w]
               rfl
              refine pure_ (i := 6) (N := some 85) (v := ?_) (a' := ?_) #[true, true, true, true, true, true, true, false, false, false, false, false, false, false, false, false, false, false, false, false, false, false, false, false, false, false, false, false, false, false, false, false, false, false] rfl rfl (any_of HT_.out (by kernel_rfl)) (fun _ _ _ h => h) (Or.inl ⟨by rfl, ?_⟩) ?_ ?_
              rotate_left
              ·intro w'
               go_simp
               with_reducible rfl
              rotate_left
              ·simp only [Act.put, List.setIfInBounds_toArray, List.set_cons_zero, List.set_cons_succ, i64_w, i32_w]
               rfl
              refine pure_ (i := 7) (N := some 86) (v := ?_) (a' := ?_) #[true, true, true, true, true, true, true, true, false, false, false, false, false, false, false, false, false, false, false, false, false, false, false, false, false, false, false, false, false, false, false, false, false, false] rfl rfl (any_of HT_.out (by kernel_rfl)) (fun _ _ _ h => h) (Or.inl ⟨by rfl, ?_⟩) ?_ ?_
              rotate_left
              ·intro w'
               go_simp
               with_reducible rfl
              rotate_left
              ·simp only [Act.put, List.setIfInBounds_toArray, List.set_cons_zero, List.set_cons_succ, i64_w, i32_w]
               rfl
              refine one_ (i := 8) (N := some 87) #[true, true, true, true, true, true, true, true, true, false, false, false, false, false, false, false, false, false, false, false, false, false, false, false, false, false, false, false, false, false, false, false, false, false] rfl rfl (one_of HT_.out (by kernel_rfl)) (by decide) (fun K hK => ?_)
              refine goes_ Try.func15 (by kernel_rfl) rfl #[.slice Ao54 t274.length co54, .slice Ao55 y288.length co55] (by rfl) rfl rfl (by (try simp only [List.map_toArray, List.map_cons, List.map_nil]); first | done | rfl | (simp only [List.length_drop, List.length_take]; rfl)) ?_
              with_reducible refine (steelyardref03_AlikeLists.calls kj10 _ _ t274 _ _ y288 true _ ?side1 ?side2 ?side3 ?side4 A49.out).mono ?_
              (case side1 => repeat (first | exact (Kd.R_reads' HO_15.out).2.2 | (with_reducible first | apply cA | apply cN | apply cD)))
              (case side2 => exact (Kd.R_reads' HO_15.out).2.1)
              (case side3 => repeat (first | exact (Kd.R_reads' HO290.out).2.2 | (with_reducible first | apply cA | apply cN | apply cD)))
              (case side4 => exact (Kd.R_reads' HO290.out).2.1)
              rintro e w' ⟨rfl, ⟨nd, rfl⟩⟩
              refine ⟨_, rfl, ?_⟩
              refine hK.out _ _ ⟨(blk_cell BK284.out 0).trans rfl, (blk_cell BK284.out 1).trans rfl, (blk_cell BK284.out 2).trans rfl, (blk_cell BK284.out 3).trans rfl, (blk_cell BK284.out 4).trans rfl, (blk_cell BK284.out 5).trans rfl, (blk_cell BK262.out 0).trans rfl, (blk_cell BK262.out 1).trans rfl, (blk_cell BK262.out 2).trans rfl, (blk_cell BK262.out 3).trans rfl, (blk_cell BK262.out 4).trans rfl, (blk_cell BK262.out 5).trans rfl, (blk_cell BK273.out 0).trans rfl, (blk_cell BK273.out 1).trans rfl, (blk_cell BK273.out 2).trans rfl, (blk_cell BK273.out 3).trans rfl, (blk_cell BK273.out 4).trans rfl, (blk_cell BK273.out 5).trans rfl⟩ (fun hHeld => ?_)
              clear hK K
              refine norm_ (a' := ?_) ?_ ?_
              rotate_left
              ·show Act.put _ (some 87) _ = _
               simp only [Act.put, List.setIfInBounds_toArray, List.set_cons_zero, List.set_cons_succ, i64_w, i32_w]
               rfl
              refine pure_ (i := 9) (N := some 88) (v := ?_) (a' := ?_) #[true, true, true, true, true, true, true, true, true, true, false, false, false, false, false, false, false, false, false, false, false, false, false, false, false, false, false, false, false, false, false, false, false, false] rfl rfl (any_of HT_.out (by kernel_rfl)) (fun _ _ _ h => h) (Or.inl ⟨by rfl, ?_⟩) ?_ ?_
              rotate_left
              ·intro w'
               go_simp
               with_reducible rfl
              rotate_left
              ·simp only [Act.put, List.setIfInBounds_toArray, List.set_cons_zero, List.set_cons_succ, i64_w, i32_w]
               rfl
              refine pure_ (i := 10) (N := some 89) (v := ?_) (a' := ?_) #[true, true, true, true, true, true, true, true, true, true, true, false, false, false, false, false, false, false, false, false, false, false, false, false, false, false, false, false, false, false, false, false, false, false] rfl rfl (any_of HT_.out (by kernel_rfl)) (fun _ _ _ h => h) (Or.inl ⟨by rfl, ?_⟩) ?_ ?_
              rotate_left
              ·intro w'
               go_simp
               with_reducible rfl
              rotate_left
              ·simp only [Act.put, List.setIfInBounds_toArray, List.set_cons_zero, List.set_cons_succ, i64_w, i32_w]
               rfl
              refine pure_ (i := 11) (N := some 90) (v := ?_) (a' := ?_) #[true, true, true, true, true, true, true, true, true, true, true, true, false, false, false, false, false, false, false, false, false, false, false, false, false, false, false, false, false, false, false, false, false, false] rfl rfl (any_of HT_.out (by kernel_rfl)) (fun _ _ _ h => h) (Or.inl ⟨by rfl, ?_⟩) ?_ ?_
              rotate_left
              ·intro w'
               go_simp
               with_reducible rfl
              rotate_left
              ·simp only [Act.put, List.setIfInBounds_toArray, List.set_cons_zero, List.set_cons_succ, i64_w, i32_w]
               rfl
              refine pure_ (i := 12) (N := some 91) (v := ?_) (a' := ?_) #[true, true, true, true, true, true, true, true, true, true, true, true, true, false, false, false, false, false, false, false, false, false, false, false, false, false, false, false, false, false, false, false, false, false] rfl rfl (any_of HT_.out (by kernel_rfl)) (fun _ _ _ h => h) (Or.inl ⟨by rfl, ?_⟩) ?_ ?_
              rotate_left
              ·intro w'
               go_simp
               with_reducible rfl
              rotate_left
              ·simp only [Act.put, List.setIfInBounds_toArray, List.set_cons_zero, List.set_cons_succ, i64_w, i32_w]
               rfl
              refine pure_ (i := 13) (N := some 92) (v := ?_) (a' := ?_) #[true, true, true, true, true, true, true, true, true, true, true, true, true, true, false, false, false, false, false, false, false, false, false, false, false, false, false, false, false, false, false, false, false, false] rfl rfl (any_of HT_.out (by kernel_rfl)) (fun _ _ _ h => h) (Or.inl ⟨by rfl, ?_⟩) ?_ ?_
              rotate_left
              ·intro w'
               go_simp
               with_reducible rfl
              rotate_left
              ·simp only [Act.put, List.setIfInBounds_toArray, List.set_cons_zero, List.set_cons_succ, i64_w, i32_w]
               rfl
              refine pure_ (i := 14) (N := some 93) (v := ?_) (a' := ?_) #[true, true, true, true, true, true, true, true, true, true, true, true, true, true, true, false, false, false, false, false, false, false, false, false, false, false, false, false, false, false, false, false, false, false] rfl rfl (any_of HT_.out (by kernel_rfl)) (fun _ _ _ h => h) (Or.inl ⟨by rfl, ?_⟩) ?_ ?_
              rotate_left
              ·intro w'
               go_simp
               with_reducible rfl
              rotate_left
              ·simp only [Act.put, List.setIfInBounds_toArray, List.set_cons_zero, List.set_cons_succ, i64_w, i32_w]
               rfl
              refine pure_ (i := 17) (N := some 96) (v := ?_) (a' := ?_) #[true, true, true, true, true, true, true, true, true, true, true, true, true, true, true, false, false, true, false, false, false, false, false, false, false, false, false, false, false, false, false, false, false, false] rfl rfl (any_of HT_.out (by kernel_rfl)) (fun _ _ _ h => h) (Or.inl ⟨by rfl, ?_⟩) ?_ ?_
              rotate_left
              ·intro w'
               go_simp
               with_reducible rfl
              rotate_left
              ·simp only [Act.put, List.setIfInBounds_toArray, List.set_cons_zero, List.set_cons_succ, i64_w, i32_w]
               rfl
              refine pure_ (i := 20) (N := some 99) (v := ?_) (a' := ?_) #[true, true, true, true, true, true, true, true, true, true, true, true, true, true, true, false, false, true, false, false, true, false, false, false, false, false, false, false, false, false, false, false, false, false] rfl rfl (any_of HT_.out (by kernel_rfl)) (fun _ _ _ h => h) (Or.inl ⟨by rfl, ?_⟩) ?_ ?_
              rotate_left
              ·intro w'
               go_simp
               with_reducible rfl
              rotate_left
              ·simp only [Act.put, List.setIfInBounds_toArray, List.set_cons_zero, List.set_cons_succ, i64_w, i32_w]
               rfl
              refine pure_ (i := 23) (N := some 102) (v := ?_) (a' := ?_) #[true, true, true, true, true, true, true, true, true, true, true, true, true, true, true, false, false, true, false, false, true, false, false, true, false, false, false, false, false, false, false, false, false, false] rfl rfl (any_of HT_.out (by kernel_rfl)) (fun _ _ _ h => h) (Or.inl ⟨by rfl, ?_⟩) ?_ ?_
              rotate_left
              ·intro w'
               go_simp
               with_reducible rfl
              rotate_left
              ·simp only [Act.put, List.setIfInBounds_toArray, List.set_cons_zero, List.set_cons_succ, i64_w, i32_w]
               rfl
              refine pure_ (i := 24) (N := some 103) (v := ?_) (a' := ?_) #[true, true, true, true, true, true, true, true, true, true, true, true, true, true, true, false, false, true, false, false, true, false, false, true, true, false, false, false, false, false, false, false, false, false] rfl rfl (any_of HT_.out (by kernel_rfl)) (fun _ _ _ h => h) (Or.inl ⟨by rfl, ?_⟩) ?_ ?_
              rotate_left
              ·intro w'
               go_simp
               with_reducible rfl
              rotate_left
              ·simp only [Act.put, List.setIfInBounds_toArray, List.set_cons_zero, List.set_cons_succ, i64_w, i32_w]
               rfl
              refine take_ (i := 15) (N := some 94) (v := ?_) (a' := ?_) #[true, true, true, true, true, true, true, true, true, true, true, true, true, true, true, true, false, true, false, false, true, false, false, true, true, false, false, false, false, false, false, false, false, false] rfl rfl (take_ofW HT_.out HW_.out (by kernel_rfl)) (fun _ _ _ h => h) (Or.inl ⟨by rfl, ?_⟩) hHeld ?_ ?_
              rotate_left
              ·rintro w' ⟨s0, s1, s2, s3, s4, s5, s6, s7, s8, s9, s10, s11, s12, s13, s14, s15, s16, s17⟩
               go_simp
               with_reducible rfl
              rotate_left
              ·simp only [Act.put, List.setIfInBounds_toArray, List.set_cons_zero, List.set_cons_succ, i64_w, i32_w]
               rfl
              refine pure_ (i := 16) (N := some 95) (v := ?_) (a' := ?_) #[true, true, true, true, true, true, true, true, true, true, true, true, true, true, true, true, true, true, false, false, true, false, false, true, true, false, false, false, false, false, false, false, false, false] rfl rfl (any_of HT_.out (by kernel_rfl)) (fun _ _ _ h => h) (Or.inl ⟨by rfl, ?_⟩) ?_ ?_
              rotate_left
              ·intro w'
               go_simp
               with_reducible rfl
              rotate_left
              ·simp only [Act.put, List.setIfInBounds_toArray, List.set_cons_zero, List.set_cons_succ, i64_w, i32_w]
               rfl
              refine take_ (i := 18) (N := some 97) (v := ?_) (a' := ?_) #[true, true, true, true, true, true, true, true, true, true, true, true, true, true, true, true, true, true, true, false, true, false, false, true, true, false, false, false, false, false, false, false, false, false] rfl rfl (take_ofW HT_.out HW_.out (by kernel_rfl)) (fun _ _ _ h => h) (Or.inl ⟨by rfl, ?_⟩) hHeld ?_ ?_
              rotate_left
              ·rintro w' ⟨s0, s1, s2, s3, s4, s5, s6, s7, s8, s9, s10, s11, s12, s13, s14, s15, s16, s17⟩
               go_simp
               with_reducible rfl
              rotate_left
              ·simp only [Act.put, List.setIfInBounds_toArray, List.set_cons_zero, List.set_cons_succ, i64_w, i32_w]
               rfl
              refine pure_ (i := 19) (N := some 98) (v := ?_) (a' := ?_) #[true, true, true, true, true, true, true, true, true, true, true, true, true, true, true, true, true, true, true, true, true, false, false, true, true, false, false, false, false, false, false, false, false, false] rfl rfl (any_of HT_.out (by kernel_rfl)) (fun _ _ _ h => h) (Or.inl ⟨by rfl, ?_⟩) ?_ ?_
              rotate_left
              ·intro w'
               go_simp
               with_reducible rfl
              rotate_left
              ·simp only [Act.put, List.setIfInBounds_toArray, List.set_cons_zero, List.set_cons_succ, i64_w, i32_w]
               rfl
              refine take_ (i := 21) (N := some 100) (v := ?_) (a' := ?_) #[true, true, true, true, true, true, true, true, true, true, true, true, true, true, true, true, true, true, true, true, true, true, false, true, true, false, false, false, false, false, false, false, false, false] rfl rfl (take_ofW HT_.out HW_.out (by kernel_rfl)) (fun _ _ _ h => h) (Or.inl ⟨by rfl, ?_⟩) hHeld ?_ ?_
              rotate_left
              ·rintro w' ⟨s0, s1, s2, s3, s4, s5, s6, s7, s8, s9, s10, s11, s12, s13, s14, s15, s16, s17⟩
               go_simp
               with_reducible rfl
              rotate_left
              ·simp only [Act.put, List.setIfInBounds_toArray, List.set_cons_zero, List.set_cons_succ, i64_w, i32_w]
               rfl
              refine pure_ (i := 22) (N := some 101) (v := ?_) (a' := ?_) #[true, true, true, true, true, true, true, true, true, true, true, true, true, true, true, true, true, true, true, true, true, true, true, true, true, false, false, false, false, false, false, false, false, false] rfl rfl (any_of HT_.out (by kernel_rfl)) (fun _ _ _ h => h) (Or.inl ⟨by rfl, ?_⟩) ?_ ?_
              rotate_left
              ·intro w'
               go_simp
               with_reducible rfl
              rotate_left
              ·simp only [Act.put, List.setIfInBounds_toArray, List.set_cons_zero, List.set_cons_succ, i64_w, i32_w]
               rfl
              refine pure_ (i := 25) (N := some 104) (v := ?_) (a' := ?_) #[true, true, true, true, true, true, true, true, true, true, true, true, true, true, true, true, true, true, true, true, true, true, true, true, true, true, false, false, false, false, false, false, false, false] rfl rfl (any_of HT_.out (by kernel_rfl)) (fun _ _ _ h => h) (Or.inl ⟨by rfl, ?_⟩) ?_ ?_
              rotate_left
              ·intro w'
               go_simp
               with_reducible rfl
              rotate_left
              ·simp only [Act.put, List.setIfInBounds_toArray, List.set_cons_zero, List.set_cons_succ, i64_w, i32_w]
               rfl
              refine pure_ (i := 26) (N := some 105) (v := ?_) (a' := ?_) #[true, true, true, true, true, true, true, true, true, true, true, true, true, true, true, true, true, true, true, true, true, true, true, true, true, true, true, false, false, false, false, false, false, false] rfl rfl (any_of HT_.out (by kernel_rfl)) (fun _ _ _ h => h) (Or.inl ⟨by rfl, ?_⟩) ?_ ?_
              rotate_left
              ·intro w'
               go_simp
               with_reducible rfl
              rotate_left
              ·simp only [Act.put, List.setIfInBounds_toArray, List.set_cons_zero, List.set_cons_succ, i64_w, i32_w]
               rfl
              refine pure_ (i := 27) (N := some 106) (v := ?_) (a' := ?_) #[true, true, true, true, true, true, true, true, true, true, true, true, true, true, true, true, true, true, true, true, true, true, true, true, true, true, true, true, false, false, false, false, false, false] rfl rfl (any_of HT_.out (by kernel_rfl)) (fun _ _ _ h => h) (Or.inl ⟨by rfl, ?_⟩) ?_ ?_
              rotate_left
              ·intro w'
               go_simp
               with_reducible rfl
              rotate_left
              ·simp only [Act.put, List.setIfInBounds_toArray, List.set_cons_zero, List.set_cons_succ, i64_w, i32_w]
               rfl
              refine pure_ (i := 28) (N := some 107) (v := ?_) (a' := ?_) #[true, true, true, true, true, true, true, true, true, true, true, true, true, true, true, true, true, true, true, true, true, true, true, true, true, true, true, true, true, false, false, false, false, false] rfl rfl (any_of HT_.out (by kernel_rfl)) (fun _ _ _ h => h) (Or.inl ⟨by rfl, ?_⟩) ?_ ?_
              rotate_left
              ·intro w'
               go_simp
               with_reducible rfl
              rotate_left
              ·simp only [Act.put, List.setIfInBounds_toArray, List.set_cons_zero, List.set_cons_succ, i64_w, i32_w]
               rfl
              refine pure_ (i := 30) (N := some 109) (v := ?_) (a' := ?_) #[true, true, true, true, true, true, true, true, true, true, true, true, true, true, true, true, true, true, true, true, true, true, true, true, true, true, true, true, true, false, true, false, false, false] rfl rfl (any_of HT_.out (by kernel_rfl)) (fun _ _ _ h => h) (Or.inl ⟨by rfl, ?_⟩) ?_ ?_
              rotate_left
              ·intro w'
               go_simp
               with_reducible rfl
              rotate_left
              ·simp only [Act.put, List.setIfInBounds_toArray, List.set_cons_zero, List.set_cons_succ, i64_w, i32_w]
               rfl
              refine pure_ (i := 31) (N := some 110) (v := ?_) (a' := ?_) #[true, true, true, true, true, true, true, true, true, true, true, true, true, true, true, true, true, true, true, true, true, true, true, true, true, true, true, true, true, false, true, true, false, false] rfl rfl (any_of HT_.out (by kernel_rfl)) (fun _ _ _ h => h) (Or.inl ⟨by rfl, ?_⟩) ?_ ?_
              rotate_left
              ·intro w'
               go_simp
               with_reducible rfl
              rotate_left
              ·simp only [Act.put, List.setIfInBounds_toArray, List.set_cons_zero, List.set_cons_succ, i64_w, i32_w]
               rfl
              refine take_ (i := 29) (N := some 108) (v := ?_) (a' := ?_) #[true, true, true, true, true, true, true, true, true, true, true, true, true, true, true, true, true, true, true, true, true, true, true, true, true, true, true, true, true, true, true, true, false, false] rfl rfl (take_ofW HT_.out HW_.out (by kernel_rfl)) (fun _ _ _ h => h) (Or.inl ⟨by rfl, ?_⟩) hHeld ?_ ?_
              rotate_left
              ·rintro w' ⟨s0, s1, s2, s3, s4, s5, s6, s7, s8, s9, s10, s11, s12, s13, s14, s15, s16, s17⟩
               go_simp
               with_reducible rfl
              rotate_left
              ·simp only [Act.put, List.setIfInBounds_toArray, List.set_cons_zero, List.set_cons_succ, i64_w, i32_w]
               rfl
              refine pure_ (i := 32) (N := some 111) (v := ?_) (a' := ?_) #[true, true, true, true, true, true, true, true, true, true, true, true, true, true, true, true, true, true, true, true, true, true, true, true, true, true, true, true, true, true, true, true, true, false] rfl rfl (any_of HT_.out (by kernel_rfl)) (fun _ _ _ h => h) (Or.inl ⟨by rfl, ?_⟩) ?_ ?_
              rotate_left
              ·intro w'
               go_simp
               with_reducible rfl
              rotate_left
              ·simp only [Act.put, List.setIfInBounds_toArray, List.set_cons_zero, List.set_cons_succ, i64_w, i32_w]
               rfl
              refine pure_ (i := 33) (N := some 112) (v := ?_) (a' := ?_) #[true, true, true, true, true, true, true, true, true, true, true, true, true, true, true, true, true, true, true, true, true, true, true, true, true, true, true, true, true, true, true, true, true, true] rfl rfl (any_of HT_.out (by kernel_rfl)) (fun _ _ _ h => h) (Or.inl ⟨by rfl, ?_⟩) ?_ ?_
              rotate_left
              ·intro w'
               go_simp
               with_reducible rfl
              rotate_left
              ·simp only [Act.put, List.setIfInBounds_toArray, List.set_cons_zero, List.set_cons_succ, i64_w, i32_w]
               rfl
              refine done_ (done_of HT_.out (by kernel_rfl)) ?_
              try go_wp2
              go_meet
              case rel => exact ⟨_, ((t282 != (y249.length : Int))), (by first | rfl | (simp; done) | (simp [*]; done)), H', ⟨by have := HJ10.out; first | omega | exact Nat.le_refl _⟩, ⟨by (with_reducible repeat (first | apply rA | apply rN | apply rD)); exact Kd.R_mono HO_15.out (fun _ hk => trivial)⟩, ⟨by (with_reducible repeat (first | apply bN | apply bD | apply bA)); exact BK244.out⟩, ⟨by (with_reducible repeat (first | apply bN | apply bD | apply bA)); exact BK262.out⟩, ⟨by (with_reducible repeat (first | apply bN | apply bD | apply bA)); exact BK273.out⟩, ⟨by (with_reducible repeat (first | apply bN | apply bD | apply bA)); exact BK284.out⟩, ⟨bl_ HB⟩⟩
             ·rw [if_neg c51] at H
              have c51b0 : ((wrap64 ((wrap64 ((wrap64 ((t274.length : Int) + t277)) + t278)) + t279)) == (y249.length : Int)) = false := beq_eq_false_iff_ne.mpr c51
              have c51b1 : ((wrap64 ((wrap64 ((wrap64 ((t274.length : Int) + t277)) + t278)) + t279)) != (y249.length : Int)) = true := bne_iff_ne.mpr c51
              have H' := Aside0.mk H
              clear H
              try go_wp2
              have n0_ := Aside0.mk (Kd.R_drew HO_8.out)
              have n1_ := Aside0.mk (Kd.R_drew HO_9.out)
              have n2_ := Aside0.mk (Kd.R_drew HO_12.out)
              have n3_ := Aside0.mk (Kd.R_drew HO_15.out)
              have n4_ := Aside0.mk (Kd.R_drew HO290.out)
              have n5_ := Aside0.mk (blk_drew BK244.out)
              have n6_ := Aside0.mk (blk_drew BK262.out)
              have n7_ := Aside0.mk (blk_drew BK273.out)
              have n8_ := Aside0.mk (blk_drew BK284.out)
              have n9_ := Aside0.mk (below_drew1 HB.out)
              clear HO_8
              clear HO_9
              clear HO_12
              clear HO_15
              clear HO290
              clear BK244
              clear BK262
              clear BK273
              clear BK284
              clear HB
              have HO_8 := n0_
              have HO_9 := n1_
              have HO_12 := n2_
              have HO_15 := n3_
              have HO290 := n4_
              have BK244 := n5_
              have BK262 := n6_
              have BK273 := n7_
              have BK284 := n8_
              have HB := n9_
              clear n0_ n1_ n2_ n3_ n4_ n5_ n6_ n7_ n8_ n9_
              refine start_ (n := 34) (S := fun w' => w'.cell? ⟨gb284, 0, none⟩ = some (.int .i64 t277) ∧ w'.cell? ⟨gb284, 1, none⟩ = some (.int .i64 t278) ∧ w'.cell? ⟨gb284, 2, none⟩ = some (.int .i64 t279) ∧ w'.cell? ⟨gb284, 3, none⟩ = some (.int .i64 t280) ∧ w'.cell? ⟨gb284, 4, none⟩ = some (.int .i64 t281) ∧ w'.cell? ⟨gb284, 5, none⟩ = some (.int .i64 t282) ∧ w'.cell? ⟨gb262, 0, none⟩ = some (.int .i64 t255) ∧ w'.cell? ⟨gb262, 1, none⟩ = some (.int .i64 t256) ∧ w'.cell? ⟨gb262, 2, none⟩ = some (.int .i64 t257) ∧ w'.cell? ⟨gb262, 3, none⟩ = some (.int .i64 t258) ∧ w'.cell? ⟨gb262, 4, none⟩ = some (.int .i64 t259) ∧ w'.cell? ⟨gb262, 5, none⟩ = some (.int .i64 t260) ∧ w'.cell? ⟨gb273, 0, none⟩ = some (.int .i64 t266) ∧ w'.cell? ⟨gb273, 1, none⟩ = some (.int .i64 t267) ∧ w'.cell? ⟨gb273, 2, none⟩ = some (.int .i64 t268) ∧ w'.cell? ⟨gb273, 3, none⟩ = some (.int .i64 t269) ∧ w'.cell? ⟨gb273, 4, none⟩ = some (.int .i64 t270) ∧ w'.cell? ⟨gb273, 5, none⟩ = some (.int .i64 t271)) (ds := []) #[false, false, false, false, false, false, false, false, false, false, false, false, false, false, false, false, false, false, false, false, false, false, false, false, false, false, false, false, false, false, false, false, false, false] (by kernel_rfl) rfl rfl ⟨(blk_cell BK284.out 0).trans rfl, (blk_cell BK284.out 1).trans rfl, (blk_cell BK284.out 2).trans rfl, (blk_cell BK284.out 3).trans rfl, (blk_cell BK284.out 4).trans rfl, (blk_cell BK284.out 5).trans rfl, (blk_cell BK262.out 0).trans rfl, (blk_cell BK262.out 1).trans rfl, (blk_cell BK262.out 2).trans rfl, (blk_cell BK262.out 3).trans rfl, (blk_cell BK262.out 4).trans rfl, (blk_cell BK262.out 5).trans rfl, (blk_cell BK273.out 0).trans rfl, (blk_cell BK273.out 1).trans rfl, (blk_cell BK273.out 2).trans rfl, (blk_cell BK273.out 3).trans rfl, (blk_cell BK273.out 4).trans rfl, (blk_cell BK273.out 5).trans rfl⟩ (fun hHeld => ?_); refine with_tabW steelyardlaw06_PolicyParts.tab17 steelyardlaw06_PolicyParts.bits17 (fun HT_ HW_ => ?_)
              generalize w43.drew = w56 at HO_8 HO_9 HO_12 HO_15 HO290 BK244 BK262 BK273 BK284 HB hHeld ⊢
              refine take_ (i := 0) (N := some 79) (v := ?_) (a' := ?_) #[true, false, false, false, false, false, false, false, false, false, false, false, false, false, false, false, false, false, false, false, false, false, false, false, false, false, false, false, false, false, false, false, false, false] rfl rfl (take_ofW HT_.out HW_.out (by kernel_rfl)) (fun _ _ _ h => h) (Or.inl ⟨by rfl, ?_⟩) hHeld ?_ ?_
              rotate_left
              ·rintro w' ⟨s0, s1, s2, s3, s4, s5, s6, s7, s8, s9, s10, s11, s12, s13, s14, s15, s16, s17⟩
               go_simp
               with_reducible rfl
              rotate_left
              ·simp only [Act.put, List.setIfInBounds_toArray, List.set_cons_zero, List.set_cons_succ, i64_w, i32_w]
               rfl
              refine take_ (i := 1) (N := some 80) (v := ?_) (a' := ?_) #[true, true, false, false, false, false, false, false, false, false, false, false, false, false, false, false, false, false, false, false, false, false, false, false, false, false, false, false, false, false, false, false, false, false] rfl rfl (take_ofW HT_.out HW_.out (by kernel_rfl)) (fun _ _ _ h => h) (Or.inl ⟨by rfl, ?_⟩) hHeld ?_ ?_
              rotate_left
              ·rintro w' ⟨s0, s1, s2, s3, s4, s5, s6, s7, s8, s9, s10, s11, s12, s13, s14, s15, s16, s17⟩
               go_simp
               with_reducible rfl
              rotate_left
              ·simp only [Act.put, List.setIfInBounds_toArray, List.set_cons_zero, List.set_cons_succ, i64_w, i32_w]
               rfl
              refine take_ (i := 2) (N := some 81) (v := ?_) (a' := ?_) #[true, true, true, false, false, false, false, false, false, false, false, false, false, false, false, false, false, false, false, false, false, false, false, false, false, false, false, false, false, false, false, false, false, false] rfl rfl (take_ofW HT_.out HW_.out (by kernel_rfl)) (fun _ _ _ h => h) (Or.inl ⟨by rfl, ?_⟩) hHeld ?_ ?_
              rotate_left
              ·rintro w' ⟨s0, s1, s2, s3, s4, s5, s6, s7, s8, s9, s10, s11, s12, s13, s14, s15, s16, s17⟩
               go_simp
               with_reducible rfl
              rotate_left
              ·simp only [Act.put, List.setIfInBounds_toArray, List.set_cons_zero, List.set_cons_succ, i64_w, i32_w]
               rfl
              refine one_ (i := 3) (N := some 82) #[true, true, true, true, false, false, false, false, false, false, false, false, false, false, false, false, false, false, false, false, false, false, false, false, false, false, false, false, false, false, false, false, false, false] rfl rfl (one_of HT_.out (by kernel_rfl)) (by decide) (fun K hK => ?_)
              refine goes_ Try.func23 (by kernel_rfl) rfl #[.agg #[.int .i64 t255, .int .i64 t256, .int .i64 t257, .int .i64 t258, .int .i64 t259, .int .i64 t260], .agg #[.int .i64 t266, .int .i64 t267, .int .i64 t268, .int .i64 t269, .int .i64 t270, .int .i64 t271]] (by rfl) rfl rfl (by (try simp only [List.map_toArray, List.map_cons, List.map_nil]); first | done | rfl | (simp only [List.length_drop, List.length_take]; rfl)) ?_
              with_reducible refine (steelyardlaw06_sum.calls t255 t256 t257 t258 t259 t260 t266 t267 t268 t269 t270 t271 t291 t292 t293 t294 t295 t296 _ A45.out).mono ?_
              rintro e w57 ⟨rfl, hb⟩
              refine ⟨_, rfl, ?_⟩
              have n0_ := Aside0.mk (Kd.R_below (by (with_reducible repeat (first | apply rA | apply rN | apply rD)); exact HO_8.out) hb)
              have n1_ := Aside0.mk (Kd.R_below (by (with_reducible repeat (first | apply rA | apply rN | apply rD)); exact HO_9.out) hb)
              have n2_ := Aside0.mk (Kd.R_below (by (with_reducible repeat (first | apply rA | apply rN | apply rD)); exact HO_12.out) hb)
              have n3_ := Aside0.mk (Kd.R_below (by (with_reducible repeat (first | apply rA | apply rN | apply rD)); exact HO_15.out) hb)
              have n4_ := Aside0.mk (Kd.R_below (by (with_reducible repeat (first | apply rA | apply rN | apply rD)); exact HO290.out) hb)
              have n5_ := kb_ BK244 hb
              have n6_ := kb_ BK262 hb
              have n7_ := kb_ BK273 hb
              have n8_ := kb_ BK284 hb
              have n9_ := bs_ HB hb
              clear HO_8
              clear HO_9
              clear HO_12
              clear HO_15
              clear HO290
              clear BK244
              clear BK262
              clear BK273
              clear BK284
              clear HB
              have HO_8 := n0_
              have HO_9 := n1_
              have HO_12 := n2_
              have HO_15 := n3_
              have HO290 := n4_
              have BK244 := n5_
              have BK262 := n6_
              have BK273 := n7_
              have BK284 := n8_
              have HB := n9_
              clear n0_ n1_ n2_ n3_ n4_ n5_ n6_ n7_ n8_ n9_
              (try clear hb)
              (try clear hb2)
              (try clear hk)
              (try clear hi)
              obtain ⟨Ao58, co58, eo58⟩ := Kd.R_slice HO_15.out
              (first | subst eo58 | (injection eo58 with f1_ f2_ f3_; have f4_ := f1_.symm; have f5_ := f3_.symm; clear f1_ f2_ f3_; subst f4_; subst f5_))
              obtain ⟨Ao59, co59, eo59⟩ := Kd.R_slice HO290.out
              (first | subst eo59 | (injection eo59 with f1_ f2_ f3_; have f4_ := f1_.symm; have f5_ := f3_.symm; clear f1_ f2_ f3_; subst f4_; subst f5_))
              refine hK.out _ _ ⟨(blk_cell BK284.out 0).trans rfl, (blk_cell BK284.out 1).trans rfl, (blk_cell BK284.out 2).trans rfl, (blk_cell BK284.out 3).trans rfl, (blk_cell BK284.out 4).trans rfl, (blk_cell BK284.out 5).trans rfl, (blk_cell BK262.out 0).trans rfl, (blk_cell BK262.out 1).trans rfl, (blk_cell BK262.out 2).trans rfl, (blk_cell BK262.out 3).trans rfl, (blk_cell BK262.out 4).trans rfl, (blk_cell BK262.out 5).trans rfl, (blk_cell BK273.out 0).trans rfl, (blk_cell BK273.out 1).trans rfl, (blk_cell BK273.out 2).trans rfl, (blk_cell BK273.out 3).trans rfl, (blk_cell BK273.out 4).trans rfl, (blk_cell BK273.out 5).trans rfl⟩ (fun hHeld => ?_)
              clear hK K
              refine norm_ (a' := ?_) ?_ ?_
              rotate_left
              ·show Act.put _ (some 82) _ = _
               simp only [Act.put, List.setIfInBounds_toArray, List.set_cons_zero, List.set_cons_succ, i64_w, i32_w]
               rfl
              refine pure_ (i := 4) (N := some 83) (v := ?_) (a' := ?_) #[true, true, true, true, true, false, false, false, false, false, false, false, false, false, false, false, false, false, false, false, false, false, false, false, false, false, false, false, false, false, false, false, false, false] rfl rfl (any_of HT_.out (by kernel_rfl)) (fun _ _ _ h => h) (Or.inl ⟨by rfl, ?_⟩) ?_ ?_
              rotate_left
              ·intro w'
               go_simp
               with_reducible rfl
              rotate_left
              ·simp only [Act.put, List.setIfInBounds_toArray, List.set_cons_zero, List.set_cons_succ, i64_w, i32_w]
               rfl
              refine pure_ (i := 5) (N := some 84) (v := ?_) (a' := ?_) #[true, true, true, true, true, true, false, false, false, false, false, false, false, false, false, false, false, false, false, false, false, false, false, false, false, false, false, false, false, false, false, false, false, false] rfl rfl (any_of HT_.out (by kernel_rfl)) (fun _ _ _ h => h) (Or.inl ⟨by rfl, ?_⟩) ?_ ?_
              rotate_left
              ·intro w'
               go_simp
               with_reducible rfl
              rotate_left
              ·simp only [Act.put, List.setIfInBounds_toArray, List.set_cons_zero, List.set_cons_succ, i64_w, i32_w]
               rfl
              refine pure_ (i := 6) (N := some 85) (v := ?_) (a' := ?_) #[true, true, true, true, true, true, true, false, false, false, false, false, false, false, false, false, false, false, false, false, false, false, false, false, false, false, false, false, false, false, false, false, false, false] rfl rfl (any_of HT_.out (by kernel_rfl)) (fun _ _ _ h => h) (Or.inl ⟨by rfl, ?_⟩) ?_ ?_
              rotate_left
              ·intro w'
               go_simp
               with_reducible rfl
              rotate_left
              ·simp only [Act.put, List.setIfInBounds_toArray, List.set_cons_zero, List.set_cons_succ, i64_w, i32_w]
               rfl
              refine pure_ (i := 7) (N := some 86) (v := ?_) (a' := ?_) #[true, true, true, true, true, true, true, true, false, false, false, false, false, false, false, false, false, false, false, false, false, false, false, false, false, false, false, false, false, false, false, false, false, false] rfl rfl (any_of HT_.out (by kernel_rfl)) (fun _ _ _ h => h) (Or.inl ⟨by rfl, ?_⟩) ?_ ?_
              rotate_left
              ·intro w'
               go_simp
               with_reducible rfl
              rotate_left
              ·simp only [Act.put, List.setIfInBounds_toArray, List.set_cons_zero, List.set_cons_succ, i64_w, i32_w]
               rfl
              refine one_ (i := 8) (N := some 87) #[true, true, true, true, true, true, true, true, true, false, false, false, false, false, false, false, false, false, false, false, false, false, false, false, false, false, false, false, false, false, false, false, false, false] rfl rfl (one_of HT_.out (by kernel_rfl)) (by decide) (fun K hK => ?_)
              refine goes_ Try.func15 (by kernel_rfl) rfl #[.slice Ao58 t274.length co58, .slice Ao59 y288.length co59] (by rfl) rfl rfl (by (try simp only [List.map_toArray, List.map_cons, List.map_nil]); first | done | rfl | (simp only [List.length_drop, List.length_take]; rfl)) ?_
              with_reducible refine (steelyardref03_AlikeLists.calls kj10 _ _ t274 _ _ y288 true _ ?side1 ?side2 ?side3 ?side4 A49.out).mono ?_
              (case side1 => repeat (first | exact (Kd.R_reads' HO_15.out).2.2 | (with_reducible first | apply cA | apply cN | apply cD)))
              (case side2 => exact (Kd.R_reads' HO_15.out).2.1)
              (case side3 => repeat (first | exact (Kd.R_reads' HO290.out).2.2 | (with_reducible first | apply cA | apply cN | apply cD)))
              (case side4 => exact (Kd.R_reads' HO290.out).2.1)
              rintro e w' ⟨rfl, ⟨nd, rfl⟩⟩
              refine ⟨_, rfl, ?_⟩
              refine hK.out _ _ ⟨(blk_cell BK284.out 0).trans rfl, (blk_cell BK284.out 1).trans rfl, (blk_cell BK284.out 2).trans rfl, (blk_cell BK284.out 3).trans rfl, (blk_cell BK284.out 4).trans rfl, (blk_cell BK284.out 5).trans rfl, (blk_cell BK262.out 0).trans rfl, (blk_cell BK262.out 1).trans rfl, (blk_cell BK262.out 2).trans rfl, (blk_cell BK262.out 3).trans rfl, (blk_cell BK262.out 4).trans rfl, (blk_cell BK262.out 5).trans rfl, (blk_cell BK273.out 0).trans rfl, (blk_cell BK273.out 1).trans rfl, (blk_cell BK273.out 2).trans rfl, (blk_cell BK273.out 3).trans rfl, (blk_cell BK273.out 4).trans rfl, (blk_cell BK273.out 5).trans rfl⟩ (fun hHeld => ?_)
              clear hK K
              refine norm_ (a' := ?_) ?_ ?_
              rotate_left
              ·show Act.put _ (some 87) _ = _
               simp only [Act.put, List.setIfInBounds_toArray, List.set_cons_zero, List.set_cons_succ, i64_w, i32_w]
               rfl
              refine pure_ (i := 9) (N := some 88) (v := ?_) (a' := ?_) #[true, true, true, true, true, true, true, true, true, true, false, false, false, false, false, false, false, false, false, false, false, false, false, false, false, false, false, false, false, false, false, false, false, false] rfl rfl (any_of HT_.out (by kernel_rfl)) (fun _ _ _ h => h) (Or.inl ⟨by rfl, ?_⟩) ?_ ?_
              rotate_left
              ·intro w'
               go_simp
               with_reducible rfl
              rotate_left
              ·simp only [Act.put, List.setIfInBounds_toArray, List.set_cons_zero, List.set_cons_succ, i64_w, i32_w]
               rfl
              refine pure_ (i := 10) (N := some 89) (v := ?_) (a' := ?_) #[true, true, true, true, true, true, true, true, true, true, true, false, false, false, false, false, false, false, false, false, false, false, false, false, false, false, false, false, false, false, false, false, false, false] rfl rfl (any_of HT_.out (by kernel_rfl)) (fun _ _ _ h => h) (Or.inl ⟨by rfl, ?_⟩) ?_ ?_
              rotate_left
              ·intro w'
               go_simp
               with_reducible rfl
              rotate_left
              ·simp only [Act.put, List.setIfInBounds_toArray, List.set_cons_zero, List.set_cons_succ, i64_w, i32_w]
               rfl
              refine pure_ (i := 11) (N := some 90) (v := ?_) (a' := ?_) #[true, true, true, true, true, true, true, true, true, true, true, true, false, false, false, false, false, false, false, false, false, false, false, false, false, false, false, false, false, false, false, false, false, false] rfl rfl (any_of HT_.out (by kernel_rfl)) (fun _ _ _ h => h) (Or.inl ⟨by rfl, ?_⟩) ?_ ?_
              rotate_left
              ·intro w'
               go_simp
               with_reducible rfl
              rotate_left
              ·simp only [Act.put, List.setIfInBounds_toArray, List.set_cons_zero, List.set_cons_succ, i64_w, i32_w]
               rfl
              refine pure_ (i := 12) (N := some 91) (v := ?_) (a' := ?_) #[true, true, true, true, true, true, true, true, true, true, true, true, true, false, false, false, false, false, false, false, false, false, false, false, false, false, false, false, false, false, false, false, false, false] rfl rfl (any_of HT_.out (by kernel_rfl)) (fun _ _ _ h => h) (Or.inl ⟨by rfl, ?_⟩) ?_ ?_
              rotate_left
              ·intro w'
               go_simp
               with_reducible rfl
              rotate_left
              ·simp only [Act.put, List.setIfInBounds_toArray, List.set_cons_zero, List.set_cons_succ, i64_w, i32_w]
               rfl
              refine pure_ (i := 13) (N := some 92) (v := ?_) (a' := ?_) #[true, true, true, true, true, true, true, true, true, true, true, true, true, true, false, false, false, false, false, false, false, false, false, false, false, false, false, false, false, false, false, false, false, false] rfl rfl (any_of HT_.out (by kernel_rfl)) (fun _ _ _ h => h) (Or.inl ⟨by rfl, ?_⟩) ?_ ?_
              rotate_left
              ·intro w'
               go_simp
               with_reducible rfl
              rotate_left
              ·simp only [Act.put, List.setIfInBounds_toArray, List.set_cons_zero, List.set_cons_succ, i64_w, i32_w]
               rfl
              refine pure_ (i := 14) (N := some 93) (v := ?_) (a' := ?_) #[true, true, true, true, true, true, true, true, true, true, true, true, true, true, true, false, false, false, false, false, false, false, false, false, false, false, false, false, false, false, false, false, false, false] rfl rfl (any_of HT_.out (by kernel_rfl)) (fun _ _ _ h => h) (Or.inl ⟨by rfl, ?_⟩) ?_ ?_
              rotate_left
              ·intro w'
               go_simp
               with_reducible rfl
              rotate_left
              ·simp only [Act.put, List.setIfInBounds_toArray, List.set_cons_zero, List.set_cons_succ, i64_w, i32_w]
               rfl
              refine pure_ (i := 17) (N := some 96) (v := ?_) (a' := ?_) #[true, true, true, true, true, true, true, true, true, true, true, true, true, true, true, false, false, true, false, false, false, false, false, false, false, false, false, false, false, false, false, false, false, false] rfl rfl (any_of HT_.out (by kernel_rfl)) (fun _ _ _ h => h) (Or.inl ⟨by rfl, ?_⟩) ?_ ?_
              rotate_left
              ·intro w'
               go_simp
               with_reducible rfl
              rotate_left
              ·simp only [Act.put, List.setIfInBounds_toArray, List.set_cons_zero, List.set_cons_succ, i64_w, i32_w]
               rfl
              refine pure_ (i := 20) (N := some 99) (v := ?_) (a' := ?_) #[true, true, true, true, true, true, true, true, true, true, true, true, true, true, true, false, false, true, false, false, true, false, false, false, false, false, false, false, false, false, false, false, false, false] rfl rfl (any_of HT_.out (by kernel_rfl)) (fun _ _ _ h => h) (Or.inl ⟨by rfl, ?_⟩) ?_ ?_
              rotate_left
              ·intro w'
               go_simp
               with_reducible rfl
              rotate_left
              ·simp only [Act.put, List.setIfInBounds_toArray, List.set_cons_zero, List.set_cons_succ, i64_w, i32_w]
               rfl
              refine pure_ (i := 23) (N := some 102) (v := ?_) (a' := ?_) #[true, true, true, true, true, true, true, true, true, true, true, true, true, true, true, false, false, true, false, false, true, false, false, true, false, false, false, false, false, false, false, false, false, false] rfl rfl (any_of HT_.out (by kernel_rfl)) (fun _ _ _ h => h) (Or.inl ⟨by rfl, ?_⟩) ?_ ?_
              rotate_left
              ·intro w'
               go_simp
               with_reducible rfl
              rotate_left
              ·simp only [Act.put, List.setIfInBounds_toArray, List.set_cons_zero, List.set_cons_succ, i64_w, i32_w]
               rfl
              refine pure_ (i := 24) (N := some 103) (v := ?_) (a' := ?_) #[true, true, true, true, true, true, true, true, true, true, true, true, true, true, true, false, false, true, false, false, true, false, false, true, true, false, false, false, false, false, false, false, false, false] rfl rfl (any_of HT_.out (by kernel_rfl)) (fun _ _ _ h => h) (Or.inl ⟨by rfl, ?_⟩) ?_ ?_
              rotate_left
              ·intro w'
               go_simp
               with_reducible rfl
              rotate_left
              ·simp only [Act.put, List.setIfInBounds_toArray, List.set_cons_zero, List.set_cons_succ, i64_w, i32_w]
               rfl
              refine take_ (i := 15) (N := some 94) (v := ?_) (a' := ?_) #[true, true, true, true, true, true, true, true, true, true, true, true, true, true, true, true, false, true, false, false, true, false, false, true, true, false, false, false, false, false, false, false, false, false] rfl rfl (take_ofW HT_.out HW_.out (by kernel_rfl)) (fun _ _ _ h => h) (Or.inl ⟨by rfl, ?_⟩) hHeld ?_ ?_
              rotate_left
              ·rintro w' ⟨s0, s1, s2, s3, s4, s5, s6, s7, s8, s9, s10, s11, s12, s13, s14, s15, s16, s17⟩
               go_simp
               with_reducible rfl
              rotate_left
              ·simp only [Act.put, List.setIfInBounds_toArray, List.set_cons_zero, List.set_cons_succ, i64_w, i32_w]
               rfl
              refine pure_ (i := 16) (N := some 95) (v := ?_) (a' := ?_) #[true, true, true, true, true, true, true, true, true, true, true, true, true, true, true, true, true, true, false, false, true, false, false, true, true, false, false, false, false, false, false, false, false, false] rfl rfl (any_of HT_.out (by kernel_rfl)) (fun _ _ _ h => h) (Or.inl ⟨by rfl, ?_⟩) ?_ ?_
              rotate_left
              ·intro w'
               go_simp
               with_reducible rfl
              rotate_left
              ·simp only [Act.put, List.setIfInBounds_toArray, List.set_cons_zero, List.set_cons_succ, i64_w, i32_w]
               rfl
              refine take_ (i := 18) (N := some 97) (v := ?_) (a' := ?_) #[true, true, true, true, true, true, true, true, true, true, true, true, true, true, true, true, true, true, true, false, true, false, false, true, true, false, false, false, false, false, false, false, false, false] rfl rfl (take_ofW HT_.out HW_.out (by kernel_rfl)) (fun _ _ _ h => h) (Or.inl ⟨by rfl, ?_⟩) hHeld ?_ ?_
              rotate_left
              ·rintro w' ⟨s0, s1, s2, s3, s4, s5, s6, s7, s8, s9, s10, s11, s12, s13, s14, s15, s16, s17⟩
               go_simp
               with_reducible rfl
              rotate_left
              ·simp only [Act.put, List.setIfInBounds_toArray, List.set_cons_zero, List.set_cons_succ, i64_w, i32_w]
               rfl
              refine pure_ (i := 19) (N := some 98) (v := ?_) (a' := ?_) #[true, true, true, true, true, true, true, true, true, true, true, true, true, true, true, true, true, true, true, true, true, false, false, true, true, false, false, false, false, false, false, false, false, false] rfl rfl (any_of HT_.out (by kernel_rfl)) (fun _ _ _ h => h) (Or.inl ⟨by rfl, ?_⟩) ?_ ?_
              rotate_left
              ·intro w'
               go_simp
               with_reducible rfl
              rotate_left
              ·simp only [Act.put, List.setIfInBounds_toArray, List.set_cons_zero, List.set_cons_succ, i64_w, i32_w]
               rfl
              refine take_ (i := 21) (N := some 100) (v := ?_) (a' := ?_) #[true, true, true, true, true, true, true, true, true, true, true, true, true, true, true, true, true, true, true, true, true, true, false, true, true, false, false, false, false, false, false, false, false, false] rfl rfl (take_ofW HT_.out HW_.out (by kernel_rfl)) (fun _ _ _ h => h) (Or.inl ⟨by rfl, ?_⟩) hHeld ?_ ?_
              rotate_left
              ·rintro w' ⟨s0, s1, s2, s3, s4, s5, s6, s7, s8, s9, s10, s11, s12, s13, s14, s15, s16, s17⟩
               go_simp
               with_reducible rfl
              rotate_left
              ·simp only [Act.put, List.setIfInBounds_toArray, List.set_cons_zero, List.set_cons_succ, i64_w, i32_w]
               rfl
              refine pure_ (i := 22) (N := some 101) (v := ?_) (a' := ?_) #[true, true, true, true, true, true, true, true, true, true, true, true, true, true, true, true, true, true, true, true, true, true, true, true, true, false, false, false, false, false, false, false, false, false] rfl rfl (any_of HT_.out (by kernel_rfl)) (fun _ _ _ h => h) (Or.inl ⟨by rfl, ?_⟩) ?_ ?_
              rotate_left
              ·intro w'
               go_simp
               with_reducible rfl
              rotate_left
              ·simp only [Act.put, List.setIfInBounds_toArray, List.set_cons_zero, List.set_cons_succ, i64_w, i32_w]
               rfl
              refine pure_ (i := 25) (N := some 104) (v := ?_) (a' := ?_) #[true, true, true, true, true, true, true, true, true, true, true, true, true, true, true, true, true, true, true, true, true, true, true, true, true, true, false, false, false, false, false, false, false, false] rfl rfl (any_of HT_.out (by kernel_rfl)) (fun _ _ _ h => h) (Or.inl ⟨by rfl, ?_⟩) ?_ ?_
              rotate_left
              ·intro w'
               go_simp
               with_reducible rfl
              rotate_left
              ·simp only [Act.put, List.setIfInBounds_toArray, List.set_cons_zero, List.set_cons_succ, i64_w, i32_w]
               rfl
              refine pure_ (i := 26) (N := some 105) (v := ?_) (a' := ?_) #[true, true, true, true, true, true, true, true, true, true, true, true, true, true, true, true, true, true, true, true, true, true, true, true, true, true, true, false, false, false, false, false, false, false] rfl rfl (any_of HT_.out (by kernel_rfl)) (fun _ _ _ h => h) (Or.inl ⟨by rfl, ?_⟩) ?_ ?_
              rotate_left
              ·intro w'
               go_simp
               with_reducible rfl
              rotate_left
              ·simp only [Act.put, List.setIfInBounds_toArray, List.set_cons_zero, List.set_cons_succ, i64_w, i32_w]
               rfl
              refine pure_ (i := 27) (N := some 106) (v := ?_) (a' := ?_) #[true, true, true, true, true, true, true, true, true, true, true, true, true, true, true, true, true, true, true, true, true, true, true, true, true, true, true, true, false, false, false, false, false, false] rfl rfl (any_of HT_.out (by kernel_rfl)) (fun _ _ _ h => h) (Or.inl ⟨by rfl, ?_⟩) ?_ ?_
              rotate_left
              ·intro w'
               go_simp
               with_reducible rfl
              rotate_left
              ·simp only [Act.put, List.setIfInBounds_toArray, List.set_cons_zero, List.set_cons_succ, i64_w, i32_w]
               rfl
              refine pure_ (i := 28) (N := some 107) (v := undef) (a' := ?_) #[true, true, true, true, true, true, true, true, true, true, true, true, true, true, true, true, true, true, true, true, true, true, true, true, true, true, true, true, true, false, false, false, false, false] rfl rfl (any_of HT_.out (by kernel_rfl)) (fun _ _ _ h => h) (Or.inr ⟨by rfl, rfl⟩) ?_ ?_
              rotate_left
              ·simp only [Act.put, List.setIfInBounds_toArray, List.set_cons_zero, List.set_cons_succ, i64_w, i32_w]
               rfl
              refine pure_ (i := 29) (N := some 108) (v := undef) (a' := ?_) #[true, true, true, true, true, true, true, true, true, true, true, true, true, true, true, true, true, true, true, true, true, true, true, true, true, true, true, true, true, true, false, false, false, false] rfl rfl (any_of HT_.out (by kernel_rfl)) (fun _ _ _ h => h) (Or.inr ⟨by rfl, rfl⟩) ?_ ?_
              rotate_left
              ·simp only [Act.put, List.setIfInBounds_toArray, List.set_cons_zero, List.set_cons_succ, i64_w, i32_w]
               rfl
              refine pure_ (i := 30) (N := some 109) (v := undef) (a' := ?_) #[true, true, true, true, true, true, true, true, true, true, true, true, true, true, true, true, true, true, true, true, true, true, true, true, true, true, true, true, true, true, true, false, false, false] rfl rfl (any_of HT_.out (by kernel_rfl)) (fun _ _ _ h => h) (Or.inr ⟨by rfl, rfl⟩) ?_ ?_
              rotate_left
              ·simp only [Act.put, List.setIfInBounds_toArray, List.set_cons_zero, List.set_cons_succ, i64_w, i32_w]
               rfl
              refine pure_ (i := 31) (N := some 110) (v := undef) (a' := ?_) #[true, true, true, true, true, true, true, true, true, true, true, true, true, true, true, true, true, true, true, true, true, true, true, true, true, true, true, true, true, true, true, true, false, false] rfl rfl (any_of HT_.out (by kernel_rfl)) (fun _ _ _ h => h) (Or.inr ⟨by rfl, rfl⟩) ?_ ?_
              rotate_left
              ·simp only [Act.put, List.setIfInBounds_toArray, List.set_cons_zero, List.set_cons_succ, i64_w, i32_w]
               rfl
              refine pure_ (i := 32) (N := some 111) (v := undef) (a' := ?_) #[true, true, true, true, true, true, true, true, true, true, true, true, true, true, true, true, true, true, true, true, true, true, true, true, true, true, true, true, true, true, true, true, true, false] rfl rfl (any_of HT_.out (by kernel_rfl)) (fun _ _ _ h => h) (Or.inr ⟨by rfl, rfl⟩) ?_ ?_
              rotate_left
              ·simp only [Act.put, List.setIfInBounds_toArray, List.set_cons_zero, List.set_cons_succ, i64_w, i32_w]
               rfl
              refine pure_ (i := 33) (N := some 112) (v := ?_) (a' := ?_) #[true, true, true, true, true, true, true, true, true, true, true, true, true, true, true, true, true, true, true, true, true, true, true, true, true, true, true, true, true, true, true, true, true, true] rfl rfl (any_of HT_.out (by kernel_rfl)) (fun _ _ _ h => h) (Or.inl ⟨by rfl, ?_⟩) ?_ ?_
              rotate_left
              ·intro w'
               go_simp
               with_reducible rfl
              rotate_left
              ·simp only [Act.put, List.setIfInBounds_toArray, List.set_cons_zero, List.set_cons_succ, i64_w, i32_w]
               rfl
              refine done_ (done_of HT_.out (by kernel_rfl)) ?_
              try go_wp2
              go_meet
              case rel => exact ⟨_, (true), (by first | rfl | (simp; done) | (simp [*]; done)), H', ⟨by have := HJ10.out; first | omega | exact Nat.le_refl _⟩, ⟨by (with_reducible repeat (first | apply rA | apply rN | apply rD)); exact Kd.R_mono HO_15.out (fun _ hk => trivial)⟩, ⟨by (with_reducible repeat (first | apply bN | apply bD | apply bA)); exact BK244.out⟩, ⟨by (with_reducible repeat (first | apply bN | apply bD | apply bA)); exact BK262.out⟩, ⟨by (with_reducible repeat (first | apply bN | apply bD | apply bA)); exact BK273.out⟩, ⟨by (with_reducible repeat (first | apply bN | apply bD | apply bA)); exact BK284.out⟩, ⟨bl_ HB⟩⟩
            ·replace c50 := Bool.eq_false_iff.mpr c50
             subst c50
             have H1 : (steelyardlaw06_PolicyParts.j1 kj10 t274 true t277 t278 t279 t280 t281 t282) = some r := by rw [if_neg (show ¬ (false = true) by decide)] at H; exact H
             clear H
             have H := H1
             clear H1
             have H' := Aside0.mk H
             clear H
             try go_wp2
             have n0_ := Aside0.mk (Kd.R_drew HO_8.out)
             have n1_ := Aside0.mk (Kd.R_drew HO_9.out)
             have n2_ := Aside0.mk (Kd.R_drew HO_12.out)
             have n3_ := Aside0.mk (Kd.R_drew HO_15.out)
             have n4_ := Aside0.mk (Kd.R_drew HO290.out)
             have n5_ := Aside0.mk (blk_drew BK244.out)
             have n6_ := Aside0.mk (blk_drew BK262.out)
             have n7_ := Aside0.mk (blk_drew BK273.out)
             have n8_ := Aside0.mk (blk_drew BK284.out)
             have n9_ := Aside0.mk (below_drew1 HB.out)
             clear HO_8
             clear HO_9
             clear HO_12
             clear HO_15
             clear HO290
             clear BK244
             clear BK262
             clear BK273
             clear BK284
             clear HB
             have HO_8 := n0_
             have HO_9 := n1_
             have HO_12 := n2_
             have HO_15 := n3_
             have HO290 := n4_
             have BK244 := n5_
             have BK262 := n6_
             have BK273 := n7_
             have BK284 := n8_
             have HB := n9_
             clear n0_ n1_ n2_ n3_ n4_ n5_ n6_ n7_ n8_ n9_
             refine start_ (n := 34) (S := fun w' => w'.cell? ⟨gb284, 0, none⟩ = some (.int .i64 t277) ∧ w'.cell? ⟨gb284, 1, none⟩ = some (.int .i64 t278) ∧ w'.cell? ⟨gb284, 2, none⟩ = some (.int .i64 t279) ∧ w'.cell? ⟨gb284, 3, none⟩ = some (.int .i64 t280) ∧ w'.cell? ⟨gb284, 4, none⟩ = some (.int .i64 t281) ∧ w'.cell? ⟨gb284, 5, none⟩ = some (.int .i64 t282) ∧ w'.cell? ⟨gb262, 0, none⟩ = some (.int .i64 t255) ∧ w'.cell? ⟨gb262, 1, none⟩ = some (.int .i64 t256) ∧ w'.cell? ⟨gb262, 2, none⟩ = some (.int .i64 t257) ∧ w'.cell? ⟨gb262, 3, none⟩ = some (.int .i64 t258) ∧ w'.cell? ⟨gb262, 4, none⟩ = some (.int .i64 t259) ∧ w'.cell? ⟨gb262, 5, none⟩ = some (.int .i64 t260) ∧ w'.cell? ⟨gb273, 0, none⟩ = some (.int .i64 t266) ∧ w'.cell? ⟨gb273, 1, none⟩ = some (.int .i64 t267) ∧ w'.cell? ⟨gb273, 2, none⟩ = some (.int .i64 t268) ∧ w'.cell? ⟨gb273, 3, none⟩ = some (.int .i64 t269) ∧ w'.cell? ⟨gb273, 4, none⟩ = some (.int .i64 t270) ∧ w'.cell? ⟨gb273, 5, none⟩ = some (.int .i64 t271)) (ds := []) #[false, false, false, false, false, false, false, false, false, false, false, false, false, false, false, false, false, false, false, false, false, false, false, false, false, false, false, false, false, false, false, false, false, false] (by kernel_rfl) rfl rfl ⟨(blk_cell BK284.out 0).trans rfl, (blk_cell BK284.out 1).trans rfl, (blk_cell BK284.out 2).trans rfl, (blk_cell BK284.out 3).trans rfl, (blk_cell BK284.out 4).trans rfl, (blk_cell BK284.out 5).trans rfl, (blk_cell BK262.out 0).trans rfl, (blk_cell BK262.out 1).trans rfl, (blk_cell BK262.out 2).trans rfl, (blk_cell BK262.out 3).trans rfl, (blk_cell BK262.out 4).trans rfl, (blk_cell BK262.out 5).trans rfl, (blk_cell BK273.out 0).trans rfl, (blk_cell BK273.out 1).trans rfl, (blk_cell BK273.out 2).trans rfl, (blk_cell BK273.out 3).trans rfl, (blk_cell BK273.out 4).trans rfl, (blk_cell BK273.out 5).trans rfl⟩ (fun hHeld => ?_); refine with_tabW steelyardlaw06_PolicyParts.tab17 steelyardlaw06_PolicyParts.bits17 (fun HT_ HW_ => ?_)
             generalize w43.drew = w60 at HO_8 HO_9 HO_12 HO_15 HO290 BK244 BK262 BK273 BK284 HB hHeld ⊢
             refine take_ (i := 0) (N := some 79) (v := ?_) (a' := ?_) #[true, false, false, false, false, false, false, false, false, false, false, false, false, false, false, false, false, false, false, false, false, false, false, false, false, false, false, false, false, false, false, false, false, false] rfl rfl (take_ofW HT_.out HW_.out (by kernel_rfl)) (fun _ _ _ h => h) (Or.inl ⟨by rfl, ?_⟩) hHeld ?_ ?_
             rotate_left
             ·rintro w' ⟨s0, s1, s2, s3, s4, s5, s6, s7, s8, s9, s10, s11, s12, s13, s14, s15, s16, s17⟩
              go_simp
              with_reducible rfl
             rotate_left
             ·simp only [Act.put, List.setIfInBounds_toArray, List.set_cons_zero, List.set_cons_succ, i64_w, i32_w]
              rfl
             refine take_ (i := 1) (N := some 80) (v := ?_) (a' := ?_) #[true, true, false, false, false, false, false, false, false, false, false, false, false, false, false, false, false, false, false, false, false, false, false, false, false, false, false, false, false, false, false, false, false, false] rfl rfl (take_ofW HT_.out HW_.out (by kernel_rfl)) (fun _ _ _ h => h) (Or.inl ⟨by rfl, ?_⟩) hHeld ?_ ?_
             rotate_left
             ·rintro w' ⟨s0, s1, s2, s3, s4, s5, s6, s7, s8, s9, s10, s11, s12, s13, s14, s15, s16, s17⟩
              go_simp
              with_reducible rfl
             rotate_left
             ·simp only [Act.put, List.setIfInBounds_toArray, List.set_cons_zero, List.set_cons_succ, i64_w, i32_w]
              rfl
             refine take_ (i := 2) (N := some 81) (v := ?_) (a' := ?_) #[true, true, true, false, false, false, false, false, false, false, false, false, false, false, false, false, false, false, false, false, false, false, false, false, false, false, false, false, false, false, false, false, false, false] rfl rfl (take_ofW HT_.out HW_.out (by kernel_rfl)) (fun _ _ _ h => h) (Or.inl ⟨by rfl, ?_⟩) hHeld ?_ ?_
             rotate_left
             ·rintro w' ⟨s0, s1, s2, s3, s4, s5, s6, s7, s8, s9, s10, s11, s12, s13, s14, s15, s16, s17⟩
              go_simp
              with_reducible rfl
             rotate_left
             ·simp only [Act.put, List.setIfInBounds_toArray, List.set_cons_zero, List.set_cons_succ, i64_w, i32_w]
              rfl
             refine one_ (i := 3) (N := some 82) #[true, true, true, true, false, false, false, false, false, false, false, false, false, false, false, false, false, false, false, false, false, false, false, false, false, false, false, false, false, false, false, false, false, false] rfl rfl (one_of HT_.out (by kernel_rfl)) (by decide) (fun K hK => ?_)
             refine goes_ Try.func23 (by kernel_rfl) rfl #[.agg #[.int .i64 t255, .int .i64 t256, .int .i64 t257, .int .i64 t258, .int .i64 t259, .int .i64 t260], .agg #[.int .i64 t266, .int .i64 t267, .int .i64 t268, .int .i64 t269, .int .i64 t270, .int .i64 t271]] (by rfl) rfl rfl (by (try simp only [List.map_toArray, List.map_cons, List.map_nil]); first | done | rfl | (simp only [List.length_drop, List.length_take]; rfl)) ?_
             with_reducible refine (steelyardlaw06_sum.calls t255 t256 t257 t258 t259 t260 t266 t267 t268 t269 t270 t271 t291 t292 t293 t294 t295 t296 _ A45.out).mono ?_
             rintro e w61 ⟨rfl, hb⟩
             refine ⟨_, rfl, ?_⟩
             have n0_ := Aside0.mk (Kd.R_below (by (with_reducible repeat (first | apply rA | apply rN | apply rD)); exact HO_8.out) hb)
             have n1_ := Aside0.mk (Kd.R_below (by (with_reducible repeat (first | apply rA | apply rN | apply rD)); exact HO_9.out) hb)
             have n2_ := Aside0.mk (Kd.R_below (by (with_reducible repeat (first | apply rA | apply rN | apply rD)); exact HO_12.out) hb)
             have n3_ := Aside0.mk (Kd.R_below (by (with_reducible repeat (first | apply rA | apply rN | apply rD)); exact HO_15.out) hb)
             have n4_ := Aside0.mk (Kd.R_below (by (with_reducible repeat (first | apply rA | apply rN | apply rD)); exact HO290.out) hb)
             have n5_ := kb_ BK244 hb
             have n6_ := kb_ BK262 hb
             have n7_ := kb_ BK273 hb
             have n8_ := kb_ BK284 hb
             have n9_ := bs_ HB hb
             clear HO_8
             clear HO_9
             clear HO_12
             clear HO_15
             clear HO290
             clear BK244
             clear BK262
             clear BK273
             clear BK284
             clear HB
             have HO_8 := n0_
             have HO_9 := n1_
             have HO_12 := n2_
             have HO_15 := n3_
             have HO290 := n4_
             have BK244 := n5_
             have BK262 := n6_
             have BK273 := n7_
             have BK284 := n8_
             have HB := n9_
             clear n0_ n1_ n2_ n3_ n4_ n5_ n6_ n7_ n8_ n9_
             (try clear hb)
             (try clear hb2)
             (try clear hk)
             (try clear hi)
             obtain ⟨Ao62, co62, eo62⟩ := Kd.R_slice HO_15.out
             (first | subst eo62 | (injection eo62 with f1_ f2_ f3_; have f4_ := f1_.symm; have f5_ := f3_.symm; clear f1_ f2_ f3_; subst f4_; subst f5_))
             obtain ⟨Ao63, co63, eo63⟩ := Kd.R_slice HO290.out
             (first | subst eo63 | (injection eo63 with f1_ f2_ f3_; have f4_ := f1_.symm; have f5_ := f3_.symm; clear f1_ f2_ f3_; subst f4_; subst f5_))
             refine hK.out _ _ ⟨(blk_cell BK284.out 0).trans rfl, (blk_cell BK284.out 1).trans rfl, (blk_cell BK284.out 2).trans rfl, (blk_cell BK284.out 3).trans rfl, (blk_cell BK284.out 4).trans rfl, (blk_cell BK284.out 5).trans rfl, (blk_cell BK262.out 0).trans rfl, (blk_cell BK262.out 1).trans rfl, (blk_cell BK262.out 2).trans rfl, (blk_cell BK262.out 3).trans rfl, (blk_cell BK262.out 4).trans rfl, (blk_cell BK262.out 5).trans rfl, (blk_cell BK273.out 0).trans rfl, (blk_cell BK273.out 1).trans rfl, (blk_cell BK273.out 2).trans rfl, (blk_cell BK273.out 3).trans rfl, (blk_cell BK273.out 4).trans rfl, (blk_cell BK273.out 5).trans rfl⟩ (fun hHeld => ?_)
             clear hK K
             refine norm_ (a' := ?_) ?_ ?_
             rotate_left
             ·show Act.put _ (some 82) _ = _
              simp only [Act.put, List.setIfInBounds_toArray, List.set_cons_zero, List.set_cons_succ, i64_w, i32_w]
              rfl
             refine pure_ (i := 4) (N := some 83) (v := ?_) (a' := ?_) #[true, true, true, true, true, false, false, false, false, false, false, false, false, false, false, false, false, false, false, false, false, false, false, false, false, false, false, false, false, false, false, false, false, false] rfl rfl (any_of HT_.out (by kernel_rfl)) (fun _ _ _ h => h) (Or.inl ⟨by rfl, ?_⟩) ?_ ?_
             rotate_left
             ·intro w'
              go_simp
              with_reducible rfl
             rotate_left
             ·simp only [Act.put, List.setIfInBounds_toArray, List.set_cons_zero, List.set_cons_succ, i64_w, i32_w]
              rfl
             refine pure_ (i := 5) (N := some 84) (v := ?_) (a' := ?_) #[true, true, true, true, true, true, false, false, false, false, false, false, false, false, false, false, false, false, false, false, false, false, false, false, false, false, false, false, false, false, false, false, false, false] rfl rfl (any_of HT_.out (by kernel_rfl)) (fun _ _ _ h => h) (Or.inl ⟨by rfl, ?_⟩) ?_ ?_
             rotate_left
             ·intro w'
              go_simp
              with_reducible rfl
             rotate_left
             ·simp only [Act.put, List.setIfInBounds_toArray, List.set_cons_zero, List.set_cons_succ, i64_w, i32_w]
              rfl
             refine pure_ (i := 6) (N := some 85) (v := ?_) (a' := ?_) #[true, true, true, true, true, true, true, false, false, false, false, false, false, false, false, false, false, false, false, false, false, false, false, false, false, false, false, false, false, false, false, false, false, false] rfl rfl (any_of HT_.out (by kernel_rfl)) (fun _ _ _ h => h) (Or.inl ⟨by rfl, ?_⟩) ?_ ?_
             rotate_left
             ·intro w'
              go_simp
              with_reducible rfl
             rotate_left
             ·simp only [Act.put, List.setIfInBounds_toArray, List.set_cons_zero, List.set_cons_succ, i64_w, i32_w]
              rfl
             refine pure_ (i := 7) (N := some 86) (v := ?_) (a' := ?_) #[true, true, true, true, true, true, true, true, false, false, false, false, false, false, false, false, false, false, false, false, false, false, false, false, false, false, false, false, false, false, false, false, false, false] rfl rfl (any_of HT_.out (by kernel_rfl)) (fun _ _ _ h => h) (Or.inl ⟨by rfl, ?_⟩) ?_ ?_
             rotate_left
             ·intro w'
              go_simp
              with_reducible rfl
             rotate_left
             ·simp only [Act.put, List.setIfInBounds_toArray, List.set_cons_zero, List.set_cons_succ, i64_w, i32_w]
              rfl
             refine one_ (i := 8) (N := some 87) #[true, true, true, true, true, true, true, true, true, false, false, false, false, false, false, false, false, false, false, false, false, false, false, false, false, false, false, false, false, false, false, false, false, false] rfl rfl (one_of HT_.out (by kernel_rfl)) (by decide) (fun K hK => ?_)
             refine goes_ Try.func15 (by kernel_rfl) rfl #[.slice Ao62 t274.length co62, .slice Ao63 y288.length co63] (by rfl) rfl rfl (by (try simp only [List.map_toArray, List.map_cons, List.map_nil]); first | done | rfl | (simp only [List.length_drop, List.length_take]; rfl)) ?_
             with_reducible refine (steelyardref03_AlikeLists.calls kj10 _ _ t274 _ _ y288 false _ ?side1 ?side2 ?side3 ?side4 A49.out).mono ?_
             (case side1 => repeat (first | exact (Kd.R_reads' HO_15.out).2.2 | (with_reducible first | apply cA | apply cN | apply cD)))
             (case side2 => exact (Kd.R_reads' HO_15.out).2.1)
             (case side3 => repeat (first | exact (Kd.R_reads' HO290.out).2.2 | (with_reducible first | apply cA | apply cN | apply cD)))
             (case side4 => exact (Kd.R_reads' HO290.out).2.1)
             rintro e w' ⟨rfl, ⟨nd, rfl⟩⟩
             refine ⟨_, rfl, ?_⟩
             refine hK.out _ _ ⟨(blk_cell BK284.out 0).trans rfl, (blk_cell BK284.out 1).trans rfl, (blk_cell BK284.out 2).trans rfl, (blk_cell BK284.out 3).trans rfl, (blk_cell BK284.out 4).trans rfl, (blk_cell BK284.out 5).trans rfl, (blk_cell BK262.out 0).trans rfl, (blk_cell BK262.out 1).trans rfl, (blk_cell BK262.out 2).trans rfl, (blk_cell BK262.out 3).trans rfl, (blk_cell BK262.out 4).trans rfl, (blk_cell BK262.out 5).trans rfl, (blk_cell BK273.out 0).trans rfl, (blk_cell BK273.out 1).trans rfl, (blk_cell BK273.out 2).trans rfl, (blk_cell BK273.out 3).trans rfl, (blk_cell BK273.out 4).trans rfl, (blk_cell BK273.out 5).trans rfl⟩ (fun hHeld => ?_)
             clear hK K
             refine norm_ (a' := ?_) ?_ ?_
             rotate_left
             ·show Act.put _ (some 87) _ = _
              simp only [Act.put, List.setIfInBounds_toArray, List.set_cons_zero, List.set_cons_succ, i64_w, i32_w]
              rfl
             refine pure_ (i := 9) (N := some 88) (v := ?_) (a' := ?_) #[true, true, true, true, true, true, true, true, true, true, false, false, false, false, false, false, false, false, false, false, false, false, false, false, false, false, false, false, false, false, false, false, false, false] rfl rfl (any_of HT_.out (by kernel_rfl)) (fun _ _ _ h => h) (Or.inl ⟨by rfl, ?_⟩) ?_ ?_
             rotate_left
             ·intro w'
              go_simp
              with_reducible rfl
             rotate_left
             ·simp only [Act.put, List.setIfInBounds_toArray, List.set_cons_zero, List.set_cons_succ, i64_w, i32_w]
              rfl
             refine pure_ (i := 10) (N := some 89) (v := ?_) (a' := ?_) #[true, true, true, true, true, true, true, true, true, true, true, false, false, false, false, false, false, false, false, false, false, false, false, false, false, false, false, false, false, false, false, false, false, false] rfl rfl (any_of HT_.out (by kernel_rfl)) (fun _ _ _ h => h) (Or.inl ⟨by rfl, ?_⟩) ?_ ?_
             rotate_left
             ·intro w'
              go_simp
              with_reducible rfl
             rotate_left
             ·simp only [Act.put, List.setIfInBounds_toArray, List.set_cons_zero, List.set_cons_succ, i64_w, i32_w]
              rfl
             refine pure_ (i := 11) (N := some 90) (v := ?_) (a' := ?_) #[true, true, true, true, true, true, true, true, true, true, true, true, false, false, false, false, false, false, false, false, false, false, false, false, false, false, false, false, false, false, false, false, false, false] rfl rfl (any_of HT_.out (by kernel_rfl)) (fun _ _ _ h => h) (Or.inl ⟨by rfl, ?_⟩) ?_ ?_
             rotate_left
             ·intro w'
              go_simp
              with_reducible rfl
             rotate_left
             ·simp only [Act.put, List.setIfInBounds_toArray, List.set_cons_zero, List.set_cons_succ, i64_w, i32_w]
              rfl
             refine pure_ (i := 12) (N := some 91) (v := undef) (a' := ?_) #[true, true, true, true, true, true, true, true, true, true, true, true, true, false, false, false, false, false, false, false, false, false, false, false, false, false, false, false, false, false, false, false, false, false] rfl rfl (any_of HT_.out (by kernel_rfl)) (fun _ _ _ h => h) (Or.inr ⟨by rfl, rfl⟩) ?_ ?_
             rotate_left
             ·simp only [Act.put, List.setIfInBounds_toArray, List.set_cons_zero, List.set_cons_succ, i64_w, i32_w]
              rfl
             refine pure_ (i := 13) (N := some 92) (v := undef) (a' := ?_) #[true, true, true, true, true, true, true, true, true, true, true, true, true, true, false, false, false, false, false, false, false, false, false, false, false, false, false, false, false, false, false, false, false, false] rfl rfl (any_of HT_.out (by kernel_rfl)) (fun _ _ _ h => h) (Or.inr ⟨by rfl, rfl⟩) ?_ ?_
             rotate_left
             ·simp only [Act.put, List.setIfInBounds_toArray, List.set_cons_zero, List.set_cons_succ, i64_w, i32_w]
              rfl
             refine pure_ (i := 14) (N := some 93) (v := undef) (a' := ?_) #[true, true, true, true, true, true, true, true, true, true, true, true, true, true, true, false, false, false, false, false, false, false, false, false, false, false, false, false, false, false, false, false, false, false] rfl rfl (any_of HT_.out (by kernel_rfl)) (fun _ _ _ h => h) (Or.inr ⟨by rfl, rfl⟩) ?_ ?_
             rotate_left
             ·simp only [Act.put, List.setIfInBounds_toArray, List.set_cons_zero, List.set_cons_succ, i64_w, i32_w]
              rfl
             refine pure_ (i := 15) (N := some 94) (v := undef) (a' := ?_) #[true, true, true, true, true, true, true, true, true, true, true, true, true, true, true, true, false, false, false, false, false, false, false, false, false, false, false, false, false, false, false, false, false, false] rfl rfl (any_of HT_.out (by kernel_rfl)) (fun _ _ _ h => h) (Or.inr ⟨by rfl, rfl⟩) ?_ ?_
             rotate_left
             ·simp only [Act.put, List.setIfInBounds_toArray, List.set_cons_zero, List.set_cons_succ, i64_w, i32_w]
              rfl
             refine pure_ (i := 16) (N := some 95) (v := undef) (a' := ?_) #[true, true, true, true, true, true, true, true, true, true, true, true, true, true, true, true, true, false, false, false, false, false, false, false, false, false, false, false, false, false, false, false, false, false] rfl rfl (any_of HT_.out (by kernel_rfl)) (fun _ _ _ h => h) (Or.inr ⟨by rfl, rfl⟩) ?_ ?_
             rotate_left
             ·simp only [Act.put, List.setIfInBounds_toArray, List.set_cons_zero, List.set_cons_succ, i64_w, i32_w]
              rfl
             refine pure_ (i := 17) (N := some 96) (v := undef) (a' := ?_) #[true, true, true, true, true, true, true, true, true, true, true, true, true, true, true, true, true, true, false, false, false, false, false, false, false, false, false, false, false, false, false, false, false, false] rfl rfl (any_of HT_.out (by kernel_rfl)) (fun _ _ _ h => h) (Or.inr ⟨by rfl, rfl⟩) ?_ ?_
             rotate_left
             ·simp only [Act.put, List.setIfInBounds_toArray, List.set_cons_zero, List.set_cons_succ, i64_w, i32_w]
              rfl
             refine pure_ (i := 18) (N := some 97) (v := undef) (a' := ?_) #[true, true, true, true, true, true, true, true, true, true, true, true, true, true, true, true, true, true, true, false, false, false, false, false, false, false, false, false, false, false, false, false, false, false] rfl rfl (any_of HT_.out (by kernel_rfl)) (fun _ _ _ h => h) (Or.inr ⟨by rfl, rfl⟩) ?_ ?_
             rotate_left
             ·simp only [Act.put, List.setIfInBounds_toArray, List.set_cons_zero, List.set_cons_succ, i64_w, i32_w]
              rfl
             refine pure_ (i := 19) (N := some 98) (v := undef) (a' := ?_) #[true, true, true, true, true, true, true, true, true, true, true, true, true, true, true, true, true, true, true, true, false, false, false, false, false, false, false, false, false, false, false, false, false, false] rfl rfl (any_of HT_.out (by kernel_rfl)) (fun _ _ _ h => h) (Or.inr ⟨by rfl, rfl⟩) ?_ ?_
             rotate_left
             ·simp only [Act.put, List.setIfInBounds_toArray, List.set_cons_zero, List.set_cons_succ, i64_w, i32_w]
              rfl
             refine pure_ (i := 20) (N := some 99) (v := undef) (a' := ?_) #[true, true, true, true, true, true, true, true, true, true, true, true, true, true, true, true, true, true, true, true, true, false, false, false, false, false, false, false, false, false, false, false, false, false] rfl rfl (any_of HT_.out (by kernel_rfl)) (fun _ _ _ h => h) (Or.inr ⟨by rfl, rfl⟩) ?_ ?_
             rotate_left
             ·simp only [Act.put, List.setIfInBounds_toArray, List.set_cons_zero, List.set_cons_succ, i64_w, i32_w]
              rfl
             refine pure_ (i := 21) (N := some 100) (v := undef) (a' := ?_) #[true, true, true, true, true, true, true, true, true, true, true, true, true, true, true, true, true, true, true, true, true, true, false, false, false, false, false, false, false, false, false, false, false, false] rfl rfl (any_of HT_.out (by kernel_rfl)) (fun _ _ _ h => h) (Or.inr ⟨by rfl, rfl⟩) ?_ ?_
             rotate_left
             ·simp only [Act.put, List.setIfInBounds_toArray, List.set_cons_zero, List.set_cons_succ, i64_w, i32_w]
              rfl
             refine pure_ (i := 22) (N := some 101) (v := undef) (a' := ?_) #[true, true, true, true, true, true, true, true, true, true, true, true, true, true, true, true, true, true, true, true, true, true, true, false, false, false, false, false, false, false, false, false, false, false] rfl rfl (any_of HT_.out (by kernel_rfl)) (fun _ _ _ h => h) (Or.inr ⟨by rfl, rfl⟩) ?_ ?_
             rotate_left
             ·simp only [Act.put, List.setIfInBounds_toArray, List.set_cons_zero, List.set_cons_succ, i64_w, i32_w]
              rfl
             refine pure_ (i := 23) (N := some 102) (v := undef) (a' := ?_) #[true, true, true, true, true, true, true, true, true, true, true, true, true, true, true, true, true, true, true, true, true, true, true, true, false, false, false, false, false, false, false, false, false, false] rfl rfl (any_of HT_.out (by kernel_rfl)) (fun _ _ _ h => h) (Or.inr ⟨by rfl, rfl⟩) ?_ ?_
             rotate_left
             ·simp only [Act.put, List.setIfInBounds_toArray, List.set_cons_zero, List.set_cons_succ, i64_w, i32_w]
              rfl
             refine pure_ (i := 24) (N := some 103) (v := undef) (a' := ?_) #[true, true, true, true, true, true, true, true, true, true, true, true, true, true, true, true, true, true, true, true, true, true, true, true, true, false, false, false, false, false, false, false, false, false] rfl rfl (any_of HT_.out (by kernel_rfl)) (fun _ _ _ h => h) (Or.inr ⟨by rfl, rfl⟩) ?_ ?_
             rotate_left
             ·simp only [Act.put, List.setIfInBounds_toArray, List.set_cons_zero, List.set_cons_succ, i64_w, i32_w]
              rfl
             refine pure_ (i := 25) (N := some 104) (v := undef) (a' := ?_) #[true, true, true, true, true, true, true, true, true, true, true, true, true, true, true, true, true, true, true, true, true, true, true, true, true, true, false, false, false, false, false, false, false, false] rfl rfl (any_of HT_.out (by kernel_rfl)) (fun _ _ _ h => h) (Or.inr ⟨by rfl, rfl⟩) ?_ ?_
             rotate_left
             ·simp only [Act.put, List.setIfInBounds_toArray, List.set_cons_zero, List.set_cons_succ, i64_w, i32_w]
              rfl
             refine pure_ (i := 26) (N := some 105) (v := ?_) (a' := ?_) #[true, true, true, true, true, true, true, true, true, true, true, true, true, true, true, true, true, true, true, true, true, true, true, true, true, true, true, false, false, false, false, false, false, false] rfl rfl (any_of HT_.out (by kernel_rfl)) (fun _ _ _ h => h) (Or.inl ⟨by rfl, ?_⟩) ?_ ?_
             rotate_left
             ·intro w'
              go_simp
              with_reducible rfl
             rotate_left
             ·simp only [Act.put, List.setIfInBounds_toArray, List.set_cons_zero, List.set_cons_succ, i64_w, i32_w]
              rfl
             refine pure_ (i := 27) (N := some 106) (v := ?_) (a' := ?_) #[true, true, true, true, true, true, true, true, true, true, true, true, true, true, true, true, true, true, true, true, true, true, true, true, true, true, true, true, false, false, false, false, false, false] rfl rfl (any_of HT_.out (by kernel_rfl)) (fun _ _ _ h => h) (Or.inl ⟨by rfl, ?_⟩) ?_ ?_
             rotate_left
             ·intro w'
              go_simp
              with_reducible rfl
             rotate_left
             ·simp only [Act.put, List.setIfInBounds_toArray, List.set_cons_zero, List.set_cons_succ, i64_w, i32_w]
              rfl
             refine pure_ (i := 28) (N := some 107) (v := undef) (a' := ?_) #[true, true, true, true, true, true, true, true, true, true, true, true, true, true, true, true, true, true, true, true, true, true, true, true, true, true, true, true, true, false, false, false, false, false] rfl rfl (any_of HT_.out (by kernel_rfl)) (fun _ _ _ h => h) (Or.inr ⟨by rfl, rfl⟩) ?_ ?_
             rotate_left
             ·simp only [Act.put, List.setIfInBounds_toArray, List.set_cons_zero, List.set_cons_succ, i64_w, i32_w]
              rfl
             refine pure_ (i := 29) (N := some 108) (v := undef) (a' := ?_) #[true, true, true, true, true, true, true, true, true, true, true, true, true, true, true, true, true, true, true, true, true, true, true, true, true, true, true, true, true, true, false, false, false, false] rfl rfl (any_of HT_.out (by kernel_rfl)) (fun _ _ _ h => h) (Or.inr ⟨by rfl, rfl⟩) ?_ ?_
             rotate_left
             ·simp only [Act.put, List.setIfInBounds_toArray, List.set_cons_zero, List.set_cons_succ, i64_w, i32_w]
              rfl
             refine pure_ (i := 30) (N := some 109) (v := undef) (a' := ?_) #[true, true, true, true, true, true, true, true, true, true, true, true, true, true, true, true, true, true, true, true, true, true, true, true, true, true, true, true, true, true, true, false, false, false] rfl rfl (any_of HT_.out (by kernel_rfl)) (fun _ _ _ h => h) (Or.inr ⟨by rfl, rfl⟩) ?_ ?_
             rotate_left
             ·simp only [Act.put, List.setIfInBounds_toArray, List.set_cons_zero, List.set_cons_succ, i64_w, i32_w]
              rfl
             refine pure_ (i := 31) (N := some 110) (v := undef) (a' := ?_) #[true, true, true, true, true, true, true, true, true, true, true, true, true, true, true, true, true, true, true, true, true, true, true, true, true, true, true, true, true, true, true, true, false, false] rfl rfl (any_of HT_.out (by kernel_rfl)) (fun _ _ _ h => h) (Or.inr ⟨by rfl, rfl⟩) ?_ ?_
             rotate_left
             ·simp only [Act.put, List.setIfInBounds_toArray, List.set_cons_zero, List.set_cons_succ, i64_w, i32_w]
              rfl
             refine pure_ (i := 32) (N := some 111) (v := undef) (a' := ?_) #[true, true, true, true, true, true, true, true, true, true, true, true, true, true, true, true, true, true, true, true, true, true, true, true, true, true, true, true, true, true, true, true, true, false] rfl rfl (any_of HT_.out (by kernel_rfl)) (fun _ _ _ h => h) (Or.inr ⟨by rfl, rfl⟩) ?_ ?_
             rotate_left
             ·simp only [Act.put, List.setIfInBounds_toArray, List.set_cons_zero, List.set_cons_succ, i64_w, i32_w]
              rfl
             refine pure_ (i := 33) (N := some 112) (v := ?_) (a' := ?_) #[true, true, true, true, true, true, true, true, true, true, true, true, true, true, true, true, true, true, true, true, true, true, true, true, true, true, true, true, true, true, true, true, true, true] rfl rfl (any_of HT_.out (by kernel_rfl)) (fun _ _ _ h => h) (Or.inl ⟨by rfl, ?_⟩) ?_ ?_
             rotate_left
             ·intro w'
              go_simp
              with_reducible rfl
             rotate_left
             ·simp only [Act.put, List.setIfInBounds_toArray, List.set_cons_zero, List.set_cons_succ, i64_w, i32_w]
              rfl
             refine done_ (done_of HT_.out (by kernel_rfl)) ?_
             try go_wp2
             go_meet
             case rel => exact ⟨_, (true), (by first | rfl | (simp; done) | (simp [*]; done)), H', ⟨by have := HJ10.out; first | omega | exact Nat.le_refl _⟩, ⟨by (with_reducible repeat (first | apply rA | apply rN | apply rD)); exact Kd.R_mono HO_15.out (fun _ hk => trivial)⟩, ⟨by (with_reducible repeat (first | apply bN | apply bD | apply bA)); exact BK244.out⟩, ⟨by (with_reducible repeat (first | apply bN | apply bD | apply bA)); exact BK262.out⟩, ⟨by (with_reducible repeat (first | apply bN | apply bD | apply bA)); exact BK273.out⟩, ⟨by (with_reducible repeat (first | apply bN | apply bD | apply bA)); exact BK284.out⟩, ⟨bl_ HB⟩⟩
          case rest =>
           clear HC40
           try clear c1
           try clear c2
           try clear p2
           try clear c5
           try clear c15
           try clear c23
           try clear c50
           obtain ⟨kq, x112_39, rfl, HA, HJ39, HO_15, BK244, BK262, BK273, BK284, HB⟩ := hcut
           cases kq with
           | zero => exact absurd HA.out (by simp [steelyardlaw06_PolicyParts.j1])
           | succ kj39 =>
            have H := HA.out
            clear HA
            simp only [steelyardlaw06_PolicyParts.j1] at H
            by_cases c64 : x112_39 = true
            ·subst c64
             have H1 : (none) = some r := by rw [if_pos rfl] at H; exact H
             clear H
             have H := H1
             clear H1
             exact absurd H (by simp)
            ·replace c64 := Bool.eq_false_iff.mpr c64
             subst c64
             have H1 : (steelyardlaw06_PolicyParts.l0 kj39 t274 ([] : List Nat) 0 t277 t278 t279 t280 t281 t282) = some r := by rw [if_neg (show ¬ (false = true) by decide)] at H; exact H
             clear H
             have H := H1
             clear H1
             have H' := Aside0.mk H
             clear H
             go_wp2
             go_loopg [19, 20] kj39 (fun kq v19 v20 w' => ∃ (x19_3 : List Nat) (x20_3 : Int), v20 = .int .i64 x20_3 ∧ Aside0 (steelyardlaw06_PolicyParts.l0 kq t274 x19_3 x20_3 t277 t278 t279 t280 t281 t282 = some r) ∧ Aside0 (kq ≤ kj39) ∧ Aside0 (Kd.R (Kd.float .f64) 41 w' w.heap.size (fun k_ => some k_ ≠ (v19 : Value).ownBlock) v275 t274) ∧ Aside0 (Kd.R (Kd.float .f64) 41 w' w.heap.size (fun k_ => some k_ ≠ (v275 : Value).ownBlock) v19 x19_3) ∧ Aside0 (w'.heap[gb244]? = some (.cells #[.int .i64 a2_0, .int .i64 a2_1] 23 (0, 0))) ∧ Aside0 (w'.heap[gb262]? = some (.cells #[.int .i64 t255, .int .i64 t256, .int .i64 t257, .int .i64 t258, .int .i64 t259, .int .i64 t260] 30 (0, 0))) ∧ Aside0 (w'.heap[gb273]? = some (.cells #[.int .i64 t266, .int .i64 t267, .int .i64 t268, .int .i64 t269, .int .i64 t270, .int .i64 t271] 30 (0, 0))) ∧ Aside0 (w'.heap[gb284]? = some (.cells #[.int .i64 t277, .int .i64 t278, .int .i64 t279, .int .i64 t280, .int .i64 t281, .int .i64 t282] 30 (0, 0))) ∧ Aside0 (Below w.heap.size w w'))
             case atStart => exact ⟨(([] : List Nat)), (0), (by first | rfl | (simp; done) | (simp [*]; done)), H', ⟨Nat.le_refl _⟩, ⟨by (with_reducible repeat (first | apply rA | apply rN | apply rD)); exact Kd.R_mono HO_15.out (fun _ hk => (by simp [Value.ownBlock]))⟩, ⟨by first | exact Kd.R_nil _ _ _ _ _ | exact Kd.N_nil _ _ _ _ _ | exact Kd.V_nil _ _ _ _ _ | exact Kd.Q_nil _ _ _ _ _ | exact Kd.S_nil _ _ _ _ _⟩, ⟨by (with_reducible repeat (first | apply bN | apply bD | apply bA)); exact BK244.out⟩, ⟨by (with_reducible repeat (first | apply bN | apply bD | apply bA)); exact BK262.out⟩, ⟨by (with_reducible repeat (first | apply bN | apply bD | apply bA)); exact BK273.out⟩, ⟨by (with_reducible repeat (first | apply bN | apply bD | apply bA)); exact BK284.out⟩, ⟨bl_ HB⟩⟩
             case round =>
              clear H'
              try clear c1
              try clear c2
              try clear p2
              try clear c5
              try clear c6
              try clear c15
              try clear c23
              try clear c50
              try clear c64
              try clear p2
              obtain ⟨x19_3, x20_3, rfl, HA, HK3, HO_15, HO_19, BK244, BK262, BK273, BK284, HB⟩ := hrel
              cases gk with
              | zero => exact absurd HA.out (by simp [steelyardlaw06_PolicyParts.l0])
              | succ k3 =>
               have H := HA.out
               clear HA
               simp only [steelyardlaw06_PolicyParts.l0] at H
               by_cases c65 : x20_3 < (t274.length : Int)
               ·rw [if_pos c65] at H
                have c65b0 : decide (x20_3 < (t274.length : Int)) = true := decide_eq_true c65
                clear c65
                by_cases c66 : 0 ≤ x20_3
                ·rw [if_pos c66] at H
                 have c66b0 : decide (0 ≤ x20_3) = true := decide_eq_true c66
                 clear c66
                 by_cases c67 : (FloatKind.f64.format.order (rdOf (0 : Nat) t274 x20_3) 0 == some .eq) = true
                 ·rw [if_pos c67] at H
                  have c67b0 : (FloatKind.f64.format.order (rdOf (0 : Nat) t274 x20_3) 0 == some .eq) = true := c67
                  clear c67
                  by_cases c68 : x19_3.length < 17592186044416
                  ·rw [if_pos c68] at H
                   have LMc68 := Aside0.mk c68
                   clear c68
                   obtain ⟨y300, hy300⟩ : ∃ y_ : List Nat, y_ = (x19_3 ++ [rdOf (0 : Nat) t274 x20_3]) := ⟨_, rfl⟩
                   replace H : (steelyardlaw06_PolicyParts.l0 k3 t274 y300 (wrap64 (x20_3 + 1)) t277 t278 t279 t280 t281 t282) = some r := by first | (rw [hy300]; with_reducible exact H) | (have H2_ := (Option.bind_some _ _).symm.trans H; rw [hy300]; with_reducible exact H2_) | (have H2_ := (Option.bind_some _ _).symm.trans H; with_reducible exact H2_) | with_reducible exact H | (rw [hy300]; exact H) | exact H
                   have Ny300 := Aside0.mk hy300
                   clear hy300
                   have H' := Aside0.mk H
                   clear H
                   obtain ⟨Ao69, co69, eo69⟩ := Kd.R_slice HO_15.out
                   subst eo69
                   have p298 : 0 ≤ (x20_3 : Int) := of_decide_eq_true (by first | (with_reducible assumption) | assumption)
                   have q298 : x20_3 < (t274.length : Int) := of_decide_eq_true (by first | (with_reducible assumption) | assumption)
                   obtain ⟨ad298, e298, hx298_0⟩ := Kd.at_float (Kd.R_reads' HO_15.out).2.2 x20_3 p298 q298
                   cases e298
                   replace p298 := eq_true p298
                   replace q298 := eq_true q298
                   have p299 : 0 ≤ (x20_3 : Int) := of_decide_eq_true (by first | (with_reducible assumption) | assumption)
                   have q299 : x20_3 < (t274.length : Int) := of_decide_eq_true (by first | (with_reducible assumption) | assumption)
                   obtain ⟨ad299, e299, hx299_0⟩ := Kd.at_float (Kd.R_reads' HO_15.out).2.2 x20_3 p299 q299
                   obtain rfl : ad298 = ad299 := (by injection e299)
                   replace p299 := eq_true p299
                   replace q299 := eq_true q299
                   go_wp2_with (first | ((with_reducible refine gate_builtin (b := .append) (xs := #[.tmp 124, .tmp 129]) rfl ?_); (try (refine gate_guard (by rfl) ?_; dsimp only)); at_builtin; refine Kd.R_append (Kd.float .f64) (w0 := w) w.heap.size rfl (.tmp 124) (.tmp 129) 27 41 (.float .f64 0) 8 rfl Try.underlying27 info41 rfl (by decide) (by omega) u19 x19_3 (rdOf (0 : Nat) t274 x20_3) [.float .f64 (rdOf (0 : Nat) t274 x20_3)] (fun k_ => some k_ ≠ (.slice (some ad298) t274.length co69 : Value).ownBlock) (fun _ => False) rfl rfl ?aP (fun _ hk => hk.elim) ?aF ?aO ?aB ?aS ?aL ?_; (case aP => exact rfl); (case aB => exact (bl_ HB)); (case aF => exact (fun k_ hk => Kd.fresh' (Kd.R_lt (by (with_reducible repeat (first | apply rA | apply rN | apply rD)); exact HO_15.out)) k_ hk)); (case aO => exact (by (with_reducible repeat (first | apply rA | apply rN | apply rD)); exact HO_19.out)); (case aS => exact (below_size (bl_ HB))); (case aL => have := LMc68.out; omega); intro v301 w70 ho hb hg hat; rw [← Ny300.out] at ho; have n0_ := Aside0.mk (Kd.R_after (ok := (fun _ => True)) (by (with_reducible repeat (first | apply rA | apply rN | apply rD)); exact Kd.R_mono HO_15.out (fun _ hk => ⟨trivial, hk⟩)) hg hat); have n1_ := Aside0.mk (blk_grown (g := gb244) (o := .cells #[.int .i64 a2_0, .int .i64 a2_1] 23 (0, 0)) (bk_ BK244) hg (Kd.R_ne HO_19.out BK244.out (by decide))); have n2_ := Aside0.mk (blk_grown (g := gb262) (o := .cells #[.int .i64 t255, .int .i64 t256, .int .i64 t257, .int .i64 t258, .int .i64 t259, .int .i64 t260] 30 (0, 0)) (bk_ BK262) hg (Kd.R_ne HO_19.out BK262.out (by decide))); have n3_ := Aside0.mk (blk_grown (g := gb273) (o := .cells #[.int .i64 t266, .int .i64 t267, .int .i64 t268, .int .i64 t269, .int .i64 t270, .int .i64 t271] 30 (0, 0)) (bk_ BK273) hg (Kd.R_ne HO_19.out BK273.out (by decide))); have n4_ := Aside0.mk (blk_grown (g := gb284) (o := .cells #[.int .i64 t277, .int .i64 t278, .int .i64 t279, .int .i64 t280, .int .i64 t281, .int .i64 t282] 30 (0, 0)) (bk_ BK284) hg (Kd.R_ne HO_19.out BK284.out (by decide))); have n5_ := Aside0.mk (hb); have n6_ := Aside0.mk (ho); clear HO_15; clear BK244; clear BK262; clear BK273; clear BK284; clear HB; clear HO_19; have HO_15 := n0_; have BK244 := n1_; have BK262 := n2_; have BK273 := n3_; have BK284 := n4_; have HB := n5_; have HO302 := n6_; clear n0_ n1_ n2_ n3_ n4_ n5_ n6_; clear ho hb hg hat))
                   go_roundg k3
                   case measure => have := HJ10.out; have := HJ39.out; have := HK3.out; omega
                   case rel => exact ⟨(y300), (wrap64 (x20_3 + 1)), (by first | rfl | (simp; done) | (simp [*]; done)), H', ⟨by have := HJ10.out; have := HJ39.out; have := HK3.out; omega⟩, ⟨by (with_reducible repeat (first | apply rA | apply rN | apply rD)); exact Kd.R_mono HO_15.out (fun _ hk => hk.2)⟩, ⟨by (with_reducible repeat (first | apply rA | apply rN | apply rD)); exact HO302.out⟩, ⟨by (with_reducible repeat (first | apply bN | apply bD | apply bA)); exact BK244.out⟩, ⟨by (with_reducible repeat (first | apply bN | apply bD | apply bA)); exact BK262.out⟩, ⟨by (with_reducible repeat (first | apply bN | apply bD | apply bA)); exact BK273.out⟩, ⟨by (with_reducible repeat (first | apply bN | apply bD | apply bA)); exact BK284.out⟩, ⟨bl_ HB⟩⟩
                  ·rw [if_neg c68] at H
                   exact absurd H (by simp)
                 ·rw [if_neg c67] at H
                  have c67b0 : (FloatKind.f64.format.order (rdOf (0 : Nat) t274 x20_3) 0 == some .eq) = false := by simpa using c67
                  clear c67
                  have H' := Aside0.mk H
                  clear H
                  obtain ⟨Ao71, co71, eo71⟩ := Kd.R_slice HO_15.out
                  subst eo71
                  have p298 : 0 ≤ (x20_3 : Int) := of_decide_eq_true (by first | (with_reducible assumption) | assumption)
                  have q298 : x20_3 < (t274.length : Int) := of_decide_eq_true (by first | (with_reducible assumption) | assumption)
                  obtain ⟨ad298, e298, hx298_0⟩ := Kd.at_float (Kd.R_reads' HO_15.out).2.2 x20_3 p298 q298
                  cases e298
                  replace p298 := eq_true p298
                  replace q298 := eq_true q298
                  go_wp2
                  go_roundg k3
                  case measure => have := HJ10.out; have := HJ39.out; have := HK3.out; omega
                  case rel => exact ⟨(x19_3), (wrap64 (x20_3 + 1)), (by first | rfl | (simp; done) | (simp [*]; done)), H', ⟨by have := HJ10.out; have := HJ39.out; have := HK3.out; omega⟩, ⟨by (with_reducible repeat (first | apply rA | apply rN | apply rD)); exact HO_15.out⟩, ⟨by (with_reducible repeat (first | apply rA | apply rN | apply rD)); exact HO_19.out⟩, ⟨by (with_reducible repeat (first | apply bN | apply bD | apply bA)); exact BK244.out⟩, ⟨by (with_reducible repeat (first | apply bN | apply bD | apply bA)); exact BK262.out⟩, ⟨by (with_reducible repeat (first | apply bN | apply bD | apply bA)); exact BK273.out⟩, ⟨by (with_reducible repeat (first | apply bN | apply bD | apply bA)); exact BK284.out⟩, ⟨bl_ HB⟩⟩
                ·rw [if_neg c66] at H
                 exact absurd H (by simp)
               ·rw [if_neg c65] at H
                have c65b0 : decide (x20_3 < (t274.length : Int)) = false := decide_eq_false c65
                clear c65
                obtain ⟨⟨t303, t304⟩, A72, H⟩ := ob_ H
                try dsimp only at H
                obtain ⟨⟨t305, t308, t309, t310, t311, t312, t313, t314⟩, A73, H⟩ := ob_ H
                try dsimp only at H
                obtain ⟨t316, A74, H⟩ := ob_ H
                try dsimp only at H
                have H' := Aside0.mk H
                clear H
                obtain ⟨Ao75, co75, eo75⟩ := Kd.R_slice HO_15.out
                subst eo75
                go_wp2_with (first | ((with_reducible refine gate_callee (f := 9) rfl ?_); refine goesM (some 133) Try.func9 #[] ?_; (with_reducible refine (policy_Plain.calls  t303 t304 _ A72.out).mono ?_); rintro e w76 ⟨rfl, hb⟩; refine ⟨_, rfl, ?_⟩; have n0_ := Aside0.mk (Kd.R_below (by (with_reducible repeat (first | apply rA | apply rN | apply rD)); exact HO_15.out) hb); have n1_ := Aside0.mk (Kd.R_below (by (with_reducible repeat (first | apply rA | apply rN | apply rD)); exact HO_19.out) hb); have n2_ := kb_ BK244 hb; have n3_ := kb_ BK262 hb; have n4_ := kb_ BK273 hb; have n5_ := kb_ BK284 hb; have n6_ := bs_ HB hb; clear HO_15; clear HO_19; clear BK244; clear BK262; clear BK273; clear BK284; clear HB; have HO_15 := n0_; have HO_19 := n1_; have BK244 := n2_; have BK262 := n3_; have BK273 := n4_; have BK284 := n5_; have HB := n6_; clear n0_ n1_ n2_ n3_ n4_ n5_ n6_; (try clear hb); (try clear hb2); (try clear hk); (try clear hi); obtain ⟨Ao77, co77, eo77⟩ := Kd.R_slice HO_19.out; subst eo77) | ((with_reducible refine gate_callee (f := 12) rfl ?_); refine goesM (some 134) Try.func12 #[.slice Ao77 x19_3.length co77, .agg #[.int .i64 t303, .int .i64 t304]] ?_; (with_reducible refine (policy_Sift.calls k3 _ _ x19_3 t303 t304 t305 t308 t309 t310 t311 t312 t313 t314 _ ?side1 ?side2 A73.out).mono ?_); (case side1 => repeat (first | exact (Kd.R_reads' HO_19.out).2.2 | (with_reducible first | apply cA | apply cN | apply cD))); (case side2 => exact (Kd.R_reads' HO_19.out).2.1); rintro e w78 ⟨v306, rfl, ho0, hb⟩; refine ⟨_, rfl, ?_⟩; have n0_ := Aside0.mk (Kd.R_elder' (by (with_reducible repeat (first | apply rA | apply rN | apply rD)); exact HO_15.out) (Kd.R_base ho0) hb); have n1_ := Aside0.mk (Kd.R_elder' (by (with_reducible repeat (first | apply rA | apply rN | apply rD)); exact HO_19.out) (Kd.R_base ho0) hb); have n2_ := Aside0.mk (Kd.R_lower (Kd.R_new' (Kd.R_new' ho0 (Kd.R_lt (by (with_reducible repeat (first | apply rA | apply rN | apply rD)); exact HO_15.out))) (Kd.R_lt (by (with_reducible repeat (first | apply rA | apply rN | apply rD)); exact HO_19.out))) (below_size (bl_ HB))); have n3_ := kb_ BK244 hb; have n4_ := kb_ BK262 hb; have n5_ := kb_ BK273 hb; have n6_ := kb_ BK284 hb; have n7_ := bs_ HB hb; clear HO_15; clear HO_19; clear BK244; clear BK262; clear BK273; clear BK284; clear HB; have HO_15 := n0_; have HO_19 := n1_; have HO307 := n2_; have BK244 := n3_; have BK262 := n4_; have BK273 := n5_; have BK284 := n6_; have HB := n7_; clear n0_ n1_ n2_ n3_ n4_ n5_ n6_ n7_; (try clear hb); (try clear hb2); (try clear hk); (try clear hi); (try clear ho0)) | ((with_reducible refine gate_dst (N := 22) rfl ?_); (try (refine gate_guard (by rfl) ?_; dsimp only)); refine box_event ?hg (N := 22) ?hd (cs := #[.int .i64 0, .int .i64 0, .int .i64 0, .int .i64 0, .int .i64 0, .int .i64 0]) (t := 30) ?hr ?_; (case hd => rfl); (case hg => rfl); (case hr => first | (go_simp; done) | (go_simp; rfl)); intro gb315 hg w79 hbox hb; have n0_ := Aside0.mk (Kd.R_below (by (with_reducible repeat (first | apply rA | apply rN | apply rD)); exact HO_15.out) hb); have n1_ := Aside0.mk (Kd.R_below (by (with_reducible repeat (first | apply rA | apply rN | apply rD)); exact HO_19.out) hb); have n2_ := Aside0.mk (Kd.R_below (by (with_reducible repeat (first | apply rA | apply rN | apply rD)); exact HO307.out) hb); have n3_ := kb_ BK244 hb; have n4_ := kb_ BK262 hb; have n5_ := kb_ BK273 hb; have n6_ := kb_ BK284 hb; have n7_ := bs_ HB hb; have n8_ := Aside0.mk (hbox); have n9_ := ge_ HB hg; have n10_ := ge_ HB hg; have n11_ := nlt_ BK244 hg; have n12_ := ngt_ BK244 hg; have n13_ := nlt_ BK262 hg; have n14_ := ngt_ BK262 hg; have n15_ := nlt_ BK273 hg; have n16_ := ngt_ BK273 hg; have n17_ := nlt_ BK284 hg; have n18_ := ngt_ BK284 hg; clear HO_15; clear HO_19; clear HO307; clear BK244; clear BK262; clear BK273; clear BK284; clear HB; have HO_15 := n0_; have HO_19 := n1_; have HO307 := n2_; have BK244 := n3_; have BK262 := n4_; have BK273 := n5_; have BK284 := n6_; have HB := n7_; have BK315 := n8_; have GW315 := n9_; have GE315 := n10_; have NB244_315 := n11_; have NB315_244 := n12_; have NB262_315 := n13_; have NB315_262 := n14_; have NB273_315 := n15_; have NB315_273 := n16_; have NB284_315 := n17_; have NB315_284 := n18_; clear n0_ n1_ n2_ n3_ n4_ n5_ n6_ n7_ n8_ n9_ n10_ n11_ n12_ n13_ n14_ n15_ n16_ n17_ n18_; clear hb hbox hg; have hnb80 := NB315_244.out; have hnc80 := NB244_315.out; have hnb81 := NB315_262.out; have hnc81 := NB262_315.out; have hnb82 := NB315_273.out; have hnc82 := NB273_315.out; have hnb83 := NB315_284.out; have hnc83 := NB284_315.out; have hcz84_0 : w79.cell? ⟨gb315, 0, none⟩ = some (.int .i64 0) := (blk_cell BK315.out 0).trans rfl; have hcz84_1 : w79.cell? ⟨gb315, 1, none⟩ = some (.int .i64 0) := (blk_cell BK315.out 1).trans rfl; have hcz84_2 : w79.cell? ⟨gb315, 2, none⟩ = some (.int .i64 0) := (blk_cell BK315.out 2).trans rfl; have hcz84_3 : w79.cell? ⟨gb315, 3, none⟩ = some (.int .i64 0) := (blk_cell BK315.out 3).trans rfl; have hcz84_4 : w79.cell? ⟨gb315, 4, none⟩ = some (.int .i64 0) := (blk_cell BK315.out 4).trans rfl; have hcz84_5 : w79.cell? ⟨gb315, 5, none⟩ = some (.int .i64 0) := (blk_cell BK315.out 5).trans rfl; have hfz84_0 := blk_frozen BK315.out 0; have hfz84_1 := blk_frozen BK315.out 1; have hfz84_2 := blk_frozen BK315.out 2; have hfz84_3 := blk_frozen BK315.out 3; have hfz84_4 := blk_frozen BK315.out 4; have hfz84_5 := blk_frozen BK315.out 5) | ((with_reducible refine gate_callee (f := 24) rfl ?_); refine goesM (some 138) Try.func24 #[.bool true] ?_; (with_reducible refine (steelyardref06_Zero.calls true t316 _ A74.out).mono ?_); rintro e w' ⟨rfl, ⟨nd, rfl⟩⟩; refine ⟨_, rfl, ?_⟩))
                go_loopg [24, 25] k3 (fun kq v24 v25 w' => ∃ (x24_4 : Nat) (x25_4 : Int), v24 = .float .f64 x24_4 ∧ v25 = .int .i64 x25_4 ∧ Aside0 (steelyardlaw06_PolicyParts.l1 kq x19_3 t314 x24_4 x25_4 t277 t278 t279 t280 t281 t282 t308 t309 t310 t311 t312 t313 = some r) ∧ Aside0 (kq ≤ k3) ∧ Aside0 (Kd.R (Kd.float .f64) 41 w' w.heap.size (fun _ => True) (.slice Ao77 x19_3.length co77) x19_3) ∧ Aside0 (w'.heap[gb244]? = some (.cells #[.int .i64 a2_0, .int .i64 a2_1] 23 (0, 0))) ∧ Aside0 (w'.heap[gb262]? = some (.cells #[.int .i64 t255, .int .i64 t256, .int .i64 t257, .int .i64 t258, .int .i64 t259, .int .i64 t260] 30 (0, 0))) ∧ Aside0 (w'.heap[gb273]? = some (.cells #[.int .i64 t266, .int .i64 t267, .int .i64 t268, .int .i64 t269, .int .i64 t270, .int .i64 t271] 30 (0, 0))) ∧ Aside0 (w'.heap[gb284]? = some (.cells #[.int .i64 t277, .int .i64 t278, .int .i64 t279, .int .i64 t280, .int .i64 t281, .int .i64 t282] 30 (0, 0))) ∧ Aside0 (w'.heap[gb315]? = some (.cells #[.int .i64 t308, .int .i64 t309, .int .i64 t310, .int .i64 t311, .int .i64 t312, .int .i64 t313] 30 (0, 0))) ∧ Aside0 (Below w.heap.size w w'))
                case atStart => exact ⟨(t316), (0), (by first | rfl | (simp; done) | (simp [*]; done)), (by first | rfl | (simp; done) | (simp [*]; done)), H', ⟨Nat.le_refl _⟩, ⟨by (with_reducible repeat (first | apply rA | apply rN | apply rD)); exact Kd.R_mono (Kd.R_far (p := ⟨gb315, 5, none⟩) (Kd.R_far (p := ⟨gb315, 4, none⟩) (Kd.R_far (p := ⟨gb315, 3, none⟩) (Kd.R_far (p := ⟨gb315, 2, none⟩) (Kd.R_far (p := ⟨gb315, 1, none⟩) (Kd.R_far (p := ⟨gb315, 0, none⟩) (Kd.R_types HO_19.out BK315.out (by decide)) (fun _ hk => hk.2) (.int .i64 t308)) (fun _ hk => hk.2) (.int .i64 t309)) (fun _ hk => hk.2) (.int .i64 t310)) (fun _ hk => hk.2) (.int .i64 t311)) (fun _ hk => hk.2) (.int .i64 t312)) (fun _ hk => hk.2) (.int .i64 t313)) (fun _ hk => trivial)⟩, ⟨by (with_reducible repeat (first | apply bN | apply bD | apply bA)); refine blk_far ?_ NB244_315.out _; (with_reducible repeat (first | apply bN | apply bD | apply bA)); refine blk_far ?_ NB244_315.out _; (with_reducible repeat (first | apply bN | apply bD | apply bA)); refine blk_far ?_ NB244_315.out _; (with_reducible repeat (first | apply bN | apply bD | apply bA)); refine blk_far ?_ NB244_315.out _; (with_reducible repeat (first | apply bN | apply bD | apply bA)); refine blk_far ?_ NB244_315.out _; (with_reducible repeat (first | apply bN | apply bD | apply bA)); refine blk_far ?_ NB244_315.out _; (with_reducible repeat (first | apply bN | apply bD | apply bA)); exact BK244.out⟩, ⟨by (with_reducible repeat (first | apply bN | apply bD | apply bA)); refine blk_far ?_ NB262_315.out _; (with_reducible repeat (first | apply bN | apply bD | apply bA)); refine blk_far ?_ NB262_315.out _; (with_reducible repeat (first | apply bN | apply bD | apply bA)); refine blk_far ?_ NB262_315.out _; (with_reducible repeat (first | apply bN | apply bD | apply bA)); refine blk_far ?_ NB262_315.out _; (with_reducible repeat (first | apply bN | apply bD | apply bA)); refine blk_far ?_ NB262_315.out _; (with_reducible repeat (first | apply bN | apply bD | apply bA)); refine blk_far ?_ NB262_315.out _; (with_reducible repeat (first | apply bN | apply bD | apply bA)); exact BK262.out⟩, ⟨by (with_reducible repeat (first | apply bN | apply bD | apply bA)); refine blk_far ?_ NB273_315.out _; (with_reducible repeat (first | apply bN | apply bD | apply bA)); refine blk_far ?_ NB273_315.out _; (with_reducible repeat (first | apply bN | apply bD | apply bA)); refine blk_far ?_ NB273_315.out _; (with_reducible repeat (first | apply bN | apply bD | apply bA)); refine blk_far ?_ NB273_315.out _; (with_reducible repeat (first | apply bN | apply bD | apply bA)); refine blk_far ?_ NB273_315.out _; (with_reducible repeat (first | apply bN | apply bD | apply bA)); refine blk_far ?_ NB273_315.out _; (with_reducible repeat (first | apply bN | apply bD | apply bA)); exact BK273.out⟩, ⟨by (with_reducible repeat (first | apply bN | apply bD | apply bA)); refine blk_far ?_ NB284_315.out _; (with_reducible repeat (first | apply bN | apply bD | apply bA)); refine blk_far ?_ NB284_315.out _; (with_reducible repeat (first | apply bN | apply bD | apply bA)); refine blk_far ?_ NB284_315.out _; (with_reducible repeat (first | apply bN | apply bD | apply bA)); refine blk_far ?_ NB284_315.out _; (with_reducible repeat (first | apply bN | apply bD | apply bA)); refine blk_far ?_ NB284_315.out _; (with_reducible repeat (first | apply bN | apply bD | apply bA)); refine blk_far ?_ NB284_315.out _; (with_reducible repeat (first | apply bN | apply bD | apply bA)); exact BK284.out⟩, ⟨by (with_reducible repeat (first | apply bN | apply bD | apply bA)); refine blk_put (cs := #[.int .i64 t308, .int .i64 t309, .int .i64 t310, .int .i64 t311, .int .i64 t312, .int .i64 0]) ?_ 5 _ rfl; (with_reducible repeat (first | apply bN | apply bD | apply bA)); refine blk_put (cs := #[.int .i64 t308, .int .i64 t309, .int .i64 t310, .int .i64 t311, .int .i64 0, .int .i64 0]) ?_ 4 _ rfl; (with_reducible repeat (first | apply bN | apply bD | apply bA)); refine blk_put (cs := #[.int .i64 t308, .int .i64 t309, .int .i64 t310, .int .i64 0, .int .i64 0, .int .i64 0]) ?_ 3 _ rfl; (with_reducible repeat (first | apply bN | apply bD | apply bA)); refine blk_put (cs := #[.int .i64 t308, .int .i64 t309, .int .i64 0, .int .i64 0, .int .i64 0, .int .i64 0]) ?_ 2 _ rfl; (with_reducible repeat (first | apply bN | apply bD | apply bA)); refine blk_put (cs := #[.int .i64 t308, .int .i64 0, .int .i64 0, .int .i64 0, .int .i64 0, .int .i64 0]) ?_ 1 _ rfl; (with_reducible repeat (first | apply bN | apply bD | apply bA)); refine blk_put (cs := #[.int .i64 0, .int .i64 0, .int .i64 0, .int .i64 0, .int .i64 0, .int .i64 0]) ?_ 0 _ rfl; (with_reducible repeat (first | apply bN | apply bD | apply bA)); exact BK315.out⟩, ⟨bl_ HB⟩⟩
                case round =>
                 clear H'
                 try clear c1
                 try clear c2
                 try clear p2
                 try clear q2
                 try clear hx2
                 try clear c5
                 try clear c6
                 try clear p6
                 try clear c8
                 try clear c9
                 try clear c12
                 try clear c15
                 try clear c23
                 try clear c24
                 try clear p29
                 try clear q29
                 try clear hx29
                 try clear c50
                 try clear c64
                 try clear p64
                 try clear c65
                 try clear c65b0
                 try clear c66
                 try clear c66b0
                 try clear c67
                 try clear c67b0
                 try clear c68
                 try clear c80
                 try clear c81
                 try clear c82
                 try clear c83
                 try clear hcz84_0
                 try clear hcz84_1
                 try clear hcz84_2
                 try clear hcz84_3
                 try clear hcz84_4
                 try clear hcz84_5
                 try clear hfz84_0
                 try clear hfz84_1
                 try clear hfz84_2
                 try clear hfz84_3
                 try clear hfz84_4
                 try clear hfz84_5
                 try clear hx298_0
                 try clear hx299_0
                 try clear p2
                 try clear p298
                 try clear p299
                 try clear q298
                 try clear q299
                 obtain ⟨x24_4, x25_4, rfl, rfl, HA, HK4, HO_19, BK244, BK262, BK273, BK284, BK315, HB⟩ := hrel
                 cases gk with
                 | zero => exact absurd HA.out (by simp [steelyardlaw06_PolicyParts.l1])
                 | succ k4 =>
                  have H := HA.out
                  clear HA
                  simp only [steelyardlaw06_PolicyParts.l1] at H
                  by_cases c85 : x25_4 < (x19_3.length : Int)
                  ·rw [if_pos c85] at H
                   have c85b0 : decide (x25_4 < (x19_3.length : Int)) = true := decide_eq_true c85
                   clear c85
                   by_cases c86 : 0 ≤ x25_4
                   ·rw [if_pos c86] at H
                    have c86b0 : decide (0 ≤ x25_4) = true := decide_eq_true c86
                    clear c86
                    by_cases c87 : (FloatKind.f64.format.add x24_4 (rdOf (0 : Nat) x19_3 x25_4)).isSome = true
                    ·rw [if_pos c87] at H
                     have c87b0 : (FloatKind.f64.format.add x24_4 (rdOf (0 : Nat) x19_3 x25_4)).isSome = true := c87
                     clear c87
                     have H' := Aside0.mk H
                     clear H
                     have p317 : 0 ≤ (x25_4 : Int) := of_decide_eq_true (by first | (with_reducible assumption) | assumption)
                     have q317 : x25_4 < (x19_3.length : Int) := of_decide_eq_true (by first | (with_reducible assumption) | assumption)
                     obtain ⟨ad317, e317, hx317_0⟩ := Kd.at_float (Kd.R_reads' HO_19.out).2.2 x25_4 p317 q317
                     cases e317
                     replace p317 := eq_true p317
                     replace q317 := eq_true q317
                     go_wp2
                     go_roundg k4
                     case measure => have := HJ10.out; have := HJ39.out; have := HK3.out; have := HK4.out; omega
                     case rel => exact ⟨((FloatKind.f64.format.add x24_4 (rdOf (0 : Nat) x19_3 x25_4)).getD 0), (wrap64 (x25_4 + 1)), (by first | rfl | (simp; done) | (simp [*]; done)), (by first | rfl | (simp; done) | (simp [*]; done)), H', ⟨by have := HJ10.out; have := HJ39.out; have := HK3.out; have := HK4.out; omega⟩, ⟨by (with_reducible repeat (first | apply rA | apply rN | apply rD)); exact HO_19.out⟩, ⟨by (with_reducible repeat (first | apply bN | apply bD | apply bA)); exact BK244.out⟩, ⟨by (with_reducible repeat (first | apply bN | apply bD | apply bA)); exact BK262.out⟩, ⟨by (with_reducible repeat (first | apply bN | apply bD | apply bA)); exact BK273.out⟩, ⟨by (with_reducible repeat (first | apply bN | apply bD | apply bA)); exact BK284.out⟩, ⟨by (with_reducible repeat (first | apply bN | apply bD | apply bA)); exact BK315.out⟩, ⟨bl_ HB⟩⟩
                    ·rw [if_neg c87] at H
                     exact absurd H (by simp)
                   ·rw [if_neg c86] at H
                    exact absurd H (by simp)
                  ·rw [if_neg c85] at H
                   have c85b0 : decide (x25_4 < (x19_3.length : Int)) = false := decide_eq_false c85
                   clear c85
                   by_cases c88 : (x19_3.length : Int) = 0
                   ·rw [if_pos c88] at H
                    have c88b0 : ((x19_3.length : Int) == 0) = true := beq_iff_eq.mpr c88
                    have c88b1 : ((x19_3.length : Int) != 0) = false := bne_eq_false_iff_eq.mpr c88
                    clear c88
                    by_cases c89 : t314 = 0
                    ·rw [if_pos c89] at H
                     have c89b0 : (t314 == 0) = true := beq_iff_eq.mpr c89
                     have c89b1 : (t314 != 0) = false := bne_eq_false_iff_eq.mpr c89
                     clear c89
                     by_cases c90 : (wrap64 (t311 + t312)) = (x19_3.length : Int)
                     ·rw [if_pos c90] at H
                      have c90b0 : ((wrap64 (t311 + t312)) == (x19_3.length : Int)) = true := beq_iff_eq.mpr c90
                      have c90b1 : ((wrap64 (t311 + t312)) != (x19_3.length : Int)) = false := bne_eq_false_iff_eq.mpr c90
                      clear c90
                      by_cases c91 : t311 = t280
                      ·rw [if_pos c91] at H
                       have c91b0 : (t311 == t280) = true := beq_iff_eq.mpr c91
                       have c91b1 : (t311 != t280) = false := bne_eq_false_iff_eq.mpr c91
                       clear c91
                       by_cases c92 : t312 = t281
                       ·rw [if_pos c92] at H
                        have c92b0 : (t312 == t281) = true := beq_iff_eq.mpr c92
                        have c92b1 : (t312 != t281) = false := bne_eq_false_iff_eq.mpr c92
                        clear c92
                        obtain ⟨t318, A93, H⟩ := ob_ H
                        try dsimp only at H
                        obtain ⟨t319, A94, H⟩ := ob_ H
                        try dsimp only at H
                        obtain rfl := Option.some.inj H
                        have hnb95 := NB315_244.out
                        have hnc95 := NB244_315.out
                        have hnb96 := NB315_262.out
                        have hnc96 := NB262_315.out
                        have hnb97 := NB315_273.out
                        have hnc97 := NB273_315.out
                        have hnb98 := NB315_284.out
                        have hnc98 := NB284_315.out
                        have hcz99_0 : wr.cell? ⟨gb315, 0, none⟩ = some (.int .i64 t308) := (blk_cell BK315.out 0).trans rfl
                        have hcz99_1 : wr.cell? ⟨gb315, 1, none⟩ = some (.int .i64 t309) := (blk_cell BK315.out 1).trans rfl
                        have hcz99_2 : wr.cell? ⟨gb315, 2, none⟩ = some (.int .i64 t310) := (blk_cell BK315.out 2).trans rfl
                        have hcz99_3 : wr.cell? ⟨gb315, 3, none⟩ = some (.int .i64 t311) := (blk_cell BK315.out 3).trans rfl
                        have hcz99_4 : wr.cell? ⟨gb315, 4, none⟩ = some (.int .i64 t312) := (blk_cell BK315.out 4).trans rfl
                        have hcz99_5 : wr.cell? ⟨gb315, 5, none⟩ = some (.int .i64 t313) := (blk_cell BK315.out 5).trans rfl
                        have hfz99_0 := blk_frozen BK315.out 0
                        have hfz99_1 := blk_frozen BK315.out 1
                        have hfz99_2 := blk_frozen BK315.out 2
                        have hfz99_3 := blk_frozen BK315.out 3
                        have hfz99_4 := blk_frozen BK315.out 4
                        have hfz99_5 := blk_frozen BK315.out 5
                        have hnb100 := NB284_244.out
                        have hnc100 := NB244_284.out
                        have hnb101 := NB284_262.out
                        have hnc101 := NB262_284.out
                        have hnb102 := NB284_273.out
                        have hnc102 := NB273_284.out
                        have hcz103_0 : wr.cell? ⟨gb284, 0, none⟩ = some (.int .i64 t277) := (blk_cell BK284.out 0).trans rfl
                        have hcz103_1 : wr.cell? ⟨gb284, 1, none⟩ = some (.int .i64 t278) := (blk_cell BK284.out 1).trans rfl
                        have hcz103_2 : wr.cell? ⟨gb284, 2, none⟩ = some (.int .i64 t279) := (blk_cell BK284.out 2).trans rfl
                        have hcz103_3 : wr.cell? ⟨gb284, 3, none⟩ = some (.int .i64 t280) := (blk_cell BK284.out 3).trans rfl
                        have hcz103_4 : wr.cell? ⟨gb284, 4, none⟩ = some (.int .i64 t281) := (blk_cell BK284.out 4).trans rfl
                        have hcz103_5 : wr.cell? ⟨gb284, 5, none⟩ = some (.int .i64 t282) := (blk_cell BK284.out 5).trans rfl
                        have hfz103_0 := blk_frozen BK284.out 0
                        have hfz103_1 := blk_frozen BK284.out 1
                        have hfz103_2 := blk_frozen BK284.out 2
                        have hfz103_3 := blk_frozen BK284.out 3
                        have hfz103_4 := blk_frozen BK284.out 4
                        have hfz103_5 := blk_frozen BK284.out 5
                        go_wp2_with (first | (go_at_call 20; (with_reducible refine (policy_Nought.calls t308 t309 t310 t311 t312 t313 0 t318 _ A93.out).mono ?_); rintro e w104 ⟨rfl, hb⟩; have n0_ := Aside0.mk (Kd.R_below (by (with_reducible repeat (first | apply rA | apply rN | apply rD)); exact HO_19.out) hb); have n1_ := kb_ BK244 hb; have n2_ := kb_ BK262 hb; have n3_ := kb_ BK273 hb; have n4_ := kb_ BK284 hb; have n5_ := kb_ BK315 hb; have n6_ := bs_ HB hb; clear HO_19; clear BK244; clear BK262; clear BK273; clear BK284; clear BK315; clear HB; have HO_19 := n0_; have BK244 := n1_; have BK262 := n2_; have BK273 := n3_; have BK284 := n4_; have BK315 := n5_; have HB := n6_; clear n0_ n1_ n2_ n3_ n4_ n5_ n6_; (try clear hb); (try clear hb2); (try clear hk); (try clear hi)) | (go_at_call 21; (with_reducible refine (steelyardref03_Alike.calls t318 0 t319 _ A94.out).mono ?_); rintro e w' ⟨rfl, ⟨nd, rfl⟩⟩))
                        go_ret
                        exact ⟨by first | rfl | (simp [errW_none, errW_some] <;> rfl) | (simp [*, errW_none, errW_some] <;> rfl), bl_ HB⟩
                       ·rw [if_neg c92] at H
                        exact absurd H (by simp)
                      ·rw [if_neg c91] at H
                       exact absurd H (by simp)
                     ·rw [if_neg c90] at H
                      exact absurd H (by simp)
                    ·rw [if_neg c89] at H
                     exact absurd H (by simp)
                   ·rw [if_neg c88] at H
                    have c88b0 : ((x19_3.length : Int) == 0) = false := beq_eq_false_iff_ne.mpr c88
                    have c88b1 : ((x19_3.length : Int) != 0) = true := bne_iff_ne.mpr c88
                    have c88b2 : ¬ (x19_3 = []) := fun h_ => c88 (by rw [h_]; rfl)
                    by_cases c105 : t314 = 0
                    ·rw [if_pos c105] at H
                     have c105b0 : (t314 == 0) = true := beq_iff_eq.mpr c105
                     have c105b1 : (t314 != 0) = false := bne_eq_false_iff_eq.mpr c105
                     clear c105
                     by_cases c106 : (wrap64 (t311 + t312)) = (x19_3.length : Int)
                     ·rw [if_pos c106] at H
                      have c106b0 : ((wrap64 (t311 + t312)) == (x19_3.length : Int)) = true := beq_iff_eq.mpr c106
                      have c106b1 : ((wrap64 (t311 + t312)) != (x19_3.length : Int)) = false := bne_eq_false_iff_eq.mpr c106
                      clear c106
                      by_cases c107 : t311 = t280
                      ·rw [if_pos c107] at H
                       have c107b0 : (t311 == t280) = true := beq_iff_eq.mpr c107
                       have c107b1 : (t311 != t280) = false := bne_eq_false_iff_eq.mpr c107
                       clear c107
                       by_cases c108 : t312 = t281
                       ·rw [if_pos c108] at H
                        have c108b0 : (t312 == t281) = true := beq_iff_eq.mpr c108
                        have c108b1 : (t312 != t281) = false := bne_eq_false_iff_eq.mpr c108
                        clear c108
                        obtain ⟨t320, A109, H⟩ := ob_ H
                        try dsimp only at H
                        obtain ⟨t321, A110, H⟩ := ob_ H
                        try dsimp only at H
                        obtain rfl := Option.some.inj H
                        have hnb111 := NB315_244.out
                        have hnc111 := NB244_315.out
                        have hnb112 := NB315_262.out
                        have hnc112 := NB262_315.out
                        have hnb113 := NB315_273.out
                        have hnc113 := NB273_315.out
                        have hnb114 := NB315_284.out
                        have hnc114 := NB284_315.out
                        have hcz115_0 : wr.cell? ⟨gb315, 0, none⟩ = some (.int .i64 t308) := (blk_cell BK315.out 0).trans rfl
                        have hcz115_1 : wr.cell? ⟨gb315, 1, none⟩ = some (.int .i64 t309) := (blk_cell BK315.out 1).trans rfl
                        have hcz115_2 : wr.cell? ⟨gb315, 2, none⟩ = some (.int .i64 t310) := (blk_cell BK315.out 2).trans rfl
                        have hcz115_3 : wr.cell? ⟨gb315, 3, none⟩ = some (.int .i64 t311) := (blk_cell BK315.out 3).trans rfl
                        have hcz115_4 : wr.cell? ⟨gb315, 4, none⟩ = some (.int .i64 t312) := (blk_cell BK315.out 4).trans rfl
                        have hcz115_5 : wr.cell? ⟨gb315, 5, none⟩ = some (.int .i64 t313) := (blk_cell BK315.out 5).trans rfl
                        have hfz115_0 := blk_frozen BK315.out 0
                        have hfz115_1 := blk_frozen BK315.out 1
                        have hfz115_2 := blk_frozen BK315.out 2
                        have hfz115_3 := blk_frozen BK315.out 3
                        have hfz115_4 := blk_frozen BK315.out 4
                        have hfz115_5 := blk_frozen BK315.out 5
                        have hnb116 := NB284_244.out
                        have hnc116 := NB244_284.out
                        have hnb117 := NB284_262.out
                        have hnc117 := NB262_284.out
                        have hnb118 := NB284_273.out
                        have hnc118 := NB273_284.out
                        have hcz119_0 : wr.cell? ⟨gb284, 0, none⟩ = some (.int .i64 t277) := (blk_cell BK284.out 0).trans rfl
                        have hcz119_1 : wr.cell? ⟨gb284, 1, none⟩ = some (.int .i64 t278) := (blk_cell BK284.out 1).trans rfl
                        have hcz119_2 : wr.cell? ⟨gb284, 2, none⟩ = some (.int .i64 t279) := (blk_cell BK284.out 2).trans rfl
                        have hcz119_3 : wr.cell? ⟨gb284, 3, none⟩ = some (.int .i64 t280) := (blk_cell BK284.out 3).trans rfl
                        have hcz119_4 : wr.cell? ⟨gb284, 4, none⟩ = some (.int .i64 t281) := (blk_cell BK284.out 4).trans rfl
                        have hcz119_5 : wr.cell? ⟨gb284, 5, none⟩ = some (.int .i64 t282) := (blk_cell BK284.out 5).trans rfl
                        have hfz119_0 := blk_frozen BK284.out 0
                        have hfz119_1 := blk_frozen BK284.out 1
                        have hfz119_2 := blk_frozen BK284.out 2
                        have hfz119_3 := blk_frozen BK284.out 3
                        have hfz119_4 := blk_frozen BK284.out 4
                        have hfz119_5 := blk_frozen BK284.out 5
                        go_wp2_with (first | (go_at_call 20; (with_reducible refine (policy_Nought.calls t308 t309 t310 t311 t312 t313 0 t320 _ A109.out).mono ?_); rintro e w120 ⟨rfl, hb⟩; have n0_ := Aside0.mk (Kd.R_below (by (with_reducible repeat (first | apply rA | apply rN | apply rD)); exact HO_19.out) hb); have n1_ := kb_ BK244 hb; have n2_ := kb_ BK262 hb; have n3_ := kb_ BK273 hb; have n4_ := kb_ BK284 hb; have n5_ := kb_ BK315 hb; have n6_ := bs_ HB hb; clear HO_19; clear BK244; clear BK262; clear BK273; clear BK284; clear BK315; clear HB; have HO_19 := n0_; have BK244 := n1_; have BK262 := n2_; have BK273 := n3_; have BK284 := n4_; have BK315 := n5_; have HB := n6_; clear n0_ n1_ n2_ n3_ n4_ n5_ n6_; (try clear hb); (try clear hb2); (try clear hk); (try clear hi)) | (go_at_call 21; (with_reducible refine (steelyardref03_Alike.calls t320 x24_4 t321 _ A110.out).mono ?_); rintro e w' ⟨rfl, ⟨nd, rfl⟩⟩))
                        go_ret
                        exact ⟨by first | rfl | (simp [errW_none, errW_some] <;> rfl) | (simp [*, errW_none, errW_some] <;> rfl), bl_ HB⟩
                       ·rw [if_neg c108] at H
                        exact absurd H (by simp)
                      ·rw [if_neg c107] at H
                       exact absurd H (by simp)
                     ·rw [if_neg c106] at H
                      exact absurd H (by simp)
                    ·rw [if_neg c105] at H
                     exact absurd H (by simp)
         ·rw [if_neg c39] at H
          exact absurd H (by simp)
        ·rw [if_neg c38] at H
         exact absurd H (by simp)
       ·rw [if_neg c37] at H
        have c37b0 : (t283 == 0) = false := beq_eq_false_iff_ne.mpr c37
        have c37b1 : (t283 != 0) = true := bne_iff_ne.mpr c37
        by_cases c121 : t283 = 2
        ·rw [if_pos c121] at H
         have c121b0 : (t283 == 2) = true := beq_iff_eq.mpr c121
         have c121b1 : (t283 != 2) = false := bne_eq_false_iff_eq.mpr c121
         clear c121
         obtain rfl := Option.some.inj H
         go_wp2
         go_ret
         exact ⟨by first | rfl | (simp [errW_none, errW_some] <;> rfl) | (simp [*, errW_none, errW_some] <;> rfl), bl_ HB⟩
        ·rw [if_neg c121] at H
         exact absurd H (by simp)
   ·rw [if_neg c7] at H
    exact absurd H (by simp)
  ·rw [if_neg c6] at H
   exact absurd H (by simp)
 ·replace c5 := Bool.eq_false_iff.mpr c5
  subst c5
  have H1 : (none) = some r := by rw [if_neg (show ¬ (false = true) by decide)] at H; exact H
  clear H
  have H := H1
  clear H1
  exact absurd H (by simp)

/-- THE ONE PURE STATEMENT of steelyardlaw06_PolicyParts: yours. -/
def steelyardlaw06_PolicyParts.Pure : Prop := ∀ (l0 : List Nat) (l1 : List Nat) (a2_0 : Int) (a2_1 : Int), l0.length ≤ maxLen → l0.length * 8 ≤ 140737488351232 → (∀ y_ ∈ l0, (Lit.float .f64 y_).wf = true) → l1.length ≤ maxLen → l1.length * 8 ≤ 140737488351232 → (∀ y_ ∈ l1, (Lit.float .f64 y_).wf = true) → (Lit.int .i64 a2_0).wf = true → (Lit.int .i64 a2_1).wf = true → ∃ k, steelyardlaw06_PolicyParts.f k l0 l1 a2_0 a2_1 = some true

end Go.Proofs.Ytkoonpjlpobmeaa.Pr
