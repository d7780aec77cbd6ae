-- short
-- written by this session's own program (wip/fprint.py), which widens the kit's print by floats
import Derived.Test.YtdemanikmaafeaaPr0
import Derived.Test.YtdemanikmaafeaaPr6
import Derived.Test.YtdemanikmaafeaaPr7
import Derived.Test.YtdemanikmaafeaaPr8
namespace Go.Proofs.Ytdemanikmaafeaa.Pr
open Go.RowKit Go.Proofs.YtdemanikmaafeaaW.PrintWords Go.Proofs.YtdemanikmaafeaaW.PrintLast Go.Proofs.YtdemanikmaafeaaW.PrintMore
attribute [local go_sem] max2_int min2_int max_two min_two max_three min_three max_four min_four   -- for this text's walks alone
set_option linter.unusedVariables false
set_option linter.unusedSimpArgs false

/-! ### steelyardref02_Minus: function 62 -/
def steelyardref02_Minus.l0 : Nat → List Int → List Int → List Int → Int → Int → Option (List Int)
 | 0, _, _, _, _, _ => none
 | k + 1, x0, x1, x5, x6, x7 => if x7 < (x0.length : Int) then ((steelyardref02_at.f x0 x7).bind fun t260 => ((steelyardref02_at.f x1 x7).bind fun t261 => (if x5.length < 35184372088832 then (steelyardref02_Minus.l0 k x0 x1 (x5 ++ [(IntKind.u64.wrap ((IntKind.u64.wrap ((IntKind.u64.wrap (t260 + 4294967296)) - t261)) - x6)) % 4294967296]) (IntKind.u64.wrap (1 - ((IntKind.u64.wrap ((IntKind.u64.wrap ((IntKind.u64.wrap (t260 + 4294967296)) - t261)) - x6)) / 4294967296))) (wrap64 (x7 + 1))) else (none)))) else ((steelyardref02_Norm.f k x5).bind fun t265 => (some t265))
def steelyardref02_Minus.f (k : Nat) (l0 : List Int) (l1 : List Int) : Option (List Int) := steelyardref02_Minus.l0 k l0 l1 ([] : List Int) 0 0
theorem steelyardref02_Minus.mono_l : ∀ k, (∀ y0 y1 y2 y3 y4, LeO (steelyardref02_Minus.l0 k y0 y1 y2 y3 y4) (steelyardref02_Minus.l0 (k + 1) y0 y1 y2 y3 y4))
 | 0 => fun _ _ _ _ _ r h => by simp [steelyardref02_Minus.l0] at h
 | k + 1 => by
  have ih0 := steelyardref02_Minus.mono_l k
  ·intro y0 y1 y2 y3 y4
   unfold steelyardref02_Minus.l0
   repeat' first
   | (with_reducible exact ih0 _ _ _ _ _)
   | (with_reducible exact steelyardref02_Norm.mono _ _)
   | (with_reducible exact LeO.refl _)
   | (with_reducible exact LeO.none _)
   | (with_reducible refine LeO.ite ?_ ?_)
   | (with_reducible refine LeO.bind ?_ (fun _ => ?_))
   | exact ih0 _ _ _ _ _
   | exact steelyardref02_Norm.mono _ _
   | exact LeO.none _
   | refine LeO.ite ?_ ?_
   | refine LeO.bind ?_ (fun _ => ?_)
theorem steelyardref02_Minus.mono : ∀ a0 a1 k, LeO (steelyardref02_Minus.f k a0 a1) (steelyardref02_Minus.f (k + 1) a0 a1) := by
 intro a0 a1 k
 have ih0 := steelyardref02_Minus.mono_l k
 unfold steelyardref02_Minus.f
 repeat' first
   | (with_reducible exact ih0 _ _ _ _ _)
   | (with_reducible exact steelyardref02_Norm.mono _ _)
   | (with_reducible exact LeO.refl _)
   | (with_reducible exact LeO.none _)
   | (with_reducible refine LeO.ite ?_ ?_)
   | (with_reducible refine LeO.bind ?_ (fun _ => ?_))
   | exact ih0 _ _ _ _ _
   | exact steelyardref02_Norm.mono _ _
   | exact LeO.none _
   | refine LeO.ite ?_ ?_
   | refine LeO.bind ?_ (fun _ => ?_)
set_option maxHeartbeats 3000000 in
set_option maxRecDepth 100000 in
theorem steelyardref02_Minus.calls (k : Nat) (A0 : Option Addr) (c0 : Nat) (l0 : List Int) (A1 : Option Addr) (c1 : Nat) (l1 : List Int) (r : List Int) (w : World) (hr0 : Kd.C (Kd.int .u32) w A0 l0.length l0) (hc0 : l0.length ≤ c0) (hr1 : Kd.C (Kd.int .u32) w A1 l1.length l1) (hc1 : l1.length ≤ c1) (h : steelyardref02_Minus.f k l0 l1 = some r) :
  Calls Try.prog 62 #[.slice A0 l0.length c0, .slice A1 l1.length c1] w fun e w' => ∃ v0_ : Value, e = .returned (v0_) ∧ Kd.R (Kd.int .u32) 72 w' w.heap.size (fun _ => True) v0_ r ∧ Below w.heap.size w w' := by
 have HR0 := Aside0.mk hr0
 have HC0 := Aside0.mk hc0
 clear hr0 hc0
 have HR1 := Aside0.mk hr1
 have HC1 := Aside0.mk hc1
 clear hr1 hc1
 have HB := Aside0.mk (Below.refl w.heap.size w)
 have H : (steelyardref02_Minus.l0 k l0 l1 ([] : List Int) 0 0) = some r := h
 clear h
 have H' := Aside0.mk H
 clear H
 go_enter Try.func62, Try.ntmps62
 go_wp2
 go_loopg [5, 6, 7] k (fun kq v5 v6 v7 w' => ∃ (x5_1 : List Int) (x6_1 : Int) (x7_1 : Int), v6 = .int .u64 x6_1 ∧ v7 = .int .i64 x7_1 ∧ Aside0 (steelyardref02_Minus.l0 kq l0 l1 x5_1 x6_1 x7_1 = some r) ∧ Aside0 (kq ≤ k) ∧ Aside0 (Kd.R (Kd.int .u32) 72 w' w.heap.size (fun _ => True) v5 x5_1) ∧ Aside0 (Below w.heap.size w w'))
 case atStart => exact ⟨(([] : List Int)), (0), (0), (by first | rfl | (simp; done) | (simp [*]; done)), (by first | rfl | (simp; done) | (simp [*]; done)), H', ⟨Nat.le_refl _⟩, ⟨by first | exact Kd.R_nil _ _ _ _ _ | exact Kd.N_nil _ _ _ _ _ | exact Kd.V_nil _ _ _ _ _ | exact Kd.Q_nil _ _ _ _ _ | exact Kd.S_nil _ _ _ _ _⟩, ⟨bl_ HB⟩⟩
 case round =>
  clear H'
  try clear c1
  try clear p2
  obtain ⟨x5_1, x6_1, x7_1, rfl, rfl, HA, HK1, HO_5, HB⟩ := hrel
  cases gk with
  | zero => exact absurd HA.out (by simp [steelyardref02_Minus.l0])
  | succ k1 =>
   have H := HA.out
   clear HA
   simp only [steelyardref02_Minus.l0] at H
   by_cases c3 : x7_1 < (l0.length : Int)
   ·rw [if_pos c3] at H
    have c3b0 : decide (x7_1 < (l0.length : Int)) = true := decide_eq_true c3
    clear c3
    obtain ⟨t260, A4, H⟩ := ob_ H
    try dsimp only at H
    obtain ⟨t261, A5, H⟩ := ob_ H
    try dsimp only at H
    by_cases c6 : x5_1.length < 35184372088832
    ·rw [if_pos c6] at H
     have LMc6 := Aside0.mk c6
     clear c6
     obtain ⟨y262, hy262⟩ : ∃ y_ : List Int, y_ = (x5_1 ++ [(IntKind.u64.wrap ((IntKind.u64.wrap ((IntKind.u64.wrap (t260 + 4294967296)) - t261)) - x6_1)) % 4294967296]) := ⟨_, rfl⟩
     replace H : (steelyardref02_Minus.l0 k1 l0 l1 y262 (IntKind.u64.wrap (1 - ((IntKind.u64.wrap ((IntKind.u64.wrap ((IntKind.u64.wrap (t260 + 4294967296)) - t261)) - x6_1)) / 4294967296))) (wrap64 (x7_1 + 1))) = some r := by first | (rw [hy262]; with_reducible exact H) | (have H2_ := (Option.bind_some _ _).symm.trans H; rw [hy262]; with_reducible exact H2_) | (have H2_ := (Option.bind_some _ _).symm.trans H; with_reducible exact H2_) | with_reducible exact H | (rw [hy262]; exact H) | exact H
     have Ny262 := Aside0.mk hy262
     clear hy262
     have H' := Aside0.mk H
     clear H
     go_wp2_with (first | ((with_reducible refine gate_callee (f := 79) rfl ?_); refine goesM (some 17) Try.func79 #[.slice A0 l0.length c0, .int .i64 x7_1] ?_; (with_reducible refine (steelyardref02_at.calls _ _ l0 x7_1 t260 _ ?side1 ?side2 A4.out).mono ?_); (case side1 => repeat (first | exact (Kd.C_below HR0.out HB.out) | (with_reducible first | apply cA | apply cN | apply cD))); (case side2 => exact HC0.out); rintro e w' ⟨rfl, ⟨nd, rfl⟩⟩; refine ⟨_, rfl, ?_⟩) | ((with_reducible refine gate_callee (f := 79) rfl ?_); refine goesM (some 21) Try.func79 #[.slice A1 l1.length c1, .int .i64 x7_1] ?_; (with_reducible refine (steelyardref02_at.calls _ _ l1 x7_1 t261 _ ?side1 ?side2 A5.out).mono ?_); (case side1 => repeat (first | exact (Kd.C_below HR1.out (bl_ HB)) | (with_reducible first | apply cA | apply cN | apply cD))); (case side2 => exact HC1.out); rintro e w' ⟨rfl, ⟨nd, rfl⟩⟩; refine ⟨_, rfl, ?_⟩) | ((with_reducible refine gate_builtin (b := .append) (xs := #[.tmp 25, .tmp 28]) rfl ?_); at_builtin; refine Kd.R_append (Kd.int .u32) (w0 := w) w.heap.size rfl (.tmp 25) (.tmp 28) 41 72 (.int .u32 0) 4 rfl Try.underlying41 info72 rfl (by decide) (by omega) u5 x5_1 ((IntKind.u64.wrap ((IntKind.u64.wrap ((IntKind.u64.wrap (t260 + 4294967296)) - t261)) - x6_1)) % 4294967296) [.int .u32 ((IntKind.u64.wrap ((IntKind.u64.wrap ((IntKind.u64.wrap (t260 + 4294967296)) - t261)) - x6_1)) % 4294967296)] (fun _ => True) (fun _ => False) rfl rfl ?aP (fun _ hk => hk.elim) ?aF ?aO ?aB ?aS ?aL ?_; (case aP => exact rfl); (case aB => exact (bl_ HB)); (case aF => exact (fun _ _ => trivial)); (case aO => exact (by (with_reducible repeat (first | apply rA | apply rN | apply rD)); exact HO_5.out)); (case aS => exact (below_size (bl_ HB))); (case aL => have := LMc6.out; omega); intro v263 w7 ho hb hg hat; rw [← Ny262.out] at ho; have n0_ := Aside0.mk (hb); have n1_ := Aside0.mk (ho); clear HB; clear HO_5; have HB := n0_; have HO264 := n1_; clear n0_ n1_; clear ho hb hg hat))
     go_roundg k1
     case measure => have := HK1.out; omega
     case rel => exact ⟨(y262), (IntKind.u64.wrap (1 - ((IntKind.u64.wrap ((IntKind.u64.wrap ((IntKind.u64.wrap (t260 + 4294967296)) - t261)) - x6_1)) / 4294967296))), (wrap64 (x7_1 + 1)), (by first | rfl | (simp; done) | (simp [*]; done)), (by first | rfl | (simp; done) | (simp [*]; done)), H', ⟨by have := HK1.out; omega⟩, ⟨by (with_reducible repeat (first | apply rA | apply rN | apply rD)); exact HO264.out⟩, ⟨bl_ HB⟩⟩
    ·rw [if_neg c6] at H
     exact absurd H (by simp)
   ·rw [if_neg c3] at H
    have c3b0 : decide (x7_1 < (l0.length : Int)) = false := decide_eq_false c3
    clear c3
    obtain ⟨t265, A8, H⟩ := ob_ H
    try dsimp only at H
    obtain rfl := Option.some.inj H
    obtain ⟨Ao9, co9, eo9⟩ := Kd.R_slice HO_5.out
    subst eo9
    go_wp2_with (first | ((with_reducible refine gate_callee (f := 78) rfl ?_); refine goesM (some 34) Try.func78 #[.slice Ao9 x5_1.length co9] ?_; (with_reducible refine (steelyardref02_Norm.calls k1 _ _ x5_1 t265 _ ?side1 ?side2 A8.out).mono ?_); (case side1 => repeat (first | exact (Kd.R_reads' HO_5.out).2.2 | (with_reducible first | apply cA | apply cN | apply cD))); (case side2 => exact (Kd.R_reads' HO_5.out).2.1); rintro e w10 ⟨v266, rfl, ho0, hb⟩; refine ⟨_, rfl, ?_⟩; have n0_ := Aside0.mk (Kd.R_elder' (by (with_reducible repeat (first | apply rA | apply rN | apply rD)); exact HO_5.out) (Kd.R_base ho0) hb); have n1_ := Aside0.mk (Kd.R_lower (Kd.R_new' ho0 (Kd.R_lt (by (with_reducible repeat (first | apply rA | apply rN | apply rD)); exact HO_5.out))) (below_size (bl_ HB))); have n2_ := bs_ HB hb; clear HO_5; clear HB; have HO_5 := n0_; have HO267 := n1_; have HB := n2_; clear n0_ n1_ n2_; (try clear hb); (try clear hb2); (try clear hk); (try clear hi); (try clear ho0)))
    go_ret
    exact ⟨_, by first | rfl | (simp [errW_none, errW_some] <;> rfl) | (simp [*, errW_none, errW_some] <;> rfl), by (with_reducible repeat (first | apply rA | apply rN | apply rD)); exact Kd.R_mono HO267.out (fun _ hk => trivial), bl_ HB⟩

/-! ### steelyardref02_digit: function 84 -/
def steelyardref02_digit.l0 : Nat → List Int → List Int → Int → Int → List Int → Option (Int × List Int)
 | 0, _, _, _, _, _ => none
 | k + 1, x0, x1, x6, x7, x8 => if (IntKind.u64.wrap (x7 - x6)) > 1 then ((steelyardref02_Times.f k x1 (([(IntKind.u64.wrap (Int.tdiv (IntKind.u64.wrap (x6 + x7)) 2)) % 4294967296] : List Int))).bind fun t271 => ((steelyardref02_Cmp.f k t271 x0).bind fun t274 => (if t274 ≤ 0 then (steelyardref02_digit.l0 k x0 x1 (IntKind.u64.wrap (Int.tdiv (IntKind.u64.wrap (x6 + x7)) 2)) x7 t271) else (steelyardref02_digit.l0 k x0 x1 x6 (IntKind.u64.wrap (Int.tdiv (IntKind.u64.wrap (x6 + x7)) 2)) x8)))) else (some ((x6) % 4294967296, x8))
def steelyardref02_digit.f (k : Nat) (l0 : List Int) (l1 : List Int) : Option (Int × List Int) := steelyardref02_digit.l0 k l0 l1 0 4294967296 ([] : List Int)
theorem steelyardref02_digit.mono_l : ∀ k, (∀ y0 y1 y2 y3 y4, LeO (steelyardref02_digit.l0 k y0 y1 y2 y3 y4) (steelyardref02_digit.l0 (k + 1) y0 y1 y2 y3 y4))
 | 0 => fun _ _ _ _ _ r h => by simp [steelyardref02_digit.l0] at h
 | k + 1 => by
  have ih0 := steelyardref02_digit.mono_l k
  ·intro y0 y1 y2 y3 y4
   unfold steelyardref02_digit.l0
   repeat' first
   | (with_reducible exact ih0 _ _ _ _ _)
   | (with_reducible exact steelyardref02_Cmp.mono _ _ _)
   | (with_reducible exact steelyardref02_Times.mono _ _ _)
   | (with_reducible exact LeO.refl _)
   | (with_reducible exact LeO.none _)
   | (with_reducible refine LeO.ite ?_ ?_)
   | (with_reducible refine LeO.bind ?_ (fun _ => ?_))
   | exact ih0 _ _ _ _ _
   | exact steelyardref02_Cmp.mono _ _ _
   | exact steelyardref02_Times.mono _ _ _
   | exact LeO.none _
   | refine LeO.ite ?_ ?_
   | refine LeO.bind ?_ (fun _ => ?_)
theorem steelyardref02_digit.mono : ∀ a0 a1 k, LeO (steelyardref02_digit.f k a0 a1) (steelyardref02_digit.f (k + 1) a0 a1) := by
 intro a0 a1 k
 have ih0 := steelyardref02_digit.mono_l k
 unfold steelyardref02_digit.f
 repeat' first
   | (with_reducible exact ih0 _ _ _ _ _)
   | (with_reducible exact steelyardref02_Cmp.mono _ _ _)
   | (with_reducible exact steelyardref02_Times.mono _ _ _)
   | (with_reducible exact LeO.refl _)
   | (with_reducible exact LeO.none _)
   | (with_reducible refine LeO.ite ?_ ?_)
   | (with_reducible refine LeO.bind ?_ (fun _ => ?_))
   | exact ih0 _ _ _ _ _
   | exact steelyardref02_Cmp.mono _ _ _
   | exact steelyardref02_Times.mono _ _ _
   | exact LeO.none _
   | refine LeO.ite ?_ ?_
   | refine LeO.bind ?_ (fun _ => ?_)
set_option maxHeartbeats 3000000 in
set_option maxRecDepth 100000 in
theorem steelyardref02_digit.calls (k : Nat) (A0 : Option Addr) (c0 : Nat) (l0 : List Int) (A1 : Option Addr) (c1 : Nat) (l1 : List Int) (r1 : Int) (r2 : List Int) (w : World) (hr0 : Kd.C (Kd.int .u32) w A0 l0.length l0) (hc0 : l0.length ≤ c0) (hr1 : Kd.C (Kd.int .u32) w A1 l1.length l1) (hc1 : l1.length ≤ c1) (h : steelyardref02_digit.f k l0 l1 = some (r1, r2)) :
  Calls Try.prog 84 #[.slice A0 l0.length c0, .slice A1 l1.length c1] w fun e w' => ∃ v1_ : Value, e = .returned (.tuple #[.int .u32 r1, v1_]) ∧ Kd.R (Kd.int .u32) 72 w' w.heap.size (fun _ => True) v1_ r2 ∧ Below w.heap.size w w' := by
 have HR0 := Aside0.mk hr0
 have HC0 := Aside0.mk hc0
 clear hr0 hc0
 have HR1 := Aside0.mk hr1
 have HC1 := Aside0.mk hc1
 clear hr1 hc1
 have HB := Aside0.mk (Below.refl w.heap.size w)
 have H : (steelyardref02_digit.l0 k l0 l1 0 4294967296 ([] : List Int)) = some (r1, r2) := h
 clear h
 have H' := Aside0.mk H
 clear H
 go_enter Try.func84, Try.ntmps84
 go_wp2
 go_loopg [6, 7, 8] k (fun kq v6 v7 v8 w' => ∃ (x6_1 : Int) (x7_1 : Int) (x8_1 : List Int), v6 = .int .u64 x6_1 ∧ v7 = .int .u64 x7_1 ∧ Aside0 (steelyardref02_digit.l0 kq l0 l1 x6_1 x7_1 x8_1 = some (r1, r2)) ∧ Aside0 (kq ≤ k) ∧ Aside0 (Kd.R (Kd.int .u32) 72 w' w.heap.size (fun _ => True) v8 x8_1) ∧ Aside0 (Below w.heap.size w w'))
 case atStart => exact ⟨(0), (4294967296), (([] : List Int)), (by first | rfl | (simp; done) | (simp [*]; done)), (by first | rfl | (simp; done) | (simp [*]; done)), H', ⟨Nat.le_refl _⟩, ⟨by first | exact Kd.R_nil _ _ _ _ _ | exact Kd.N_nil _ _ _ _ _ | exact Kd.V_nil _ _ _ _ _ | exact Kd.Q_nil _ _ _ _ _ | exact Kd.S_nil _ _ _ _ _⟩, ⟨bl_ HB⟩⟩
 case round =>
  clear H'
  try clear c1
  try clear p2
  obtain ⟨x6_1, x7_1, x8_1, rfl, rfl, HA, HK1, HO_8, HB⟩ := hrel
  cases gk with
  | zero => exact absurd HA.out (by simp [steelyardref02_digit.l0])
  | succ k1 =>
   have H := HA.out
   clear HA
   simp only [steelyardref02_digit.l0] at H
   by_cases c3 : (IntKind.u64.wrap (x7_1 - x6_1)) > 1
   ·rw [if_pos c3] at H
    have c3b0 : decide (1 < (IntKind.u64.wrap (x7_1 - x6_1))) = true := decide_eq_true c3
    clear c3
    obtain ⟨y268, hy268⟩ : ∃ y_ : List Int, y_ = (([(IntKind.u64.wrap (Int.tdiv (IntKind.u64.wrap (x6_1 + x7_1)) 2)) % 4294967296] : List Int)) := ⟨_, rfl⟩
    replace H : ((steelyardref02_Times.f k1 l1 y268).bind fun t271 => ((steelyardref02_Cmp.f k1 t271 l0).bind fun t274 => (if t274 ≤ 0 then (steelyardref02_digit.l0 k1 l0 l1 (IntKind.u64.wrap (Int.tdiv (IntKind.u64.wrap (x6_1 + x7_1)) 2)) x7_1 t271) else (steelyardref02_digit.l0 k1 l0 l1 x6_1 (IntKind.u64.wrap (Int.tdiv (IntKind.u64.wrap (x6_1 + x7_1)) 2)) x8_1)))) = some (r1, r2) := by first | (rw [hy268]; with_reducible exact H) | (have H2_ := (Option.bind_some _ _).symm.trans H; rw [hy268]; with_reducible exact H2_) | (have H2_ := (Option.bind_some _ _).symm.trans H; with_reducible exact H2_) | with_reducible exact H | (rw [hy268]; exact H) | exact H
    have Ny268 := Aside0.mk hy268
    clear hy268
    obtain ⟨t271, A4, H⟩ := ob_ H
    try dsimp only at H
    obtain ⟨t274, A5, H⟩ := ob_ H
    try dsimp only at H
    by_cases c6 : t274 ≤ 0
    ·rw [if_pos c6] at H
     have c6b0 : decide (t274 ≤ 0) = true := decide_eq_true c6
     clear c6
     have H' := Aside0.mk H
     clear H
     go_wp2_with (first | ((with_reducible refine gate_dst (N := 22) rfl ?_); refine Kd.R_lit (Kd.int .u32) _ 72 ?hg (N := 22) ?hd (xs := ([(IntKind.u64.wrap (Int.tdiv (IntKind.u64.wrap (x6_1 + x7_1)) 2)) % 4294967296] : List Int)) (inner := [.int .u32 ((IntKind.u64.wrap (Int.tdiv (IntKind.u64.wrap (x6_1 + x7_1)) 2)) % 4294967296)]) (ok := fun _ => True) (okp := fun _ => True) ?hr ?hp (fun _ hk => hk) trivial (Below.refl _ _) (Nat.le_refl _) (by simp) ?_; (case hd => rfl); (case hg => rfl); (case hr => first | (go_simp; done) | (go_simp; rfl)); (case hp => exact (Reps.one (show Kd.M (Kd.int .u32) _ _ _ ((IntKind.u64.wrap (Int.tdiv (IntKind.u64.wrap (x6_1 + x7_1)) 2)) % 4294967296) [.int .u32 ((IntKind.u64.wrap (Int.tdiv (IntKind.u64.wrap (x6_1 + x7_1)) 2)) % 4294967296)] from rfl) (Reps.none _ _))); intro v269 w7 ho8 hb hg_ hnew_; clear hg_ hnew_; (first | rw [← Ny268.out] at ho8 | (simp only [Int.reduceToNat] at ho8; rw [← Ny268.out] at ho8)); have n0_ := Aside0.mk (Kd.R_elder' (by (with_reducible repeat (first | apply rA | apply rN | apply rD)); exact HO_8.out) (Kd.R_base ho8) hb); have n1_ := Aside0.mk (Kd.R_lower (Kd.R_new' ho8 (Kd.R_lt (by (with_reducible repeat (first | apply rA | apply rN | apply rD)); exact HO_8.out))) (below_size (bl_ HB))); have n2_ := bs_ HB hb; clear HO_8; clear HB; have HO_8 := n0_; have HO270 := n1_; have HB := n2_; clear n0_ n1_ n2_; clear hb ho8; obtain ⟨Ao9, co9, eo9⟩ := Kd.R_slice HO270.out; subst eo9) | ((with_reducible refine gate_callee (f := 63) rfl ?_); refine goesM (some 23) Try.func63 #[.slice A1 l1.length c1, .slice Ao9 y268.length co9] ?_; (with_reducible refine (steelyardref02_Times.calls k1 _ _ l1 _ _ y268 t271 _ ?side1 ?side2 ?side3 ?side4 A4.out).mono ?_); (case side1 => repeat (first | exact (Kd.C_below HR1.out HB.out) | (with_reducible first | apply cA | apply cN | apply cD))); (case side2 => exact HC1.out); (case side3 => repeat (first | exact (Kd.R_reads' HO270.out).2.2 | (with_reducible first | apply cA | apply cN | apply cD))); (case side4 => exact (Kd.R_reads' HO270.out).2.1); rintro e w10 ⟨v272, rfl, ho0, hb⟩; refine ⟨_, rfl, ?_⟩; have n0_ := Aside0.mk (Kd.R_elder' (by (with_reducible repeat (first | apply rA | apply rN | apply rD)); exact HO_8.out) (Kd.R_base ho0) hb); have n1_ := Aside0.mk (Kd.R_elder' (by (with_reducible repeat (first | apply rA | apply rN | apply rD)); exact HO270.out) (Kd.R_base ho0) hb); have n2_ := Aside0.mk (Kd.R_lower (Kd.R_new' (Kd.R_new' ho0 (Kd.R_lt (by (with_reducible repeat (first | apply rA | apply rN | apply rD)); exact HO_8.out))) (Kd.R_lt (by (with_reducible repeat (first | apply rA | apply rN | apply rD)); exact HO270.out))) (below_size (bl_ HB))); have n3_ := bs_ HB hb; clear HO_8; clear HO270; clear HB; have HO_8 := n0_; have HO270 := n1_; have HO273 := n2_; have HB := n3_; clear n0_ n1_ n2_ n3_; (try clear hb); (try clear hb2); (try clear hk); (try clear hi); (try clear ho0); obtain ⟨Ao11, co11, eo11⟩ := Kd.R_slice HO273.out; subst eo11) | ((with_reducible refine gate_callee (f := 61) rfl ?_); refine goesM (some 26) Try.func61 #[.slice Ao11 t271.length co11, .slice A0 l0.length c0] ?_; (with_reducible refine (steelyardref02_Cmp.calls k1 _ _ t271 _ _ l0 t274 _ ?side1 ?side2 ?side3 ?side4 A5.out).mono ?_); (case side1 => repeat (first | exact (Kd.R_reads' HO273.out).2.2 | (with_reducible first | apply cA | apply cN | apply cD))); (case side2 => exact (Kd.R_reads' HO273.out).2.1); (case side3 => repeat (first | exact (Kd.C_below HR0.out HB.out) | (with_reducible first | apply cA | apply cN | apply cD))); (case side4 => exact HC0.out); rintro e w' ⟨rfl, ⟨nd, rfl⟩⟩; refine ⟨_, rfl, ?_⟩))
     go_roundg k1
     case measure => have := HK1.out; omega
     case rel => exact ⟨(IntKind.u64.wrap (Int.tdiv (IntKind.u64.wrap (x6_1 + x7_1)) 2)), (x7_1), (t271), (by first | rfl | (simp; done) | (simp [*]; done)), (by first | rfl | (simp; done) | (simp [*]; done)), H', ⟨by have := HK1.out; omega⟩, ⟨by (with_reducible repeat (first | apply rA | apply rN | apply rD)); exact Kd.R_mono HO273.out (fun _ hk => trivial)⟩, ⟨bl_ HB⟩⟩
    ·rw [if_neg c6] at H
     have c6b0 : decide (t274 ≤ 0) = false := decide_eq_false c6
     clear c6
     have H' := Aside0.mk H
     clear H
     go_wp2_with (first | ((with_reducible refine gate_dst (N := 22) rfl ?_); refine Kd.R_lit (Kd.int .u32) _ 72 ?hg (N := 22) ?hd (xs := ([(IntKind.u64.wrap (Int.tdiv (IntKind.u64.wrap (x6_1 + x7_1)) 2)) % 4294967296] : List Int)) (inner := [.int .u32 ((IntKind.u64.wrap (Int.tdiv (IntKind.u64.wrap (x6_1 + x7_1)) 2)) % 4294967296)]) (ok := fun _ => True) (okp := fun _ => True) ?hr ?hp (fun _ hk => hk) trivial (Below.refl _ _) (Nat.le_refl _) (by simp) ?_; (case hd => rfl); (case hg => rfl); (case hr => first | (go_simp; done) | (go_simp; rfl)); (case hp => exact (Reps.one (show Kd.M (Kd.int .u32) _ _ _ ((IntKind.u64.wrap (Int.tdiv (IntKind.u64.wrap (x6_1 + x7_1)) 2)) % 4294967296) [.int .u32 ((IntKind.u64.wrap (Int.tdiv (IntKind.u64.wrap (x6_1 + x7_1)) 2)) % 4294967296)] from rfl) (Reps.none _ _))); intro v269 w12 ho13 hb hg_ hnew_; clear hg_ hnew_; (first | rw [← Ny268.out] at ho13 | (simp only [Int.reduceToNat] at ho13; rw [← Ny268.out] at ho13)); have n0_ := Aside0.mk (Kd.R_elder' (by (with_reducible repeat (first | apply rA | apply rN | apply rD)); exact HO_8.out) (Kd.R_base ho13) hb); have n1_ := Aside0.mk (Kd.R_lower (Kd.R_new' ho13 (Kd.R_lt (by (with_reducible repeat (first | apply rA | apply rN | apply rD)); exact HO_8.out))) (below_size (bl_ HB))); have n2_ := bs_ HB hb; clear HO_8; clear HB; have HO_8 := n0_; have HO270 := n1_; have HB := n2_; clear n0_ n1_ n2_; clear hb ho13; obtain ⟨Ao14, co14, eo14⟩ := Kd.R_slice HO270.out; subst eo14) | ((with_reducible refine gate_callee (f := 63) rfl ?_); refine goesM (some 23) Try.func63 #[.slice A1 l1.length c1, .slice Ao14 y268.length co14] ?_; (with_reducible refine (steelyardref02_Times.calls k1 _ _ l1 _ _ y268 t271 _ ?side1 ?side2 ?side3 ?side4 A4.out).mono ?_); (case side1 => repeat (first | exact (Kd.C_below HR1.out HB.out) | (with_reducible first | apply cA | apply cN | apply cD))); (case side2 => exact HC1.out); (case side3 => repeat (first | exact (Kd.R_reads' HO270.out).2.2 | (with_reducible first | apply cA | apply cN | apply cD))); (case side4 => exact (Kd.R_reads' HO270.out).2.1); rintro e w15 ⟨v272, rfl, ho0, hb⟩; refine ⟨_, rfl, ?_⟩; have n0_ := Aside0.mk (Kd.R_elder' (by (with_reducible repeat (first | apply rA | apply rN | apply rD)); exact HO_8.out) (Kd.R_base ho0) hb); have n1_ := Aside0.mk (Kd.R_elder' (by (with_reducible repeat (first | apply rA | apply rN | apply rD)); exact HO270.out) (Kd.R_base ho0) hb); have n2_ := Aside0.mk (Kd.R_lower (Kd.R_new' (Kd.R_new' ho0 (Kd.R_lt (by (with_reducible repeat (first | apply rA | apply rN | apply rD)); exact HO_8.out))) (Kd.R_lt (by (with_reducible repeat (first | apply rA | apply rN | apply rD)); exact HO270.out))) (below_size (bl_ HB))); have n3_ := bs_ HB hb; clear HO_8; clear HO270; clear HB; have HO_8 := n0_; have HO270 := n1_; have HO273 := n2_; have HB := n3_; clear n0_ n1_ n2_ n3_; (try clear hb); (try clear hb2); (try clear hk); (try clear hi); (try clear ho0); obtain ⟨Ao16, co16, eo16⟩ := Kd.R_slice HO273.out; subst eo16) | ((with_reducible refine gate_callee (f := 61) rfl ?_); refine goesM (some 26) Try.func61 #[.slice Ao16 t271.length co16, .slice A0 l0.length c0] ?_; (with_reducible refine (steelyardref02_Cmp.calls k1 _ _ t271 _ _ l0 t274 _ ?side1 ?side2 ?side3 ?side4 A5.out).mono ?_); (case side1 => repeat (first | exact (Kd.R_reads' HO273.out).2.2 | (with_reducible first | apply cA | apply cN | apply cD))); (case side2 => exact (Kd.R_reads' HO273.out).2.1); (case side3 => repeat (first | exact (Kd.C_below HR0.out HB.out) | (with_reducible first | apply cA | apply cN | apply cD))); (case side4 => exact HC0.out); rintro e w' ⟨rfl, ⟨nd, rfl⟩⟩; refine ⟨_, rfl, ?_⟩))
     go_roundg k1
     case measure => have := HK1.out; omega
     case rel => exact ⟨(x6_1), (IntKind.u64.wrap (Int.tdiv (IntKind.u64.wrap (x6_1 + x7_1)) 2)), (x8_1), (by first | rfl | (simp; done) | (simp [*]; done)), (by first | rfl | (simp; done) | (simp [*]; done)), H', ⟨by have := HK1.out; omega⟩, ⟨by (with_reducible repeat (first | apply rA | apply rN | apply rD)); exact Kd.R_mono HO_8.out (fun _ hk => trivial)⟩, ⟨bl_ HB⟩⟩
   ·rw [if_neg c3] at H
    have c3b0 : decide (1 < (IntKind.u64.wrap (x7_1 - x6_1))) = false := decide_eq_false c3
    clear c3
    simp only [Option.some.injEq, Prod.mk.injEq] at H
    obtain ⟨rfl, rfl⟩ := H
    go_wp2
    go_ret2
    exact ⟨_, by first | rfl | (simp [errW_none, errW_some] <;> rfl) | (simp [*, errW_none, errW_some] <;> rfl), by (with_reducible repeat (first | apply rA | apply rN | apply rD)); exact HO_8.out, bl_ HB⟩

end Go.Proofs.Ytdemanikmaafeaa.Pr
