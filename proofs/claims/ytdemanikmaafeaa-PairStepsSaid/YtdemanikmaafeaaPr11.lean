-- short
-- written by this session's own program (wip/fprint.py), which widens the kit's print by floats
import Derived.Test.YtdemanikmaafeaaPr0
import Derived.Test.YtdemanikmaafeaaPr6
import Derived.Test.YtdemanikmaafeaaPr7
import Derived.Test.YtdemanikmaafeaaPr10
namespace Go.Proofs.Ytdemanikmaafeaa.Pr
open Go.RowKit Go.Proofs.YtdemanikmaafeaaW.PrintWords Go.Proofs.YtdemanikmaafeaaW.PrintLast Go.Proofs.YtdemanikmaafeaaW.PrintMore
attribute [local go_sem] max2_int min2_int max_two min_two max_three min_three max_four min_four   -- for this text's walks alone
set_option linter.unusedVariables false
set_option linter.unusedSimpArgs false

/-! ### steelyardref02_Moved: function 58 -/
def steelyardref02_Moved.j0 : Nat → List Int → Int → Int → Bool → Option (List Int)
 | 0, _, _, _, _ => none
 | k + 1, x0, x1, x5, x21 => if x21 = true then (some ([] : List Int)) else (if 0 ≤ x5 then (if x5 ≤ (x0.length : Int) then ((steelyardref02_Norm.f k (x0.drop (x5 : Int).toNat)).bind fun t301 => (if 0 ≤ (Int.tmod (wrap64 (-x1)) 32) then ((steelyardref02_Parts.f k t301 (([shl .u32 1 (Int.tmod (wrap64 (-x1)) 32)] : List Int))).bind fun bt307 => (some bt307.1)) else (none))) else (none)) else (none))
def steelyardref02_Moved.f (k : Nat) (l0 : List Int) (a1 : Int) : Option (List Int) := if a1 < 0 then (if (wrap64 (Int.tdiv (wrap64 (-a1)) 32)) ≥ (l0.length : Int) then (steelyardref02_Moved.j0 k l0 a1 (wrap64 (Int.tdiv (wrap64 (-a1)) 32)) true) else (steelyardref02_Moved.j0 k l0 a1 (wrap64 (Int.tdiv (wrap64 (-a1)) 32)) (decide (a1 < (-1099511627776))))) else (if 0 ≤ (wrap64 (Int.tdiv a1 32)) then (if (wrap64 (Int.tdiv a1 32) : Int).toNat ≤ 70368744177664 then ((some (List.replicate (wrap64 (Int.tdiv a1 32) : Int).toNat 0 : List Int)).bind fun y313 => (if y313.length + l0.length < 35184372088832 then (if 0 ≤ (Int.tmod a1 32) then ((steelyardref02_Times.f k (y313 ++ l0) (([shl .u32 1 (Int.tmod a1 32)] : List Int))).bind fun t322 => (some t322)) else (none)) else (none))) else (none)) else (none))
theorem steelyardref02_Moved.mono_l : ∀ k, (∀ y0 y1 y2 y3, LeO (steelyardref02_Moved.j0 k y0 y1 y2 y3) (steelyardref02_Moved.j0 (k + 1) y0 y1 y2 y3))
 | 0 => fun _ _ _ _ r h => by simp [steelyardref02_Moved.j0] at h
 | k + 1 => by
  have ih0 := steelyardref02_Moved.mono_l k
  ·intro y0 y1 y2 y3
   unfold steelyardref02_Moved.j0
   repeat' first
   | (with_reducible exact ih0 _ _ _ _)
   | (with_reducible exact steelyardref02_Norm.mono _ _)
   | (with_reducible exact steelyardref02_Parts.mono _ _ _)
   | (with_reducible exact steelyardref02_Times.mono _ _ _)
   | (with_reducible exact LeO.refl _)
   | (with_reducible exact LeO.none _)
   | (with_reducible refine LeO.ite ?_ ?_)
   | (with_reducible refine LeO.bind ?_ (fun _ => ?_))
   | exact ih0 _ _ _ _
   | exact steelyardref02_Norm.mono _ _
   | exact steelyardref02_Parts.mono _ _ _
   | exact steelyardref02_Times.mono _ _ _
   | exact LeO.none _
   | refine LeO.ite ?_ ?_
   | refine LeO.bind ?_ (fun _ => ?_)
theorem steelyardref02_Moved.mono : ∀ a0 a1 k, LeO (steelyardref02_Moved.f k a0 a1) (steelyardref02_Moved.f (k + 1) a0 a1) := by
 intro a0 a1 k
 have ih0 := steelyardref02_Moved.mono_l k
 unfold steelyardref02_Moved.f
 repeat' first
   | (with_reducible exact ih0 _ _ _ _)
   | (with_reducible exact steelyardref02_Norm.mono _ _)
   | (with_reducible exact steelyardref02_Parts.mono _ _ _)
   | (with_reducible exact steelyardref02_Times.mono _ _ _)
   | (with_reducible exact LeO.refl _)
   | (with_reducible exact LeO.none _)
   | (with_reducible refine LeO.ite ?_ ?_)
   | (with_reducible refine LeO.bind ?_ (fun _ => ?_))
   | exact ih0 _ _ _ _
   | exact steelyardref02_Norm.mono _ _
   | exact steelyardref02_Parts.mono _ _ _
   | exact steelyardref02_Times.mono _ _ _
   | exact LeO.none _
   | refine LeO.ite ?_ ?_
   | refine LeO.bind ?_ (fun _ => ?_)
def steelyardref02_Moved.T5 : Bool × List (List Nat × List Nat) := (true, [([], []), ([], []), ([0, 1], [0, 1]), ([2], [2]), ([], []), ([4], [4]), ([5], [5]), ([6], [6]), ([7], [7]), ([3, 8, 3], [3, 8]), ([9], [9]), ([10], [10]), ([10], [10]), ([11, 9, 0, 1, 2, 3, 4, 5, 6, 7, 8, 9, 10, 11], [11]), ([12, 13, 0, 1, 2, 3, 4, 5, 6, 7, 8, 9, 10, 11, 12, 13], [12])])
def steelyardref02_Moved.B5 : List Nat := [0, 0, 3, 7, 0, 16, 48, 112, 240, 511, 1023, 2047, 2047, 4095, 16383]
theorem steelyardref02_Moved.tab5 : rtab .any (opsOf Try.f58 5) = steelyardref02_Moved.T5 := by kernel_rfl
theorem steelyardref02_Moved.bits5 : waitsOk steelyardref02_Moved.T5.2 steelyardref02_Moved.B5 = true := by kernel_rfl
set_option maxHeartbeats 3000000 in
set_option maxRecDepth 100000 in
theorem steelyardref02_Moved.calls (k : Nat) (A0 : Option Addr) (c0 : Nat) (l0 : List Int) (a1 : Int) (r : List Int) (w : World) (hr0 : Kd.C (Kd.int .u32) w A0 l0.length l0) (hc0 : l0.length ≤ c0) (h : steelyardref02_Moved.f k l0 a1 = some r) :
  Calls Try.prog 58 #[.slice A0 l0.length c0, .int .i64 a1] w fun e w' => ∃ v0_ : Value, e = .returned (v0_) ∧ Kd.R (Kd.int .u32) 72 w' w.heap.size (fun _ => True) v0_ r ∧ Below w.heap.size w w' := by
 have HR0 := Aside0.mk hr0
 have HC0 := Aside0.mk hc0
 clear hr0 hc0
 have HB := Aside0.mk (Below.refl w.heap.size w)
 have H : (if a1 < 0 then (if (wrap64 (Int.tdiv (wrap64 (-a1)) 32)) ≥ (l0.length : Int) then (steelyardref02_Moved.j0 k l0 a1 (wrap64 (Int.tdiv (wrap64 (-a1)) 32)) true) else (steelyardref02_Moved.j0 k l0 a1 (wrap64 (Int.tdiv (wrap64 (-a1)) 32)) (decide (a1 < (-1099511627776))))) else (if 0 ≤ (wrap64 (Int.tdiv a1 32)) then (if (wrap64 (Int.tdiv a1 32) : Int).toNat ≤ 70368744177664 then ((some (List.replicate (wrap64 (Int.tdiv a1 32) : Int).toNat 0 : List Int)).bind fun y313 => (if y313.length + l0.length < 35184372088832 then (if 0 ≤ (Int.tmod a1 32) then ((steelyardref02_Times.f k (y313 ++ l0) (([shl .u32 1 (Int.tmod a1 32)] : List Int))).bind fun t322 => (some t322)) else (none)) else (none))) else (none)) else (none))) = some r := h
 clear h
 by_cases c3 : a1 < 0
 ·rw [if_pos c3] at H
  have c3b0 : decide (a1 < 0) = true := decide_eq_true c3
  clear c3
  have HC4 := Aside0.mk H
  clear H
  go_enter Try.func58, Try.ntmps58
  go_upto_region 3 with (fail)
  obtain ⟨bz5, hbz5⟩ : ∃ b_ : Bool, decide (a1 < 0) = b_ := ⟨_, rfl⟩
  (try rw [hbz5])
  go_cut [21] (fun v21 wc => ∃ (kq : Nat) (x21_3 : Bool), v21 = .bool x21_3 ∧ Aside0 (steelyardref02_Moved.j0 kq l0 a1 (wrap64 (Int.tdiv (wrap64 (-a1)) 32)) x21_3 = some r) ∧ Aside0 (kq ≤ k) ∧ Aside0 (Below w.heap.size w wc))
  case first =>
   have H := HC4.out
   clear HC4
   by_cases c6 : (wrap64 (Int.tdiv (wrap64 (-a1)) 32)) ≥ (l0.length : Int)
   ·rw [if_pos c6] at H
    have c6b0 : decide ((l0.length : Int) ≤ (wrap64 (Int.tdiv (wrap64 (-a1)) 32))) = true := decide_eq_true c6
    clear c6
    (first | rw [c6b0] | (simp only [i64_w, i32_w]; rw [c6b0]) | skip)
    have H' := Aside0.mk H
    clear H
    go_wp2
    go_meet
    case rel => exact ⟨_, (true), (by first | rfl | (simp; done) | (simp [*]; done)), H', ⟨by first | omega | exact Nat.le_refl _⟩, ⟨bl_ HB⟩⟩
   ·rw [if_neg c6] at H
    have c6b0 : decide ((l0.length : Int) ≤ (wrap64 (Int.tdiv (wrap64 (-a1)) 32))) = false := decide_eq_false c6
    clear c6
    (first | rw [c6b0] | (simp only [i64_w, i32_w]; rw [c6b0]) | skip)
    have H' := Aside0.mk H
    clear H
    go_wp2
    go_meet
    case rel => exact ⟨_, (decide (a1 < (-1099511627776))), (by first | rfl | (simp; done) | (simp [*]; done)), H', ⟨by first | omega | exact Nat.le_refl _⟩, ⟨bl_ HB⟩⟩
  case rest =>
   clear HC4
   try clear p2
   try clear c3
   try clear c3b0
   try clear c5
   try clear c6
   try clear c6b0
   try clear p6
   obtain ⟨kq, x21_3, rfl, HA, HJ3, HB⟩ := hcut
   cases kq with
   | zero => exact absurd HA.out (by simp [steelyardref02_Moved.j0])
   | succ kj3 =>
    have H := HA.out
    clear HA
    simp only [steelyardref02_Moved.j0] at H
    by_cases c7 : x21_3 = true
    ·subst c7
     have H1 : (some ([] : List Int)) = some r := by rw [if_pos rfl] at H; exact H
     clear H
     have H := H1
     clear H1
     obtain rfl := Option.some.inj H
     go_wp2
     go_ret
     exact ⟨_, by first | rfl | (simp [errW_none, errW_some] <;> rfl) | (simp [*, errW_none, errW_some] <;> rfl), by first | exact Kd.R_nil _ _ _ _ _ | exact Kd.N_nil _ _ _ _ _ | exact Kd.V_nil _ _ _ _ _ | exact Kd.Q_nil _ _ _ _ _ | exact Kd.S_nil _ _ _ _ _, bl_ HB⟩
    ·replace c7 := Bool.eq_false_iff.mpr c7
     subst c7
     have H1 : (if 0 ≤ (wrap64 (Int.tdiv (wrap64 (-a1)) 32)) then (if (wrap64 (Int.tdiv (wrap64 (-a1)) 32)) ≤ (l0.length : Int) then ((steelyardref02_Norm.f kj3 (l0.drop ((wrap64 (Int.tdiv (wrap64 (-a1)) 32)) : Int).toNat)).bind fun t301 => (if 0 ≤ (Int.tmod (wrap64 (-a1)) 32) then ((steelyardref02_Parts.f kj3 t301 (([shl .u32 1 (Int.tmod (wrap64 (-a1)) 32)] : List Int))).bind fun bt307 => (some bt307.1)) else (none))) else (none)) else (none)) = some r := by rw [if_neg (show ¬ (false = true) by decide)] at H; exact H
     clear H
     have H := H1
     clear H1
     obtain ⟨ji8, hji8⟩ : ∃ j_ : Int, (wrap64 (Int.tdiv (wrap64 (-a1)) 32)) = j_ := ⟨_, rfl⟩
     replace H : (if 0 ≤ (ji8) then (if (ji8) ≤ (l0.length : Int) then ((steelyardref02_Norm.f kj3 (l0.drop ((ji8) : Int).toNat)).bind fun t301 => (if 0 ≤ (Int.tmod (wrap64 (-a1)) 32) then ((steelyardref02_Parts.f kj3 t301 (([shl .u32 1 (Int.tmod (wrap64 (-a1)) 32)] : List Int))).bind fun bt307 => (some bt307.1)) else (none))) else (none)) else (none)) = some r := by first | (rw [hji8] at H; exact H) | (simp only [hji8] at H ⊢; exact H)
     have hji8w : (IntKind.i64.wrap (Int.tdiv (wrap64 (-a1)) 32)) = ji8 := (i64_w _).trans hji8
     by_cases c9 : 0 ≤ (ji8)
     ·rw [if_pos c9] at H
      have c9b0 := eq_true c9
      have c9b1 : decide (0 ≤ (ji8)) = true := decide_eq_true c9
      clear c9
      by_cases c10 : (ji8) ≤ (l0.length : Int)
      ·rw [if_pos c10] at H
       have c10b0 := eq_true c10
       have c10b1 : decide ((ji8) ≤ (l0.length : Int)) = true := decide_eq_true c10
       clear c10
       obtain ⟨t301, A11, H⟩ := ob_ H
       try dsimp only at H
       obtain ⟨ji12, hji12⟩ : ∃ j_ : Int, (Int.tmod (wrap64 (-a1)) 32) = j_ := ⟨_, rfl⟩
       replace H : (if 0 ≤ (ji12) then ((steelyardref02_Parts.f kj3 t301 (([shl .u32 1 (ji12)] : List Int))).bind fun bt307 => (some bt307.1)) else (none)) = some r := by first | (rw [hji12] at H; exact H) | (simp only [hji12] at H ⊢; exact H)
       (try rw [hji12] at A11)
       by_cases c13 : 0 ≤ (ji12)
       ·rw [if_pos c13] at H
        have c13b0 := eq_true c13
        have c13b1 : decide (0 ≤ (ji12)) = true := decide_eq_true c13
        clear c13
        obtain ⟨ji14, hji14⟩ : ∃ j_ : Int, (shl .u32 1 (ji12)) = j_ := ⟨_, rfl⟩
        replace H : ((steelyardref02_Parts.f kj3 t301 (([ji14] : List Int))).bind fun bt307 => (some bt307.1)) = some r := by first | (rw [hji14] at H; exact H) | (simp only [hji14] at H ⊢; exact H)
        (try rw [hji14] at A11)
        have hji14_ : (IntKind.u32.wrap (1 * 2 ^ min (ji12).toNat 32)) = ji14 := hji14
        have hji14z : (ji12) ≤ 32 → (IntKind.u32.wrap (1 * 2 ^ (ji12).toNat)) = ji14 := shl_small hji14
        have hji14u : (IntKind.u32.wrap (2 ^ min (ji12).toNat 32)) = ji14 := by have h_ := hji14_; rw [Int.one_mul] at h_; exact h_
        have hji14v : (ji12) ≤ 32 → (IntKind.u32.wrap (2 ^ (ji12).toNat)) = ji14 := fun hle_ => by have h_ := hji14z hle_; rw [Int.one_mul] at h_; exact h_
        obtain ⟨y304, hy304⟩ : ∃ y_ : List Int, y_ = (([ji14] : List Int)) := ⟨_, rfl⟩
        replace H : ((steelyardref02_Parts.f kj3 t301 y304).bind fun bt307 => (some bt307.1)) = some r := by first | (rw [hy304]; with_reducible exact H) | (have H2_ := (Option.bind_some _ _).symm.trans H; rw [hy304]; with_reducible exact H2_) | (have H2_ := (Option.bind_some _ _).symm.trans H; with_reducible exact H2_) | with_reducible exact H | (rw [hy304]; exact H) | exact H
        have Ny304 := Aside0.mk hy304
        clear hy304
        obtain ⟨⟨t307, t308⟩, A15, H⟩ := ob_ H
        try dsimp only at H
        obtain rfl := Option.some.inj H
        try go_wp2
        have n0_ := Aside0.mk (below_drew1 HB.out)
        clear HB
        have HB := n0_
        clear n0_
        obtain ⟨i017, hi017, _, hsz17, _⟩ := info_parts info72
        obtain ⟨A17, hcut17, hA17, hC17⟩ := print_drop_of (P := Try.prog) (Value.int .u32) 0 41 72 .i64 Try.underlying41 hi017 hsz17 A0 c0 l0 (ji8) (of_decide_eq_true (by first | (with_reducible assumption) | assumption)) (of_decide_eq_true (by first | (with_reducible assumption) | assumption)) HC0.out
        have HR300 := Aside0.mk (Kd.C_of_reads (h1 := fun _ => rfl) (hA17 _ (Kd.reads_of_C HR0.out)))
        have HC300 := Aside0.mk hC17
        clear hA17 hC17 hi017 hsz17
        refine start_ (n := 15) (S := fun w' => True) (ds := []) #[false, false, false, false, false, false, false, false, false, false, false, false, false, false, false] (by kernel_rfl) rfl rfl trivial (fun hHeld => ?_); refine with_tabW steelyardref02_Moved.tab5 steelyardref02_Moved.bits5 (fun HT_ HW_ => ?_)
        generalize wc.drew = w16 at HB HR300 hHeld ⊢
        refine pure_ (i := 0) (N := some 23) (v := ?_) (a' := ?_) #[true, false, false, false, false, false, false, false, false, false, false, false, false, false, false] rfl rfl (any_of HT_.out (by kernel_rfl)) (fun _ _ _ h => h) (Or.inl ⟨by rfl, ?_⟩) ?_ ?_
        rotate_left
        ·intro w'
         go_simp
         with_reducible rfl
        rotate_left
        ·simp only [Act.put, List.setIfInBounds_toArray, List.set_cons_zero, List.set_cons_succ, i64_w, i32_w]
         rfl
        refine pure_ (i := 1) (N := some 24) (v := ?_) (a' := ?_) #[true, true, false, false, false, false, false, false, false, false, false, false, false, false, false] rfl rfl (any_of HT_.out (by kernel_rfl)) (fun _ _ _ h => h) (Or.inl ⟨by rfl, ?_⟩) ?_ ?_
        rotate_left
        ·intro w'
         go_simp
         with_reducible rfl
        rotate_left
        ·simp only [Act.put, List.setIfInBounds_toArray, List.set_cons_zero, List.set_cons_succ, i64_w, i32_w]
         rfl
        refine pure_ (i := 2) (N := some 25) (v := ?_) (a' := ?_) #[true, true, true, false, false, false, false, false, false, false, false, false, false, false, false] rfl rfl (any_of HT_.out (by kernel_rfl)) (fun _ _ _ h => h) (Or.inl ⟨by rfl, ?_⟩) ?_ ?_
        rotate_left
        ·intro w'
         go_simp
         with_reducible rfl
        rotate_left
        ·simp only [Act.put, List.setIfInBounds_toArray, List.set_cons_zero, List.set_cons_succ, i64_w, i32_w]
         rfl
        refine pure_ (i := 4) (N := some 27) (v := ?_) (a' := ?_) #[true, true, true, false, true, false, false, false, false, false, false, false, false, false, false] rfl rfl (any_of HT_.out (by kernel_rfl)) (fun _ _ _ h => h) (Or.inl ⟨by rfl, ?_⟩) ?_ ?_
        rotate_left
        ·intro w'
         go_simp
         with_reducible rfl
        rotate_left
        ·simp only [Act.put, List.setIfInBounds_toArray, List.set_cons_zero, List.set_cons_succ, i64_w, i32_w]
         rfl
        refine pure_ (i := 5) (N := some 28) (v := ?_) (a' := ?_) #[true, true, true, false, true, true, false, false, false, false, false, false, false, false, false] rfl rfl (any_of HT_.out (by kernel_rfl)) (fun _ _ _ h => h) (Or.inl ⟨by rfl, ?_⟩) ?_ ?_
        rotate_left
        ·intro w'
         go_simp
         with_reducible rfl
        rotate_left
        ·simp only [Act.put, List.setIfInBounds_toArray, List.set_cons_zero, List.set_cons_succ, i64_w, i32_w]
         rfl
        refine pure_ (i := 6) (N := some 29) (v := ?_) (a' := ?_) #[true, true, true, false, true, true, true, false, false, false, false, false, false, false, false] rfl rfl (any_of HT_.out (by kernel_rfl)) (fun _ _ _ h => h) (Or.inl ⟨by rfl, ?_⟩) ?_ ?_
        rotate_left
        ·intro w'
         go_simp
         with_reducible rfl
        rotate_left
        ·simp only [Act.put, List.setIfInBounds_toArray, List.set_cons_zero, List.set_cons_succ, i64_w, i32_w]
         rfl
        refine pure_ (i := 7) (N := some 30) (v := ?_) (a' := ?_) #[true, true, true, false, true, true, true, true, false, false, false, false, false, false, false] rfl rfl (any_of HT_.out (by kernel_rfl)) (fun _ _ _ h => h) (Or.inl ⟨by rfl, ?_⟩) ?_ ?_
        rotate_left
        ·intro w'
         go_simp
         with_reducible rfl
        rotate_left
        ·simp only [Act.put, List.setIfInBounds_toArray, List.set_cons_zero, List.set_cons_succ, i64_w, i32_w]
         rfl
        refine join_ (σ := Value × Value) 6 #[true, true, true, true, true, true, true, true, true, false, false, false, false, false, false] (fun s_ => [(26, s_.1), (31, s_.2)]) (fun s_ w' => (Kd.R (Kd.int .u32) 72 w' w.heap.size (fun k_ => some k_ ≠ (s_.2 : Value).ownBlock) s_.1 t301) ∧ (Kd.R (Kd.int .u32) 72 w' w.heap.size (fun k_ => some k_ ≠ (s_.1 : Value).ownBlock) s_.2 y304) ∧ (Below w.heap.size w w')) ?_ ?_
        rotate_left
        ·intro hCont
         refine two_ (i := 3) (j := 8) (Ni := some 26) (Nj := some 31) #[true, true, true, true, true, true, true, true, false, false, false, false, false, false, false] #[true, true, true, false, true, true, true, true, true, false, false, false, false, false, false] rfl rfl rfl rfl (two_of HT_.out (by kernel_rfl)) (by decide) (by decide) (fun K hK => ?_) (fun K hK => ?_)
         ·skip
          refine goes_ Try.func78 (by kernel_rfl) rfl #[.slice A17 (l0.drop ((ji8) : Int).toNat).length (c0 - (ji8).toNat)] (by rfl) rfl rfl (by (try simp only [List.map_toArray, List.map_cons, List.map_nil]); first | done | (rw [show (l0.drop ((ji8) : Int).toNat).length = (l0.length - (ji8).toNat) from List.length_drop] <;> rfl) | (simp only [hji8]; rfl) | rfl | (simp only [List.length_drop, List.length_take]; rfl)) ?_
          with_reducible refine (steelyardref02_Norm.calls kj3 _ _ (l0.drop ((ji8) : Int).toNat) t301 _ ?side1 ?side2 A11.out).mono ?_
          (case side1 => repeat (first | exact (Kd.C_below HR300.out HB.out) | (with_reducible first | apply cA | apply cN | apply cD)))
          (case side2 => exact HC300.out)
          rintro e w18 ⟨v302, rfl, ho0, hb⟩
          refine ⟨_, rfl, ?_⟩
          have n0_ := Aside0.mk (Kd.R_lower ho0 (below_size (bl_ HB)))
          have n1_ := bs_ HB hb
          clear HB
          have HO303 := n0_
          have HB := n1_
          clear n0_ n1_
          (try clear hb)
          (try clear hb2)
          (try clear hk)
          (try clear hi)
          (try clear ho0)
          refine hK.out _ _ trivial (fun hHeld => ?_)
          clear hK K
          refine norm_ (a' := ?_) ?_ ?_
          rotate_left
          ·show Act.put _ (some 26) _ = _
           simp only [Act.put, List.setIfInBounds_toArray, List.set_cons_zero, List.set_cons_succ, i64_w, i32_w]
           rfl
          refine one_ (i := 8) (N := some 31) #[true, true, true, true, true, true, true, true, true, false, false, false, false, false, false] rfl rfl (one_of HT_.out (by kernel_rfl)) (by decide) (fun K hK => ?_)
          refine Kd.R_lit_step (Kd.int .u32) _ 72 ?hg (N := 31) ?hd (xs := ([ji14] : List Int)) (inner := [.int .u32 ji14]) (ok := fun _ => True) (okp := fun _ => True) ?hr ?hp (fun _ hk => hk) trivial (Below.refl _ _) (Nat.le_refl _) (by simp) ?_; (case hd => rfl); (case hg => rfl); (case hr => first | (go_simp; done) | (go_simp; rfl)); (case hp => exact (Reps.one (show Kd.M (Kd.int .u32) _ _ _ ji14 [.int .u32 ji14] from rfl) (Reps.none _ _)))
          intro v305 w19 ho20 hb hg_ hnew_
          clear hg_ hnew_
          (first | rw [← Ny304.out] at ho20 | (simp only [Int.reduceToNat] at ho20; rw [← Ny304.out] at ho20))
          have n0_ := Aside0.mk (Kd.R_elder' (by (with_reducible repeat (first | apply rA | apply rN | apply rD)); exact HO303.out) (Kd.R_base ho20) hb)
          have n1_ := Aside0.mk (Kd.R_lower (Kd.R_new' ho20 (Kd.R_lt (by (with_reducible repeat (first | apply rA | apply rN | apply rD)); exact HO303.out))) (below_size (bl_ HB)))
          have n2_ := bs_ HB hb
          clear HO303
          clear HB
          have HO303 := n0_
          have HO306 := n1_
          have HB := n2_
          clear n0_ n1_ n2_
          clear hb ho20
          refine hK.out _ _ trivial (fun hHeld => ?_)
          clear hK K
          refine norm_ (a' := ?_) ?_ ?_
          rotate_left
          ·show Act.put _ (some 31) _ = _
           simp only [Act.put, List.setIfInBounds_toArray, List.set_cons_zero, List.set_cons_succ, i64_w, i32_w]
           rfl
          exact norm_ (by simp only [putAll, Act.put, List.setIfInBounds_toArray, List.set_cons_zero, List.set_cons_succ]) (hCont (v302, v305) _ ⟨(by (with_reducible repeat (first | apply rA | apply rN | apply rD)); exact Kd.R_mono HO303.out (fun _ hk => hk.2)), (by (with_reducible repeat (first | apply rA | apply rN | apply rD)); exact Kd.R_mono HO306.out (fun _ hk => hk.2)), (bl_ HB)⟩)
         ·skip
          refine Kd.R_lit_step (Kd.int .u32) _ 72 ?hg (N := 31) ?hd (xs := ([ji14] : List Int)) (inner := [.int .u32 ji14]) (ok := fun _ => True) (okp := fun _ => True) ?hr ?hp (fun _ hk => hk) trivial (Below.refl _ _) (Nat.le_refl _) (by simp) ?_; (case hd => rfl); (case hg => rfl); (case hr => first | (go_simp; done) | (go_simp; rfl)); (case hp => exact (Reps.one (show Kd.M (Kd.int .u32) _ _ _ ji14 [.int .u32 ji14] from rfl) (Reps.none _ _)))
          intro v305 w18 ho19 hb hg_ hnew_
          clear hg_ hnew_
          (first | rw [← Ny304.out] at ho19 | (simp only [Int.reduceToNat] at ho19; rw [← Ny304.out] at ho19))
          have n0_ := Aside0.mk (Kd.R_lower ho19 (below_size (bl_ HB)))
          have n1_ := bs_ HB hb
          clear HB
          have HO306 := n0_
          have HB := n1_
          clear n0_ n1_
          clear hb ho19
          refine hK.out _ _ trivial (fun hHeld => ?_)
          clear hK K
          refine norm_ (a' := ?_) ?_ ?_
          rotate_left
          ·show Act.put _ (some 31) _ = _
           simp only [Act.put, List.setIfInBounds_toArray, List.set_cons_zero, List.set_cons_succ, i64_w, i32_w]
           rfl
          refine one_ (i := 3) (N := some 26) #[true, true, true, true, true, true, true, true, true, false, false, false, false, false, false] rfl rfl (one_of HT_.out (by kernel_rfl)) (by decide) (fun K hK => ?_)
          refine goes_ Try.func78 (by kernel_rfl) rfl #[.slice A17 (l0.drop ((ji8) : Int).toNat).length (c0 - (ji8).toNat)] (by rfl) rfl rfl (by (try simp only [List.map_toArray, List.map_cons, List.map_nil]); first | done | (rw [show (l0.drop ((ji8) : Int).toNat).length = (l0.length - (ji8).toNat) from List.length_drop] <;> rfl) | (simp only [hji8]; rfl) | rfl | (simp only [List.length_drop, List.length_take]; rfl)) ?_
          with_reducible refine (steelyardref02_Norm.calls kj3 _ _ (l0.drop ((ji8) : Int).toNat) t301 _ ?side1 ?side2 A11.out).mono ?_
          (case side1 => repeat (first | exact (Kd.C_below HR300.out HB.out) | (with_reducible first | apply cA | apply cN | apply cD)))
          (case side2 => exact HC300.out)
          rintro e w20 ⟨v302, rfl, ho0, hb⟩
          refine ⟨_, rfl, ?_⟩
          have n0_ := Aside0.mk (Kd.R_elder' (by (with_reducible repeat (first | apply rA | apply rN | apply rD)); exact HO306.out) (Kd.R_base ho0) hb)
          have n1_ := Aside0.mk (Kd.R_lower (Kd.R_new' ho0 (Kd.R_lt (by (with_reducible repeat (first | apply rA | apply rN | apply rD)); exact HO306.out))) (below_size (bl_ HB)))
          have n2_ := bs_ HB hb
          clear HO306
          clear HB
          have HO306 := n0_
          have HO303 := n1_
          have HB := n2_
          clear n0_ n1_ n2_
          (try clear hb)
          (try clear hb2)
          (try clear hk)
          (try clear hi)
          (try clear ho0)
          refine hK.out _ _ trivial (fun hHeld => ?_)
          clear hK K
          refine norm_ (a' := ?_) ?_ ?_
          rotate_left
          ·show Act.put _ (some 26) _ = _
           simp only [Act.put, List.setIfInBounds_toArray, List.set_cons_zero, List.set_cons_succ, i64_w, i32_w]
           rfl
          exact norm_ (by simp only [putAll, Act.put, List.setIfInBounds_toArray, List.set_cons_zero, List.set_cons_succ]) (hCont (v302, v305) _ ⟨(by (with_reducible repeat (first | apply rA | apply rN | apply rD)); exact Kd.R_mono HO303.out (fun _ hk => hk.2)), (by (with_reducible repeat (first | apply rA | apply rN | apply rD)); exact Kd.R_mono HO306.out (fun _ hk => hk.2)), (bl_ HB)⟩)
        rintro ⟨v302, v305⟩ w21 ⟨h0_, h1_, h2_⟩
        have n0_ : Aside0 (Kd.R (Kd.int .u32) 72 w21 w.heap.size (fun k_ => some k_ ≠ (v305 : Value).ownBlock) v302 t301) := ⟨h0_⟩
        have n1_ : Aside0 (Kd.R (Kd.int .u32) 72 w21 w.heap.size (fun k_ => some k_ ≠ (v302 : Value).ownBlock) v305 y304) := ⟨h1_⟩
        have n2_ : Aside0 (Below w.heap.size w w21) := ⟨h2_⟩
        clear HB
        clear h0_ h1_ h2_
        have HO303 := n0_
        have HO306 := n1_
        have HB := n2_
        clear n0_ n1_ n2_
        have hHeld := trivial
        obtain ⟨Ao22, co22, eo22⟩ := Kd.R_slice HO303.out
        (first | subst eo22 | (injection eo22 with f1_ f2_ f3_; have f4_ := f1_.symm; have f5_ := f3_.symm; clear f1_ f2_ f3_; subst f4_; subst f5_))
        obtain ⟨Ao23, co23, eo23⟩ := Kd.R_slice HO306.out
        (first | subst eo23 | (injection eo23 with f1_ f2_ f3_; have f4_ := f1_.symm; have f5_ := f3_.symm; clear f1_ f2_ f3_; subst f4_; subst f5_))
        refine norm_ (a' := ?_) ?_ ?_
        rotate_left
        ·simp only [putAll, Act.put, List.setIfInBounds_toArray, List.set_cons_zero, List.set_cons_succ]
         rfl
        refine one_ (i := 9) (N := some 32) #[true, true, true, true, true, true, true, true, true, true, false, false, false, false, false] rfl rfl (one_of HT_.out (by kernel_rfl)) (by decide) (fun K hK => ?_)
        refine goes_ Try.func77 (by kernel_rfl) rfl #[.slice Ao22 t301.length co22, .slice Ao23 y304.length co23] (by rfl) rfl rfl (by (try simp only [List.map_toArray, List.map_cons, List.map_nil]); first | done | rfl | (simp only [List.length_drop, List.length_take]; rfl)) ?_
        with_reducible refine (steelyardref02_Parts.calls kj3 _ _ t301 _ _ y304 t307 t308 _ ?side1 ?side2 ?side3 ?side4 A15.out).mono ?_
        (case side1 => repeat (first | exact (Kd.R_reads' HO303.out).2.2 | (with_reducible first | apply cA | apply cN | apply cD)))
        (case side2 => exact (Kd.R_reads' HO303.out).2.1)
        (case side3 => repeat (first | exact (Kd.R_reads' HO306.out).2.2 | (with_reducible first | apply cA | apply cN | apply cD)))
        (case side4 => exact (Kd.R_reads' HO306.out).2.1)
        rintro e w24 ⟨v309, v311, rfl, ho0, ho1, hb⟩
        refine ⟨_, rfl, ?_⟩
        have n0_ := Aside0.mk (Kd.R_mono (Kd.R_told (Kd.R_told (Kd.R_old (by (with_reducible repeat (first | apply rA | apply rN | apply rD)); exact HO303.out) hb) (Kd.R_base ho0)) (Kd.R_base ho1)) (fun _ h_ => h_.1))
        have n1_ := Aside0.mk (Kd.R_mono (Kd.R_told (Kd.R_told (Kd.R_old (by (with_reducible repeat (first | apply rA | apply rN | apply rD)); exact HO306.out) hb) (Kd.R_base ho0)) (Kd.R_base ho1)) (fun _ h_ => h_.1))
        have n2_ := Aside0.mk (Kd.R_lower (Kd.R_new' (Kd.R_new' ho0 (Kd.R_lt (by (with_reducible repeat (first | apply rA | apply rN | apply rD)); exact HO303.out))) (Kd.R_lt (by (with_reducible repeat (first | apply rA | apply rN | apply rD)); exact HO306.out))) (below_size (bl_ HB)))
        have n3_ := Aside0.mk (Kd.R_lower (Kd.R_new' (Kd.R_new' ho1 (Kd.R_lt (by (with_reducible repeat (first | apply rA | apply rN | apply rD)); exact HO303.out))) (Kd.R_lt (by (with_reducible repeat (first | apply rA | apply rN | apply rD)); exact HO306.out))) (below_size (bl_ HB)))
        have n4_ := bs_ HB hb
        clear HO303
        clear HO306
        clear HB
        have HO303 := n0_
        have HO306 := n1_
        have HO310 := n2_
        have HO312 := n3_
        have HB := n4_
        clear n0_ n1_ n2_ n3_ n4_
        (try clear hb)
        (try clear hb2)
        (try clear hk)
        (try clear hi)
        (try clear ho0)
        (try clear ho1)
        refine hK.out _ _ trivial (fun hHeld => ?_)
        clear hK K
        refine norm_ (a' := ?_) ?_ ?_
        rotate_left
        ·show Act.put _ (some 32) _ = _
         simp only [Act.put, List.setIfInBounds_toArray, List.set_cons_zero, List.set_cons_succ, i64_w, i32_w]
         rfl
        refine pure_ (i := 10) (N := some 22) (v := ?_) (a' := ?_) #[true, true, true, true, true, true, true, true, true, true, true, false, false, false, false] rfl rfl (any_of HT_.out (by kernel_rfl)) (fun _ _ _ h => h) (Or.inl ⟨by rfl, ?_⟩) ?_ ?_
        rotate_left
        ·intro w'
         go_simp
         with_reducible rfl
        rotate_left
        ·simp only [Act.put, List.setIfInBounds_toArray, List.set_cons_zero, List.set_cons_succ, i64_w, i32_w]
         rfl
        refine pure_ (i := 11) (N := some 33) (v := ?_) (a' := ?_) #[true, true, true, true, true, true, true, true, true, true, true, true, false, false, false] rfl rfl (any_of HT_.out (by kernel_rfl)) (fun _ _ _ h => h) (Or.inl ⟨by rfl, ?_⟩) ?_ ?_
        rotate_left
        ·intro w'
         go_simp
         with_reducible rfl
        rotate_left
        ·simp only [Act.put, List.setIfInBounds_toArray, List.set_cons_zero, List.set_cons_succ, i64_w, i32_w]
         rfl
        refine pure_ (i := 12) (N := some 34) (v := ?_) (a' := ?_) #[true, true, true, true, true, true, true, true, true, true, true, true, true, false, false] rfl rfl (any_of HT_.out (by kernel_rfl)) (fun _ _ _ h => h) (Or.inl ⟨by rfl, ?_⟩) ?_ ?_
        rotate_left
        ·intro w'
         go_simp
         with_reducible rfl
        rotate_left
        ·simp only [Act.put, List.setIfInBounds_toArray, List.set_cons_zero, List.set_cons_succ, i64_w, i32_w]
         rfl
        refine pure_ (i := 13) (N := some 6) (v := ?_) (a' := ?_) #[true, true, true, true, true, true, true, true, true, true, true, true, true, true, false] rfl rfl (any_of HT_.out (by kernel_rfl)) (fun _ _ _ h => h) (Or.inl ⟨by rfl, ?_⟩) ?_ ?_
        rotate_left
        ·intro w'
         go_simp
         with_reducible rfl
        rotate_left
        ·simp only [Act.put, List.setIfInBounds_toArray, List.set_cons_zero, List.set_cons_succ, i64_w, i32_w]
         rfl
        refine pure_ (i := 14) (N := some 7) (v := ?_) (a' := ?_) #[true, true, true, true, true, true, true, true, true, true, true, true, true, true, true] rfl rfl (any_of HT_.out (by kernel_rfl)) (fun _ _ _ h => h) (Or.inl ⟨by rfl, ?_⟩) ?_ ?_
        rotate_left
        ·intro w'
         go_simp
         with_reducible rfl
        rotate_left
        ·simp only [Act.put, List.setIfInBounds_toArray, List.set_cons_zero, List.set_cons_succ, i64_w, i32_w]
         rfl
        refine done_ (done_of HT_.out (by kernel_rfl)) ?_
        try go_wp2
        go_ret
        exact ⟨_, by first | rfl | (simp [errW_none, errW_some] <;> rfl) | (simp only [← hji8, ← hji12, ← hji14]; first | rfl | (simp [errW_none, errW_some] <;> rfl)) | (simp [*, errW_none, errW_some] <;> rfl), by (with_reducible repeat (first | apply rA | apply rN | apply rD)); exact Kd.R_mono HO310.out (fun _ hk => trivial), bl_ HB⟩
       ·rw [if_neg c13] at H
        exact absurd H (by simp)
      ·rw [if_neg c10] at H
       exact absurd H (by simp)
     ·rw [if_neg c9] at H
      exact absurd H (by simp)
 ·rw [if_neg c3] at H
  have c3b0 : decide (a1 < 0) = false := decide_eq_false c3
  (try obtain rfl : bz5 = false := hbz5.symm.trans c3b0)
  clear c3
  obtain ⟨ji25, hji25⟩ : ∃ j_ : Int, (wrap64 (Int.tdiv a1 32)) = j_ := ⟨_, rfl⟩
  replace H : (if 0 ≤ (ji25) then (if (ji25 : Int).toNat ≤ 70368744177664 then ((some (List.replicate (ji25 : Int).toNat 0 : List Int)).bind fun y313 => (if y313.length + l0.length < 35184372088832 then (if 0 ≤ (Int.tmod a1 32) then ((steelyardref02_Times.f k (y313 ++ l0) (([shl .u32 1 (Int.tmod a1 32)] : List Int))).bind fun t322 => (some t322)) else (none)) else (none))) else (none)) else (none)) = some r := by first | (rw [hji25] at H; exact H) | (simp only [hji25] at H ⊢; exact H)
  have hji25w : (IntKind.i64.wrap (Int.tdiv a1 32)) = ji25 := (i64_w _).trans hji25
  by_cases c26 : 0 ≤ (ji25)
  ·rw [if_pos c26] at H
   have c26b0 := eq_true c26
   have c26b1 : decide (0 ≤ (ji25)) = true := decide_eq_true c26
   clear c26
   by_cases c27 : (ji25 : Int).toNat ≤ 70368744177664
   ·rw [if_pos c27] at H
    have c27b0 := eq_true c27
    have c27b1 : decide ((ji25 : Int).toNat ≤ 70368744177664) = true := decide_eq_true c27
    clear c27
    obtain ⟨y313, hy313⟩ : ∃ y_ : List Int, y_ = (List.replicate (ji25 : Int).toNat 0) := ⟨_, rfl⟩
    replace H : (if y313.length + l0.length < 35184372088832 then (if 0 ≤ (Int.tmod a1 32) then ((steelyardref02_Times.f k (y313 ++ l0) (([shl .u32 1 (Int.tmod a1 32)] : List Int))).bind fun t322 => (some t322)) else (none)) else (none)) = some r := by first | (rw [hy313]; with_reducible exact H) | (have H2_ := (Option.bind_some _ _).symm.trans H; rw [hy313]; with_reducible exact H2_) | (have H2_ := (Option.bind_some _ _).symm.trans H; with_reducible exact H2_) | with_reducible exact H | (rw [hy313]; exact H) | exact H
    have Ny313 := Aside0.mk hy313
    clear hy313
    by_cases c28 : y313.length + l0.length < 35184372088832
    ·rw [if_pos c28] at H
     have LMc28 := Aside0.mk c28
     clear c28
     obtain ⟨y316, hy316⟩ : ∃ y_ : List Int, y_ = (y313 ++ l0) := ⟨_, rfl⟩
     replace H : (if 0 ≤ (Int.tmod a1 32) then ((steelyardref02_Times.f k y316 (([shl .u32 1 (Int.tmod a1 32)] : List Int))).bind fun t322 => (some t322)) else (none)) = some r := by first | (rw [hy316]; with_reducible exact H) | (have H2_ := (Option.bind_some _ _).symm.trans H; rw [hy316]; with_reducible exact H2_) | (have H2_ := (Option.bind_some _ _).symm.trans H; with_reducible exact H2_) | with_reducible exact H | (rw [hy316]; exact H) | exact H
     have Ny316 := Aside0.mk hy316
     clear hy316
     obtain ⟨ji29, hji29⟩ : ∃ j_ : Int, (Int.tmod a1 32) = j_ := ⟨_, rfl⟩
     replace H : (if 0 ≤ (ji29) then ((steelyardref02_Times.f k y316 (([shl .u32 1 (ji29)] : List Int))).bind fun t322 => (some t322)) else (none)) = some r := by first | (rw [hji29] at H; exact H) | (simp only [hji29] at H ⊢; exact H)
     by_cases c30 : 0 ≤ (ji29)
     ·rw [if_pos c30] at H
      have c30b0 := eq_true c30
      have c30b1 : decide (0 ≤ (ji29)) = true := decide_eq_true c30
      clear c30
      obtain ⟨ji31, hji31⟩ : ∃ j_ : Int, (shl .u32 1 (ji29)) = j_ := ⟨_, rfl⟩
      replace H : ((steelyardref02_Times.f k y316 (([ji31] : List Int))).bind fun t322 => (some t322)) = some r := by first | (rw [hji31] at H; exact H) | (simp only [hji31] at H ⊢; exact H)
      have hji31_ : (IntKind.u32.wrap (1 * 2 ^ min (ji29).toNat 32)) = ji31 := hji31
      have hji31z : (ji29) ≤ 32 → (IntKind.u32.wrap (1 * 2 ^ (ji29).toNat)) = ji31 := shl_small hji31
      have hji31u : (IntKind.u32.wrap (2 ^ min (ji29).toNat 32)) = ji31 := by have h_ := hji31_; rw [Int.one_mul] at h_; exact h_
      have hji31v : (ji29) ≤ 32 → (IntKind.u32.wrap (2 ^ (ji29).toNat)) = ji31 := fun hle_ => by have h_ := hji31z hle_; rw [Int.one_mul] at h_; exact h_
      obtain ⟨y319, hy319⟩ : ∃ y_ : List Int, y_ = (([ji31] : List Int)) := ⟨_, rfl⟩
      replace H : ((steelyardref02_Times.f k y316 y319).bind fun t322 => (some t322)) = some r := by first | (rw [hy319]; with_reducible exact H) | (have H2_ := (Option.bind_some _ _).symm.trans H; rw [hy319]; with_reducible exact H2_) | (have H2_ := (Option.bind_some _ _).symm.trans H; with_reducible exact H2_) | with_reducible exact H | (rw [hy319]; exact H) | exact H
      have Ny319 := Aside0.mk hy319
      clear hy319
      obtain ⟨t322, A32, H⟩ := ob_ H
      try dsimp only at H
      obtain rfl := Option.some.inj H
      go_enter Try.func58, Try.ntmps58
      go_wp2_with (first | ((with_reducible refine gate_dst (N := 38) rfl ?_); refine Kd.R_make (Kd.int .u32) _ 72 rfl (N := 38) rfl 41 _ _ rfl ji25 rfl rfl Try.underlying41 (.int .u32 0) 4 info72 rfl (by decide) (by omega) 0 (ok := fun _ => True) (okp := fun _ => True) rfl (fun _ hk => hk) trivial (of_decide_eq_true (by first | (with_reducible assumption) | assumption)) (Nat.le_trans (Nat.mul_le_mul_right _ (of_decide_eq_true (by first | (with_reducible assumption) | assumption) : ji25.toNat ≤ 70368744177664)) (by omega)) (Below.refl _ _) (Nat.le_refl _) ?_; intro v314 w33 ho34 hb hg_ hnew_; clear hg_ hnew_; (first | rw [← Ny313.out] at ho34 | (simp only [Int.reduceToNat] at ho34; rw [← Ny313.out] at ho34)); have n0_ := Aside0.mk (Kd.R_lower ho34 (below_size (bl_ HB))); have n1_ := bs_ HB hb; clear HB; have HO315 := n0_; have HB := n1_; clear n0_ n1_; clear hb ho34) | ((with_reducible refine gate_builtin (b := .append) (xs := #[.tmp 39, .tmp 40]) rfl ?_); at_builtin; refine Kd.R_append_rows (Kd.int .u32) (w0 := w) w.heap.size rfl (.tmp 39) (.tmp 40) 41 72 (.int .u32 0) 4 rfl Try.underlying41 info72 rfl (by decide) (by omega) v314 y313 l0 _ _ _ (fun _ => True) (fun _ => False) rfl rfl ?aO ?aR (fun _ _ h => h) (fun _ h => h.elim) ?aF ?aB ?aS ?aL ?_; (case aR => repeat (first | exact (Kd.C_below HR0.out HB.out) | (with_reducible first | apply cA | apply cN | apply cD))); (case aB => exact (bl_ HB)); (case aF => exact (fun _ _ => trivial)); (case aO => exact (by (with_reducible repeat (first | apply rA | apply rN | apply rD)); exact HO315.out)); (case aS => exact (below_size (bl_ HB))); (case aL => have := LMc28.out; omega); intro v317 w35 ho hb hg hat; rw [← Ny316.out] at ho; have n0_ := Aside0.mk (hb); have n1_ := Aside0.mk (ho); clear HB; clear HO315; have HB := n0_; have HO318 := n1_; clear n0_ n1_; clear ho hb hg hat) | ((with_reducible refine gate_dst (N := 46) rfl ?_); refine Kd.R_lit (Kd.int .u32) _ 72 ?hg (N := 46) ?hd (xs := ([ji31] : List Int)) (inner := [.int .u32 ji31]) (ok := fun _ => True) (okp := fun _ => True) ?hr ?hp (fun _ hk => hk) trivial (Below.refl _ _) (Nat.le_refl _) (by simp) ?_; (case hd => rfl); (case hg => rfl); (case hr => first | (go_simp; done) | (go_simp; rfl)); (case hp => exact (Reps.one (show Kd.M (Kd.int .u32) _ _ _ ji31 [.int .u32 ji31] from rfl) (Reps.none _ _))); intro v320 w36 ho37 hb hg_ hnew_; clear hg_ hnew_; (first | rw [← Ny319.out] at ho37 | (simp only [Int.reduceToNat] at ho37; rw [← Ny319.out] at ho37)); have n0_ := Aside0.mk (Kd.R_elder' (by (with_reducible repeat (first | apply rA | apply rN | apply rD)); exact HO318.out) (Kd.R_base ho37) hb); have n1_ := Aside0.mk (Kd.R_lower (Kd.R_new' ho37 (Kd.R_lt (by (with_reducible repeat (first | apply rA | apply rN | apply rD)); exact HO318.out))) (below_size (bl_ HB))); have n2_ := bs_ HB hb; clear HO318; clear HB; have HO318 := n0_; have HO321 := n1_; have HB := n2_; clear n0_ n1_ n2_; clear hb ho37; obtain ⟨Ao38, co38, eo38⟩ := Kd.R_slice HO318.out; subst eo38; obtain ⟨Ao39, co39, eo39⟩ := Kd.R_slice HO321.out; subst eo39) | ((with_reducible refine gate_callee (f := 63) rfl ?_); refine goesM (some 47) Try.func63 #[.slice Ao38 y316.length co38, .slice Ao39 y319.length co39] ?_; (with_reducible refine (steelyardref02_Times.calls k _ _ y316 _ _ y319 t322 _ ?side1 ?side2 ?side3 ?side4 A32.out).mono ?_); (case side1 => repeat (first | exact (Kd.R_reads' HO318.out).2.2 | (with_reducible first | apply cA | apply cN | apply cD))); (case side2 => exact (Kd.R_reads' HO318.out).2.1); (case side3 => repeat (first | exact (Kd.R_reads' HO321.out).2.2 | (with_reducible first | apply cA | apply cN | apply cD))); (case side4 => exact (Kd.R_reads' HO321.out).2.1); rintro e w40 ⟨v323, rfl, ho0, hb⟩; refine ⟨_, rfl, ?_⟩; have n0_ := Aside0.mk (Kd.R_elder' (by (with_reducible repeat (first | apply rA | apply rN | apply rD)); exact HO318.out) (Kd.R_base ho0) hb); have n1_ := Aside0.mk (Kd.R_elder' (by (with_reducible repeat (first | apply rA | apply rN | apply rD)); exact HO321.out) (Kd.R_base ho0) hb); have n2_ := Aside0.mk (Kd.R_lower (Kd.R_new' (Kd.R_new' ho0 (Kd.R_lt (by (with_reducible repeat (first | apply rA | apply rN | apply rD)); exact HO318.out))) (Kd.R_lt (by (with_reducible repeat (first | apply rA | apply rN | apply rD)); exact HO321.out))) (below_size (bl_ HB))); have n3_ := bs_ HB hb; clear HO318; clear HO321; clear HB; have HO318 := n0_; have HO321 := n1_; have HO324 := n2_; have HB := n3_; clear n0_ n1_ n2_ n3_; (try clear hb); (try clear hb2); (try clear hk); (try clear hi); (try clear ho0)))
      go_ret
      exact ⟨_, by first | rfl | (simp [errW_none, errW_some] <;> rfl) | (simp only [← hji25, ← hji29, ← hji31]; first | rfl | (simp [errW_none, errW_some] <;> rfl)) | (simp [*, errW_none, errW_some] <;> rfl), by (with_reducible repeat (first | apply rA | apply rN | apply rD)); exact Kd.R_mono HO324.out (fun _ hk => trivial), bl_ HB⟩
     ·rw [if_neg c30] at H
      exact absurd H (by simp)
    ·rw [if_neg c28] at H
     exact absurd H (by simp)
   ·rw [if_neg c27] at H
    exact absurd H (by simp)
  ·rw [if_neg c26] at H
   exact absurd H (by simp)

end Go.Proofs.Ytdemanikmaafeaa.Pr
