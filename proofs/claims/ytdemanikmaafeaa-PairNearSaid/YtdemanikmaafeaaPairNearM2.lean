import Derived.Test.YtdemanikmaafeaaPairNearM0
import Derived.Test.YtdemanikmaafeaaPairNearM1
-- written by this session's own program (wip/fprint.py), which widens the kit's print by floats
namespace Go.Proofs.Ytdemanikmaafeaa.Pr
open Go.RowKit Go.Proofs.YtdemanikmaafeaaW.PrintWords Go.Proofs.YtdemanikmaafeaaW.PrintLast Go.Proofs.YtdemanikmaafeaaW.PrintMore
attribute [local go_sem] max2_int min2_int max_two min_two max_three min_three max_four min_four   -- for this text's walks alone
set_option linter.unusedVariables false
set_option linter.unusedSimpArgs false

mutual
def r03_Against.j0 : Nat → List Int → Int → List Int → Int → Int → Int → Bool → Option (Int)
 | 0, _, _, _, _, _, _, _ => none
 | k + 1, x0, x1, x2, x3, x9, x10, x23 => if x23 = true then ((r02_Cmp.f k x0 x2).bind fun t452 => (some t452)) else (if x1 < x3 then ((r03_Against.f k x2 x3 x0 x1).bind fun t453 => (some (wrap64 (-t453)))) else (if (IntKind.u64.wrap ((IntKind.u64.wrap (x1)) - (IntKind.u64.wrap (x3)))) > 1099511627776 then (r03_Against.j1 k x0 x2 x9 x10 (IntKind.u64.wrap ((IntKind.u64.wrap (x1)) - (IntKind.u64.wrap (x3)))) true) else (r03_Against.j1 k x0 x2 x9 x10 (IntKind.u64.wrap ((IntKind.u64.wrap (x1)) - (IntKind.u64.wrap (x3)))) (decide ((IntKind.u64.wrap (x9 + (IntKind.u64.wrap ((IntKind.u64.wrap (x1)) - (IntKind.u64.wrap (x3)))))) > x10)))))
def r03_Against.j1 : Nat → List Int → List Int → Int → Int → Int → Bool → Option (Int)
 | 0, _, _, _, _, _, _ => none
 | k + 1, x0, x2, x9, x10, x11, x49 => if x49 = true then (some 1) else (if (IntKind.u64.wrap (x9 + x11)) < x10 then (some (-1)) else ((r02_Moved.f k x0 (wrap64 (x11))).bind fun t454 => ((r02_Cmp.f k t454 x2).bind fun t457 => (some t457))))
def r03_Against.f : Nat → List Int → Int → List Int → Int → Option (Int)
 | 0, _, _, _, _ => none
 | k + 1, l0, a1, l2, a3 => (r02_Len.f k l0).bind fun t450 => ((r02_Len.f k l2).bind fun t451 => (if (IntKind.u64.wrap (t450)) = 0 then (r03_Against.j0 k l0 a1 l2 a3 (IntKind.u64.wrap (t450)) (IntKind.u64.wrap (t451)) true) else (r03_Against.j0 k l0 a1 l2 a3 (IntKind.u64.wrap (t450)) (IntKind.u64.wrap (t451)) ((IntKind.u64.wrap (t451)) == 0))))
end
theorem r03_Against.mono_l : ∀ k, (∀ y0 y1 y2 y3, LeO (r03_Against.f k y0 y1 y2 y3) (r03_Against.f (k + 1) y0 y1 y2 y3)) ∧ (∀ y0 y1 y2 y3 y4 y5 y6, LeO (r03_Against.j0 k y0 y1 y2 y3 y4 y5 y6) (r03_Against.j0 (k + 1) y0 y1 y2 y3 y4 y5 y6)) ∧ (∀ y0 y1 y2 y3 y4 y5, LeO (r03_Against.j1 k y0 y1 y2 y3 y4 y5) (r03_Against.j1 (k + 1) y0 y1 y2 y3 y4 y5))
 | 0 => ⟨fun _ _ _ _ r h => by simp [r03_Against.f] at h, fun _ _ _ _ _ _ _ r h => by simp [r03_Against.j0] at h, fun _ _ _ _ _ _ r h => by simp [r03_Against.j1] at h⟩
 | k + 1 => by
  obtain ⟨ih0,ih1,ih2⟩:=r03_Against.mono_l k
  refine ⟨?_,?_,?_⟩
  ·intro y0 y1 y2 y3
   unfold r03_Against.f
   repeat' first
   | (with_reducible exact ih0 _ _ _ _)
   | (with_reducible exact ih1 _ _ _ _ _ _ _)
   | (with_reducible exact ih2 _ _ _ _ _ _)
   | (with_reducible exact r02_Cmp.mono _ _ _)
   | (with_reducible exact r02_Len.mono _ _)
   | (with_reducible exact r02_Moved.mono _ _ _)
   | (with_reducible exact LeO.refl _)
   | (with_reducible exact LeO.none _)
   | (with_reducible refine LeO.ite ?_ ?_)
   | (with_reducible refine LeO.bind ?_ (fun _ => ?_))
   | exact ih0 _ _ _ _
   | exact ih1 _ _ _ _ _ _ _
   | exact ih2 _ _ _ _ _ _
   | exact r02_Cmp.mono _ _ _
   | exact r02_Len.mono _ _
   | exact r02_Moved.mono _ _ _
   | exact LeO.none _
   | refine LeO.ite ?_ ?_
   | refine LeO.bind ?_ (fun _ => ?_)
  ·intro y0 y1 y2 y3 y4 y5 y6
   unfold r03_Against.j0
   repeat' first
   | (with_reducible exact ih0 _ _ _ _)
   | (with_reducible exact ih1 _ _ _ _ _ _ _)
   | (with_reducible exact ih2 _ _ _ _ _ _)
   | (with_reducible exact r02_Cmp.mono _ _ _)
   | (with_reducible exact r02_Len.mono _ _)
   | (with_reducible exact r02_Moved.mono _ _ _)
   | (with_reducible exact LeO.refl _)
   | (with_reducible exact LeO.none _)
   | (with_reducible refine LeO.ite ?_ ?_)
   | (with_reducible refine LeO.bind ?_ (fun _ => ?_))
   | exact ih0 _ _ _ _
   | exact ih1 _ _ _ _ _ _ _
   | exact ih2 _ _ _ _ _ _
   | exact r02_Cmp.mono _ _ _
   | exact r02_Len.mono _ _
   | exact r02_Moved.mono _ _ _
   | exact LeO.none _
   | refine LeO.ite ?_ ?_
   | refine LeO.bind ?_ (fun _ => ?_)
  ·intro y0 y1 y2 y3 y4 y5
   unfold r03_Against.j1
   repeat' first
   | (with_reducible exact ih0 _ _ _ _)
   | (with_reducible exact ih1 _ _ _ _ _ _ _)
   | (with_reducible exact ih2 _ _ _ _ _ _)
   | (with_reducible exact r02_Cmp.mono _ _ _)
   | (with_reducible exact r02_Len.mono _ _)
   | (with_reducible exact r02_Moved.mono _ _ _)
   | (with_reducible exact LeO.refl _)
   | (with_reducible exact LeO.none _)
   | (with_reducible refine LeO.ite ?_ ?_)
   | (with_reducible refine LeO.bind ?_ (fun _ => ?_))
   | exact ih0 _ _ _ _
   | exact ih1 _ _ _ _ _ _ _
   | exact ih2 _ _ _ _ _ _
   | exact r02_Cmp.mono _ _ _
   | exact r02_Len.mono _ _
   | exact r02_Moved.mono _ _ _
   | exact LeO.none _
   | refine LeO.ite ?_ ?_
   | refine LeO.bind ?_ (fun _ => ?_)
theorem r03_Against.mono : ∀ a0 a1 a2 a3 k, LeO (r03_Against.f k a0 a1 a2 a3) (r03_Against.f (k + 1) a0 a1 a2 a3) := by
 intro a0 a1 a2 a3 k
 obtain ⟨ih0,ih1,ih2⟩:=r03_Against.mono_l k
 exact ih0 a0 a1 a2 a3
set_option maxHeartbeats 3000000 in
set_option maxRecDepth 100000 in
theorem r03_Against.calls (k : Nat) : ∀ (A0 : Option Addr) (c0 : Nat) (l0 : List Int) (a1 : Int) (A2 : Option Addr) (c2 : Nat) (l2 : List Int) (a3 : Int) (r : Int) (w : World) (hr0 : Kd.C (Kd.int .u32) w A0 l0.length l0) (hc0 : l0.length ≤ c0) (hr2 : Kd.C (Kd.int .u32) w A2 l2.length l2) (hc2 : l2.length ≤ c2) (h : r03_Against.f k l0 a1 l2 a3 = some r),
  Calls Try.prog 74 #[.slice A0 l0.length c0,.int .i64 a1,.slice A2 l2.length c2,.int .i64 a3] w fun e w'=>e = .returned (.int .i64 r) ∧ Below w.heap.size w w':=by
 induction k using Nat.strongRecOn with
 | _ k ih =>
 intro A0 c0 l0 a1 A2 c2 l2 a3 r w hr0 hc0 hr2 hc2 h
 cases k with
 | zero => exact absurd h (by simp [r03_Against.f])
 | succ k =>
 simp only [r03_Against.f] at h
 have HR0:=Aside0.mk hr0
 have HC0:=Aside0.mk hc0
 clear hr0 hc0
 have HR2:=Aside0.mk hr2
 have HC2:=Aside0.mk hc2
 clear hr2 hc2
 have HB:=Aside0.mk (Below.refl w.heap.size w)
 have H : ((r02_Len.f k l0).bind fun t450=>((r02_Len.f k l2).bind fun t451=>(if (IntKind.u64.wrap (t450)) = 0 then (r03_Against.j0 k l0 a1 l2 a3 (IntKind.u64.wrap (t450)) (IntKind.u64.wrap (t451)) true) else (r03_Against.j0 k l0 a1 l2 a3 (IntKind.u64.wrap (t450)) (IntKind.u64.wrap (t451)) ((IntKind.u64.wrap (t451)) == 0))))) = some r:=h
 clear h
 obtain ⟨t450,A5,H⟩:=ob_ H
 try dsimp only at H
 obtain ⟨t451,A6,H⟩:=ob_ H
 try dsimp only at H
 have HC7:=Aside0.mk H
 clear H
 go_enter Try.func74,Try.ntmps74
 go_upto_region 3 with (first|((with_reducible refine gate_callee (f:=55) rfl ?_);refine goesM (some 13) Try.func55 #[.slice A0 l0.length c0] ?_;(with_reducible refine (r02_Len.calls k _ _ l0 t450 _ ?side1 ?side2 A5.out).mono ?_);(case side1=>repeat (first|exact HR0.out|(with_reducible first|apply cA|apply cN|apply cD)));(case side2=>exact HC0.out);rintro e w' ⟨rfl,⟨nd,rfl⟩⟩;refine ⟨_,rfl,?_⟩)|((with_reducible refine gate_callee (f:=55) rfl ?_);refine goesM (some 16) Try.func55 #[.slice A2 l2.length c2] ?_;(with_reducible refine (r02_Len.calls k _ _ l2 t451 _ ?side1 ?side2 A6.out).mono ?_);(case side1=>repeat (first|exact HR2.out|(with_reducible first|apply cA|apply cN|apply cD)));(case side2=>exact HC2.out);rintro e w' ⟨rfl,⟨nd,rfl⟩⟩;refine ⟨_,rfl,?_⟩))
 (try simp only [Act.put,List.setIfInBounds_toArray,List.set_cons_zero,List.set_cons_succ])
 go_cut [23] (fun v23 wc=>∃ (kq : Nat) (x23_6 : Bool),v23 = .bool x23_6 ∧ Aside0 (r03_Against.j0 kq l0 a1 l2 a3 (IntKind.u64.wrap (t450)) (IntKind.u64.wrap (t451)) x23_6 = some r) ∧ Aside0 (kq ≤ k) ∧ Aside0 (Below w.heap.size w wc))
 case first =>
  have H:=HC7.out
  clear HC7
  by_cases c8 : (IntKind.u64.wrap (t450)) = 0
  ·rw [if_pos c8] at H
   have c8b0 : ((IntKind.u64.wrap (t450)) == 0) = true:=beq_iff_eq.mpr c8
   have c8b1 : ((IntKind.u64.wrap (t450)) != 0) = false:=bne_eq_false_iff_eq.mpr c8
   clear c8
   (first|rw [c8b0]|(simp only [i64_w,i32_w];rw [c8b0])|skip)
   have H':=Aside0.mk H
   clear H
   go_wp2
   go_meet
   case rel=>exact ⟨_,(true),(by first|rfl|(simp;done)|(simp [*];done)),H',⟨by first|omega|exact Nat.le_refl _⟩,⟨bl_ HB⟩⟩
  ·rw [if_neg c8] at H
   have c8b0 : ((IntKind.u64.wrap (t450)) == 0) = false:=beq_eq_false_iff_ne.mpr c8
   have c8b1 : ((IntKind.u64.wrap (t450)) != 0) = true:=bne_iff_ne.mpr c8
   (first|rw [c8b0]|(simp only [i64_w,i32_w];rw [c8b0])|skip)
   have H':=Aside0.mk H
   clear H
   go_wp2
   go_meet
   case rel=>exact ⟨_,(((IntKind.u64.wrap (t451)) == 0)),(by first|rfl|(simp;done)|(simp [*];done)),H',⟨by first|omega|exact Nat.le_refl _⟩,⟨bl_ HB⟩⟩
 case rest =>
  clear HC7
  try clear c2
  try clear p2
  try clear c5
  try clear c7
  try clear c8
  try clear c8b0
  try clear c8b1
  obtain ⟨kq,x23_6,rfl,HA,HJ6,HB⟩:=hcut
  cases kq with
  | zero => exact absurd HA.out (by simp [r03_Against.j0])
  | succ kj6 =>
   have H:=HA.out
   clear HA
   simp only [r03_Against.j0] at H
   by_cases c9 : x23_6 = true
   ·subst c9
    have H1 : ((r02_Cmp.f kj6 l0 l2).bind fun t452=>(some t452)) = some r:=by rw [if_pos rfl] at H;exact H
    clear H
    have H:=H1
    clear H1
    obtain ⟨t452,A10,H⟩:=ob_ H
    try dsimp only at H
    obtain rfl:=Option.some.inj H
    go_wp2_with (first|((with_reducible refine gate_callee (f:=61) rfl ?_);refine goesM (some 26) Try.func61 #[.slice A0 l0.length c0,.slice A2 l2.length c2] ?_;(with_reducible refine (r02_Cmp.calls kj6 _ _ l0 _ _ l2 t452 _ ?side1 ?side2 ?side3 ?side4 A10.out).mono ?_);(case side1=>repeat (first|exact (Kd.C_below HR0.out HB.out)|(with_reducible first|apply cA|apply cN|apply cD)));(case side2=>exact HC0.out);(case side3=>repeat (first|exact (Kd.C_below HR2.out HB.out)|(with_reducible first|apply cA|apply cN|apply cD)));(case side4=>exact HC2.out);rintro e w' ⟨rfl,⟨nd,rfl⟩⟩;refine ⟨_,rfl,?_⟩))
    go_ret
    exact ⟨rf_,bl_ HB⟩
   ·replace c9:=Bool.eq_false_iff.mpr c9
    subst c9
    have H1 : (if a1 < a3 then ((r03_Against.f kj6 l2 a3 l0 a1).bind fun t453=>(some (wrap64 (-t453)))) else (if (IntKind.u64.wrap ((IntKind.u64.wrap (a1)) - (IntKind.u64.wrap (a3)))) > 1099511627776 then (r03_Against.j1 kj6 l0 l2 (IntKind.u64.wrap (t450)) (IntKind.u64.wrap (t451)) (IntKind.u64.wrap ((IntKind.u64.wrap (a1)) - (IntKind.u64.wrap (a3)))) true) else (r03_Against.j1 kj6 l0 l2 (IntKind.u64.wrap (t450)) (IntKind.u64.wrap (t451)) (IntKind.u64.wrap ((IntKind.u64.wrap (a1)) - (IntKind.u64.wrap (a3)))) (decide ((IntKind.u64.wrap ((IntKind.u64.wrap (t450)) + (IntKind.u64.wrap ((IntKind.u64.wrap (a1)) - (IntKind.u64.wrap (a3)))))) > (IntKind.u64.wrap (t451))))))) = some r:=by rw [if_neg (show ¬ (false = true) by decide)] at H;exact H
    clear H
    have H:=H1
    clear H1
    by_cases c11 : a1 < a3
    ·rw [if_pos c11] at H
     have c11b0 : decide (a1 < a3) = true:=decide_eq_true c11
     clear c11
     obtain ⟨t453,A12,H⟩:=ob_ H
     try dsimp only at H
     obtain rfl:=Option.some.inj H
     go_wp2_with (first|((with_reducible refine gate_callee (f:=74) rfl ?_);refine goesM (some 34) Try.func74 #[.slice A2 l2.length c2,.int .i64 a3,.slice A0 l0.length c0,.int .i64 a1] ?_;(with_reducible refine (ih kj6 (by have:=HJ6.out;omega) _ _ l2 a3 _ _ l0 a1 t453 _ ?side1 ?side2 ?side3 ?side4 A12.out).mono ?_);(case side1=>repeat (first|exact (Kd.C_below HR2.out HB.out)|(with_reducible first|apply cA|apply cN|apply cD)));(case side2=>exact HC2.out);(case side3=>repeat (first|exact (Kd.C_below HR0.out HB.out)|(with_reducible first|apply cA|apply cN|apply cD)));(case side4=>exact HC0.out);rintro e w13 ⟨rfl,hb⟩;refine ⟨_,rfl,?_⟩;replace HB:=bs_ HB hb;(try clear hb);(try clear hb2);(try clear hk);(try clear hi)))
     go_ret
     exact ⟨rf_,bl_ HB⟩
    ·rw [if_neg c11] at H
     have c11b0 : decide (a1 < a3) = false:=decide_eq_false c11
     clear c11
     have HC14:=Aside0.mk H
     clear H
     go_upto_region 8 with (fail)
     obtain ⟨bz15,hbz15⟩ : ∃ b_ : Bool,decide (a1 < a3) = b_:=⟨_,rfl⟩
     (try rw [hbz15])
     go_cut [49] (fun v49 wc=>∃ (kq : Nat) (x49_13 : Bool),v49 = .bool x49_13 ∧ Aside0 (r03_Against.j1 kq l0 l2 (IntKind.u64.wrap (t450)) (IntKind.u64.wrap (t451)) (IntKind.u64.wrap ((IntKind.u64.wrap (a1)) - (IntKind.u64.wrap (a3)))) x49_13 = some r) ∧ Aside0 (kq ≤ kj6) ∧ Aside0 (Below w.heap.size w wc))
     case first =>
      have H:=HC14.out
      clear HC14
      by_cases c16 : (IntKind.u64.wrap ((IntKind.u64.wrap (a1)) - (IntKind.u64.wrap (a3)))) > 1099511627776
      ·rw [if_pos c16] at H
       have c16b0 : decide (1099511627776 < (IntKind.u64.wrap ((IntKind.u64.wrap (a1)) - (IntKind.u64.wrap (a3))))) = true:=decide_eq_true c16
       clear c16
       (first|rw [c16b0]|(simp only [i64_w,i32_w];rw [c16b0])|skip)
       have H':=Aside0.mk H
       clear H
       go_wp2
       go_meet
       case rel=>exact ⟨_,(true),(by first|rfl|(simp;done)|(simp [*];done)),H',⟨by have:=HJ6.out;first|omega|exact Nat.le_refl _⟩,⟨bl_ HB⟩⟩
      ·rw [if_neg c16] at H
       have c16b0 : decide (1099511627776 < (IntKind.u64.wrap ((IntKind.u64.wrap (a1)) - (IntKind.u64.wrap (a3))))) = false:=decide_eq_false c16
       clear c16
       (first|rw [c16b0]|(simp only [i64_w,i32_w];rw [c16b0])|skip)
       have H':=Aside0.mk H
       clear H
       go_wp2
       go_meet
       case rel=>exact ⟨_,(decide ((IntKind.u64.wrap ((IntKind.u64.wrap (t450)) + (IntKind.u64.wrap ((IntKind.u64.wrap (a1)) - (IntKind.u64.wrap (a3)))))) > (IntKind.u64.wrap (t451)))),(by first|rfl|(simp;done)|(simp [*];done)),H',⟨by have:=HJ6.out;first|omega|exact Nat.le_refl _⟩,⟨bl_ HB⟩⟩
     case rest =>
      clear HC14
      try clear c1
      try clear c2
      try clear p2
      try clear c5
      try clear c6
      try clear p6
      try clear c7
      try clear c8
      try clear c8b0
      try clear c8b1
      try clear c9
      try clear c11
      try clear c11b0
      try clear c16
      try clear c16b0
      try clear p2
      obtain ⟨kq,x49_13,rfl,HA,HJ13,HB⟩:=hcut
      cases kq with
      | zero => exact absurd HA.out (by simp [r03_Against.j1])
      | succ kj13 =>
       have H:=HA.out
       clear HA
       simp only [r03_Against.j1] at H
       by_cases c17 : x49_13 = true
       ·subst c17
        have H1 : (some 1) = some r:=by rw [if_pos rfl] at H;exact H
        clear H
        have H:=H1
        clear H1
        obtain rfl:=Option.some.inj H
        go_wp2
        go_ret
        exact ⟨rf_,bl_ HB⟩
       ·replace c17:=Bool.eq_false_iff.mpr c17
        subst c17
        have H1 : (if (IntKind.u64.wrap ((IntKind.u64.wrap (t450)) + (IntKind.u64.wrap ((IntKind.u64.wrap (a1)) - (IntKind.u64.wrap (a3)))))) < (IntKind.u64.wrap (t451)) then (some (-1)) else ((r02_Moved.f kj13 l0 (wrap64 ((IntKind.u64.wrap ((IntKind.u64.wrap (a1)) - (IntKind.u64.wrap (a3))))))).bind fun t454=>((r02_Cmp.f kj13 t454 l2).bind fun t457=>(some t457)))) = some r:=by rw [if_neg (show ¬ (false = true) by decide)] at H;exact H
        clear H
        have H:=H1
        clear H1
        by_cases c18 : (IntKind.u64.wrap ((IntKind.u64.wrap (t450)) + (IntKind.u64.wrap ((IntKind.u64.wrap (a1)) - (IntKind.u64.wrap (a3)))))) < (IntKind.u64.wrap (t451))
        ·rw [if_pos c18] at H
         have c18b0 : decide ((IntKind.u64.wrap ((IntKind.u64.wrap (t450)) + (IntKind.u64.wrap ((IntKind.u64.wrap (a1)) - (IntKind.u64.wrap (a3)))))) < (IntKind.u64.wrap (t451))) = true:=decide_eq_true c18
         clear c18
         obtain rfl:=Option.some.inj H
         go_wp2
         go_ret
         exact ⟨rf_,bl_ HB⟩
        ·rw [if_neg c18] at H
         have c18b0 : decide ((IntKind.u64.wrap ((IntKind.u64.wrap (t450)) + (IntKind.u64.wrap ((IntKind.u64.wrap (a1)) - (IntKind.u64.wrap (a3)))))) < (IntKind.u64.wrap (t451))) = false:=decide_eq_false c18
         clear c18
         obtain ⟨t454,A19,H⟩:=ob_ H
         try dsimp only at H
         obtain ⟨t457,A20,H⟩:=ob_ H
         try dsimp only at H
         obtain rfl:=Option.some.inj H
         go_wp2_with (first|((with_reducible refine gate_callee (f:=58) rfl ?_);refine goesM (some 58) Try.func58 #[.slice A0 l0.length c0,.int .i64 (wrap64 ((IntKind.u64.wrap ((IntKind.u64.wrap (a1)) - (IntKind.u64.wrap (a3))))))] ?_;(with_reducible refine (r02_Moved.calls kj13 _ _ l0 (wrap64 ((IntKind.u64.wrap ((IntKind.u64.wrap (a1)) - (IntKind.u64.wrap (a3)))))) t454 _ ?side1 ?side2 A19.out).mono ?_);(case side1=>repeat (first|exact (Kd.C_below HR0.out HB.out)|(with_reducible first|apply cA|apply cN|apply cD)));(case side2=>exact HC0.out);rintro e w21 ⟨v455,rfl,ho0,hb⟩;refine ⟨_,rfl,?_⟩;have HO456:=Aside0.mk (Kd.R_lower ho0 (below_size (bl_ HB)));replace HB:=bs_ HB hb;(try clear hb);(try clear hb2);(try clear hk);(try clear hi);(try clear ho0);obtain ⟨Ao22,co22,eo22⟩:=Kd.R_slice HO456.out;subst eo22)|((with_reducible refine gate_callee (f:=61) rfl ?_);refine goesM (some 60) Try.func61 #[.slice Ao22 t454.length co22,.slice A2 l2.length c2] ?_;(with_reducible refine (r02_Cmp.calls kj13 _ _ t454 _ _ l2 t457 _ ?side1 ?side2 ?side3 ?side4 A20.out).mono ?_);(case side1=>repeat (first|exact (Kd.R_reads' HO456.out).2.2|(with_reducible first|apply cA|apply cN|apply cD)));(case side2=>exact (Kd.R_reads' HO456.out).2.1);(case side3=>repeat (first|exact (Kd.C_below HR2.out HB.out)|(with_reducible first|apply cA|apply cN|apply cD)));(case side4=>exact HC2.out);rintro e w' ⟨rfl,⟨nd,rfl⟩⟩;refine ⟨_,rfl,?_⟩))
         go_ret
         exact ⟨rf_,bl_ HB⟩

end Go.Proofs.Ytdemanikmaafeaa.Pr
-- written by this session's own program (wip/fprint.py), which widens the kit's print by floats
namespace Go.Proofs.Ytdemanikmaafeaa.Pr
open Go.RowKit Go.Proofs.YtdemanikmaafeaaW.PrintWords Go.Proofs.YtdemanikmaafeaaW.PrintLast Go.Proofs.YtdemanikmaafeaaW.PrintMore
attribute [local go_sem] max2_int min2_int max_two min_two max_three min_three max_four min_four   -- for this text's walks alone
set_option linter.unusedVariables false
set_option linter.unusedSimpArgs false

def l05_finite.f (k : Nat) (a0 : Nat) : Option (Bool × List Int × Int × Bool) := (r03_Of.f k a0).bind fun bt710 => (some (bt710.1, bt710.2.1, bt710.2.2.1, (bt710.2.2.2 == 0)))
theorem l05_finite.mono : ∀ a0 k, LeO (l05_finite.f k a0) (l05_finite.f (k + 1) a0) := by
 intro a0 k
 unfold l05_finite.f
 repeat' first
   | (with_reducible exact r03_Of.mono _ _)
   | (with_reducible exact LeO.refl _)
   | (with_reducible exact LeO.none _)
   | (with_reducible refine LeO.ite ?_ ?_)
   | (with_reducible refine LeO.bind ?_ (fun _ => ?_))
   | exact r03_Of.mono _ _
   | exact LeO.none _
   | refine LeO.ite ?_ ?_
   | refine LeO.bind ?_ (fun _ => ?_)
set_option maxHeartbeats 3000000 in
set_option maxRecDepth 100000 in
theorem l05_finite.calls (k : Nat) (a0 : Nat) (r1 : Bool) (r2 : List Int) (r3 : Int) (r4 : Bool) (w : World) (h : l05_finite.f k a0 = some (r1, r2, r3, r4)) :
  Calls Try.prog 29 #[.float .f64 a0] w fun e w'=>∃ v1_ : Value,e = .returned (.tuple #[.agg #[.bool r1,v1_,.int .i64 r3],.bool r4]) ∧ Kd.R (Kd.int .u32) 72 w' w.heap.size (fun _=>True) v1_ r2 ∧ Below w.heap.size w w':=by
 have hu43:=Try.underlying43
 have HB:=Aside0.mk (Below.refl w.heap.size w)
 have H : ((r03_Of.f k a0).bind fun bt710=>(some (bt710.1,bt710.2.1,bt710.2.2.1,(bt710.2.2.2 == 0)))) = some (r1,r2,r3,r4):=h
 clear h
 obtain ⟨⟨t710,t711,t714,t715⟩,A2,H⟩:=ob_ H
 try dsimp only at H
 simp only [Option.some.injEq,Prod.mk.injEq] at H
 obtain ⟨rfl,rfl,rfl,rfl⟩:=H
 go_enter Try.func29,Try.ntmps29
 go_wp2_with (first|((with_reducible refine gate_dst (N:=2) rfl ?_);refine box_ev (N:=2) (cs:=#[.bool false,.slice none 0 0,.int .i64 0]) (t:=43) ?_;intro gb709 hg w3 hbox hb;have BK709:=Aside0.mk (hbox);have GW709:=ge_ HB hg;have GE709:=ge_ HB hg;replace HB:=bs_ HB hb;clear hb hbox hg)|((with_reducible refine gate_callee (f:=50) rfl ?_);refine goesM (some 8) Try.func50 #[.float .f64 a0] ?_;(with_reducible refine (r03_Of.calls k a0 t710 t711 t714 t715 _ A2.out).mono ?_);rintro e w4 ⟨v712,rfl,ho0,hb⟩;refine ⟨_,rfl,?_⟩;have HO713:=Aside0.mk (Kd.R_lower ho0 (below_size (bl_ HB)));replace BK709:=kb_ BK709 hb;replace HB:=bs_ HB hb;(try clear hb);(try clear hb2);(try clear hk);(try clear hi);(try clear ho0))|((with_reducible refine gate_dst (N:=4) rfl ?_);refine box_ev (N:=4) (cs:=#[.bool false,.slice none 0 0,.int .i64 0]) (t:=43) ?_;intro gb716 hg w5 hbox hb;replace HO713:=Aside0.mk (Kd.R_below (rr_ HO713) hb);have BK716:=Aside0.mk (hbox);have GW716:=ge_ HB hg;have GE716:=ge_ HB hg;replace HB:=bs_ HB hb;have NB709_716:=nlt_ BK709 hg;have NB716_709:=ngt_ BK709 hg;replace BK709:=kb_ BK709 hb;clear hb hbox hg;have hnb6:=NB716_709.out;have hnc6:=NB709_716.out;have hcz7_0:=bc_ BK716 0;have hcz7_1:=bc_ BK716 1;have hcz7_2:=bc_ BK716 2;have hfz7_0:=bz_ BK716 0;have hfz7_1:=bz_ BK716 1;have hfz7_2:=bz_ BK716 2;obtain ⟨Ao8,co8,eo8⟩:=Kd.R_slice HO713.out;subst eo8;have hcz9_0:=bc_ BK709 0;have hcz9_1:=bc_ BK709 1;have hcz9_2:=bc_ BK709 2;have hfz9_0:=bz_ BK709 0;have hfz9_1:=bz_ BK709 1;have hfz9_2:=bz_ BK709 2))
 refine bodyPost_ret (results_ct rfl _ _ gb709 43 #[.bool t710,.slice Ao8 t711.length co8,.int .i64 t714] (0,0) _ rfl (by (with_reducible repeat (first|apply bN|apply bD|apply bA));refine blk_put (cs:=#[.bool t710,.slice Ao8 t711.length co8,.int .i64 0]) ?_ 2 _ rfl;(with_reducible repeat (first|apply bN|apply bD|apply bA));refine blk_put (cs:=#[.bool t710,.slice none 0 0,.int .i64 0]) ?_ 1 _ rfl;(with_reducible repeat (first|apply bN|apply bD|apply bA));refine blk_put (cs:=#[.bool false,.slice none 0 0,.int .i64 0]) ?_ 0 _ rfl;(with_reducible repeat (first|apply bN|apply bD|apply bA));refine blk_far ?_ NB709_716.out _;(with_reducible repeat (first|apply bN|apply bD|apply bA));refine blk_far ?_ NB709_716.out _;(with_reducible repeat (first|apply bN|apply bD|apply bA));refine blk_far ?_ NB709_716.out _;exact bk_ BK709) Try.underlying43 rfl (by kernel_rfl)) rfl ?_
 exact ⟨_,rf_,by (with_reducible repeat (first|apply rA|apply rN|apply rD));exact Kd.R_mono (Kd.R_far (p:=⟨gb709,2,none⟩) (Kd.R_far (p:=⟨gb709,1,none⟩) (Kd.R_far (p:=⟨gb709,0,none⟩) (Kd.R_far (p:=⟨gb716,2,none⟩) (Kd.R_far (p:=⟨gb716,1,none⟩) (Kd.R_far (p:=⟨gb716,0,none⟩) (Kd.R_types (Kd.R_types HO713.out BK716.out (by decide)) BK709.out (by decide)) (fun _ hk=>hk.1.2) (.bool t710)) (fun _ hk=>hk.1.2) (.slice Ao8 t711.length co8)) (fun _ hk=>hk.1.2) (.int .i64 t714)) (fun _ hk=>hk.2) (.bool t710)) (fun _ hk=>hk.2) (.slice Ao8 t711.length co8)) (fun _ hk=>hk.2) (.int .i64 t714)) (fun _ hk=>trivial),bl_ HB⟩

def r03_Sign.f (k : Nat) (a0_0 : Bool) (l0_1 : List Int) (a0_2 : Int) : Option (Int) := (r02_Len.f k l0_1).bind fun t718 => (if t718 = 0 then (some 0) else (if a0_0 = true then (some (-1)) else (some 1)))
theorem r03_Sign.mono : ∀ a0 a1 a2 k, LeO (r03_Sign.f k a0 a1 a2) (r03_Sign.f (k + 1) a0 a1 a2) := by
 intro a0 a1 a2 k
 unfold r03_Sign.f
 repeat' first
   | (with_reducible exact r02_Len.mono _ _)
   | (with_reducible exact LeO.refl _)
   | (with_reducible exact LeO.none _)
   | (with_reducible refine LeO.ite ?_ ?_)
   | (with_reducible refine LeO.bind ?_ (fun _ => ?_))
   | exact r02_Len.mono _ _
   | exact LeO.none _
   | refine LeO.ite ?_ ?_
   | refine LeO.bind ?_ (fun _ => ?_)
set_option maxHeartbeats 3000000 in
set_option maxRecDepth 100000 in
theorem r03_Sign.calls (k : Nat) (a0_0 : Bool) (A0_1 : Option Addr) (c0_1 : Nat) (l0_1 : List Int) (a0_2 : Int) (r : Int) (w : World) (hr0_1 : Kd.C (Kd.int .u32) w A0_1 l0_1.length l0_1) (hc0_1 : l0_1.length ≤ c0_1) (h : r03_Sign.f k a0_0 l0_1 a0_2 = some r) :
  Calls Try.prog 73 #[.agg #[.bool a0_0,.slice A0_1 l0_1.length c0_1,.int .i64 a0_2]] w fun e w'=>e = .returned (.int .i64 r) ∧ Below w.heap.size w w':=by
 have hu43:=Try.underlying43
 have HR0_1:=Aside0.mk hr0_1
 have HC0_1:=Aside0.mk hc0_1
 clear hr0_1 hc0_1
 have HB:=Aside0.mk (Below.refl w.heap.size w)
 have H : ((r02_Len.f k l0_1).bind fun t718=>(if t718 = 0 then (some 0) else (if a0_0 = true then (some (-1)) else (some 1)))) = some r:=h
 clear h
 obtain ⟨t718,A2,H⟩:=ob_ H
 try dsimp only at H
 by_cases c3 : t718 = 0
 ·rw [if_pos c3] at H
  have c3b0 : (t718 == 0) = true:=beq_iff_eq.mpr c3
  have c3b1 : (t718 != 0) = false:=bne_eq_false_iff_eq.mpr c3
  clear c3
  obtain rfl:=Option.some.inj H
  go_enter Try.func73,Try.ntmps73
  go_wp2_with (first|((with_reducible refine gate_dst (N:=1) rfl ?_);refine box_ev (N:=1) (cs:=#[.bool a0_0,.slice A0_1 l0_1.length c0_1,.int .i64 a0_2]) (t:=43) ?_;intro gb717 hg w4 hbox hb;have BK717:=Aside0.mk (hbox);have GW717:=ge_ HB hg;have GE717:=ge_ HB hg;replace HB:=bs_ HB hb;clear hb hbox hg;have hcz5_0:=bc_ BK717 0;have hcz5_1:=bc_ BK717 1;have hcz5_2:=bc_ BK717 2;have hfz5_0:=bz_ BK717 0;have hfz5_1:=bz_ BK717 1;have hfz5_2:=bz_ BK717 2)|((with_reducible refine gate_callee (f:=55) rfl ?_);refine goesM (some 5) Try.func55 #[.slice A0_1 l0_1.length c0_1] ?_;(with_reducible refine (r02_Len.calls k _ _ l0_1 t718 _ ?side1 ?side2 A2.out).mono ?_);(case side1=>repeat (first|exact (Kd.C_below HR0_1.out HB.out)|(with_reducible first|apply cA|apply cN|apply cD)));(case side2=>exact HC0_1.out);rintro e w' ⟨rfl,⟨nd,rfl⟩⟩;refine ⟨_,rfl,?_⟩))
  go_ret
  exact ⟨rf_,bl_ HB⟩
 ·rw [if_neg c3] at H
  have c3b0 : (t718 == 0) = false:=beq_eq_false_iff_ne.mpr c3
  have c3b1 : (t718 != 0) = true:=bne_iff_ne.mpr c3
  by_cases c6 : a0_0 = true
  ·subst c6
   have H1 : (some (-1)) = some r:=by rw [if_pos rfl] at H;exact H
   clear H
   have H:=H1
   clear H1
   obtain rfl:=Option.some.inj H
   go_enter Try.func73,Try.ntmps73
   go_wp2_with (first|((with_reducible refine gate_dst (N:=1) rfl ?_);refine box_ev (N:=1) (cs:=#[.bool true,.slice A0_1 l0_1.length c0_1,.int .i64 a0_2]) (t:=43) ?_;intro gb717 hg w7 hbox hb;have BK717:=Aside0.mk (hbox);have GW717:=ge_ HB hg;have GE717:=ge_ HB hg;replace HB:=bs_ HB hb;clear hb hbox hg;have hcz8_0:=bc_ BK717 0;have hcz8_1:=bc_ BK717 1;have hcz8_2:=bc_ BK717 2;have hfz8_0:=bz_ BK717 0;have hfz8_1:=bz_ BK717 1;have hfz8_2:=bz_ BK717 2)|((with_reducible refine gate_callee (f:=55) rfl ?_);refine goesM (some 5) Try.func55 #[.slice A0_1 l0_1.length c0_1] ?_;(with_reducible refine (r02_Len.calls k _ _ l0_1 t718 _ ?side1 ?side2 A2.out).mono ?_);(case side1=>repeat (first|exact (Kd.C_below HR0_1.out HB.out)|(with_reducible first|apply cA|apply cN|apply cD)));(case side2=>exact HC0_1.out);rintro e w' ⟨rfl,⟨nd,rfl⟩⟩;refine ⟨_,rfl,?_⟩))
   go_ret
   exact ⟨rf_,bl_ HB⟩
  ·replace c6:=Bool.eq_false_iff.mpr c6
   subst c6
   have H1 : (some 1) = some r:=by rw [if_neg (show ¬ (false = true) by decide)] at H;exact H
   clear H
   have H:=H1
   clear H1
   obtain rfl:=Option.some.inj H
   go_enter Try.func73,Try.ntmps73
   go_wp2_with (first|((with_reducible refine gate_dst (N:=1) rfl ?_);refine box_ev (N:=1) (cs:=#[.bool false,.slice A0_1 l0_1.length c0_1,.int .i64 a0_2]) (t:=43) ?_;intro gb717 hg w9 hbox hb;have BK717:=Aside0.mk (hbox);have GW717:=ge_ HB hg;have GE717:=ge_ HB hg;replace HB:=bs_ HB hb;clear hb hbox hg;have hcz10_0:=bc_ BK717 0;have hcz10_1:=bc_ BK717 1;have hcz10_2:=bc_ BK717 2;have hfz10_0:=bz_ BK717 0;have hfz10_1:=bz_ BK717 1;have hfz10_2:=bz_ BK717 2)|((with_reducible refine gate_callee (f:=55) rfl ?_);refine goesM (some 5) Try.func55 #[.slice A0_1 l0_1.length c0_1] ?_;(with_reducible refine (r02_Len.calls k _ _ l0_1 t718 _ ?side1 ?side2 A2.out).mono ?_);(case side1=>repeat (first|exact (Kd.C_below HR0_1.out HB.out)|(with_reducible first|apply cA|apply cN|apply cD)));(case side2=>exact HC0_1.out);rintro e w' ⟨rfl,⟨nd,rfl⟩⟩;refine ⟨_,rfl,?_⟩))
   go_ret
   exact ⟨rf_,bl_ HB⟩

def r03_Cmp.f (k : Nat) (a0_0 : Bool) (l0_1 : List Int) (a0_2 : Int) (a1_0 : Bool) (l1_1 : List Int) (a1_2 : Int) : Option (Int) := (r03_Sign.f k a0_0 l0_1 a0_2).bind fun t721 => ((r03_Sign.f k a1_0 l1_1 a1_2).bind fun t722 => (if t721 < t722 then (some (-1)) else (if t721 > t722 then (some 1) else (if t721 < 0 then ((r03_Against.f k l1_1 a1_2 l0_1 a0_2).bind fun t723 => (some t723)) else ((r03_Against.f k l0_1 a0_2 l1_1 a1_2).bind fun t724 => (some t724))))))
theorem r03_Cmp.mono : ∀ a0 a1 a2 a3 a4 a5 k, LeO (r03_Cmp.f k a0 a1 a2 a3 a4 a5) (r03_Cmp.f (k + 1) a0 a1 a2 a3 a4 a5) := by
 intro a0 a1 a2 a3 a4 a5 k
 unfold r03_Cmp.f
 repeat' first
   | (with_reducible exact r03_Against.mono _ _ _ _ _)
   | (with_reducible exact r03_Sign.mono _ _ _ _)
   | (with_reducible exact LeO.refl _)
   | (with_reducible exact LeO.none _)
   | (with_reducible refine LeO.ite ?_ ?_)
   | (with_reducible refine LeO.bind ?_ (fun _ => ?_))
   | exact r03_Against.mono _ _ _ _ _
   | exact r03_Sign.mono _ _ _ _
   | exact LeO.none _
   | refine LeO.ite ?_ ?_
   | refine LeO.bind ?_ (fun _ => ?_)
set_option maxHeartbeats 3000000 in
set_option maxRecDepth 100000 in
theorem r03_Cmp.calls (k : Nat) (a0_0 : Bool) (A0_1 : Option Addr) (c0_1 : Nat) (l0_1 : List Int) (a0_2 : Int) (a1_0 : Bool) (A1_1 : Option Addr) (c1_1 : Nat) (l1_1 : List Int) (a1_2 : Int) (r : Int) (w : World) (hr0_1 : Kd.C (Kd.int .u32) w A0_1 l0_1.length l0_1) (hc0_1 : l0_1.length ≤ c0_1) (hr1_1 : Kd.C (Kd.int .u32) w A1_1 l1_1.length l1_1) (hc1_1 : l1_1.length ≤ c1_1) (h : r03_Cmp.f k a0_0 l0_1 a0_2 a1_0 l1_1 a1_2 = some r) :
  Calls Try.prog 53 #[.agg #[.bool a0_0,.slice A0_1 l0_1.length c0_1,.int .i64 a0_2],.agg #[.bool a1_0,.slice A1_1 l1_1.length c1_1,.int .i64 a1_2]] w fun e w'=>e = .returned (.int .i64 r) ∧ Below w.heap.size w w':=by
 have hu43:=Try.underlying43
 have HR0_1:=Aside0.mk hr0_1
 have HC0_1:=Aside0.mk hc0_1
 clear hr0_1 hc0_1
 have HR1_1:=Aside0.mk hr1_1
 have HC1_1:=Aside0.mk hc1_1
 clear hr1_1 hc1_1
 have HB:=Aside0.mk (Below.refl w.heap.size w)
 have H : ((r03_Sign.f k a0_0 l0_1 a0_2).bind fun t721=>((r03_Sign.f k a1_0 l1_1 a1_2).bind fun t722=>(if t721 < t722 then (some (-1)) else (if t721 > t722 then (some 1) else (if t721 < 0 then ((r03_Against.f k l1_1 a1_2 l0_1 a0_2).bind fun t723=>(some t723)) else ((r03_Against.f k l0_1 a0_2 l1_1 a1_2).bind fun t724=>(some t724))))))) = some r:=h
 clear h
 obtain ⟨t721,A3,H⟩:=ob_ H
 try dsimp only at H
 obtain ⟨t722,A4,H⟩:=ob_ H
 try dsimp only at H
 by_cases c5 : t721 < t722
 ·rw [if_pos c5] at H
  have c5b0 : decide (t721 < t722) = true:=decide_eq_true c5
  clear c5
  obtain rfl:=Option.some.inj H
  go_enter Try.func53,Try.ntmps53
  go_wp2_with (first|((with_reducible refine gate_dst (N:=2) rfl ?_);refine box_ev (N:=2) (cs:=#[.bool a0_0,.slice A0_1 l0_1.length c0_1,.int .i64 a0_2]) (t:=43) ?_;intro gb719 hg w6 hbox hb;have BK719:=Aside0.mk (hbox);have GW719:=ge_ HB hg;have GE719:=ge_ HB hg;replace HB:=bs_ HB hb;clear hb hbox hg)|((with_reducible refine gate_dst (N:=3) rfl ?_);refine box_ev (N:=3) (cs:=#[.bool a1_0,.slice A1_1 l1_1.length c1_1,.int .i64 a1_2]) (t:=43) ?_;intro gb720 hg w7 hbox hb;have BK720:=Aside0.mk (hbox);have GW720:=ge_ HB hg;have GE720:=ge_ HB hg;replace HB:=bs_ HB hb;have NB719_720:=nlt_ BK719 hg;have NB720_719:=ngt_ BK719 hg;replace BK719:=kb_ BK719 hb;clear hb hbox hg;have hnb8:=NB719_720.out;have hnc8:=NB720_719.out;have hcz9_0:=bc_ BK719 0;have hcz9_1:=bc_ BK719 1;have hcz9_2:=bc_ BK719 2;have hfz9_0:=bz_ BK719 0;have hfz9_1:=bz_ BK719 1;have hfz9_2:=bz_ BK719 2)|((with_reducible refine gate_callee (f:=73) rfl ?_);refine goesM (some 8) Try.func73 #[.agg #[.bool a0_0,.slice A0_1 l0_1.length c0_1,.int .i64 a0_2]] ?_;(with_reducible refine (r03_Sign.calls k a0_0 _ _ l0_1 a0_2 t721 _ ?side1 ?side2 A3.out).mono ?_);(case side1=>repeat (first|exact (Kd.C_below HR0_1.out HB.out)|(with_reducible first|apply cA|apply cN|apply cD)));(case side2=>exact HC0_1.out);rintro e w10 ⟨rfl,hb⟩;refine ⟨_,rfl,?_⟩;replace BK719:=kb_ BK719 hb;replace BK720:=kb_ BK720 hb;replace HB:=bs_ HB hb;(try clear hb);(try clear hb2);(try clear hk);(try clear hi);have hcz11_0:=bc_ BK720 0;have hcz11_1:=bc_ BK720 1;have hcz11_2:=bc_ BK720 2;have hfz11_0:=bz_ BK720 0;have hfz11_1:=bz_ BK720 1;have hfz11_2:=bz_ BK720 2)|((with_reducible refine gate_callee (f:=73) rfl ?_);refine goesM (some 10) Try.func73 #[.agg #[.bool a1_0,.slice A1_1 l1_1.length c1_1,.int .i64 a1_2]] ?_;(with_reducible refine (r03_Sign.calls k a1_0 _ _ l1_1 a1_2 t722 _ ?side1 ?side2 A4.out).mono ?_);(case side1=>repeat (first|exact (Kd.C_below HR1_1.out HB.out)|(with_reducible first|apply cA|apply cN|apply cD)));(case side2=>exact HC1_1.out);rintro e w12 ⟨rfl,hb⟩;refine ⟨_,rfl,?_⟩;replace BK719:=kb_ BK719 hb;replace BK720:=kb_ BK720 hb;replace HB:=bs_ HB hb;(try clear hb);(try clear hb2);(try clear hk);(try clear hi)))
  go_ret
  exact ⟨rf_,bl_ HB⟩
 ·rw [if_neg c5] at H
  have c5b0 : decide (t721 < t722) = false:=decide_eq_false c5
  clear c5
  by_cases c13 : t721 > t722
  ·rw [if_pos c13] at H
   have c13b0 : decide (t722 < t721) = true:=decide_eq_true c13
   clear c13
   obtain rfl:=Option.some.inj H
   go_enter Try.func53,Try.ntmps53
   go_wp2_with (first|((with_reducible refine gate_dst (N:=2) rfl ?_);refine box_ev (N:=2) (cs:=#[.bool a0_0,.slice A0_1 l0_1.length c0_1,.int .i64 a0_2]) (t:=43) ?_;intro gb719 hg w14 hbox hb;have BK719:=Aside0.mk (hbox);have GW719:=ge_ HB hg;have GE719:=ge_ HB hg;replace HB:=bs_ HB hb;clear hb hbox hg)|((with_reducible refine gate_dst (N:=3) rfl ?_);refine box_ev (N:=3) (cs:=#[.bool a1_0,.slice A1_1 l1_1.length c1_1,.int .i64 a1_2]) (t:=43) ?_;intro gb720 hg w15 hbox hb;have BK720:=Aside0.mk (hbox);have GW720:=ge_ HB hg;have GE720:=ge_ HB hg;replace HB:=bs_ HB hb;have NB719_720:=nlt_ BK719 hg;have NB720_719:=ngt_ BK719 hg;replace BK719:=kb_ BK719 hb;clear hb hbox hg;have hnb16:=NB719_720.out;have hnc16:=NB720_719.out;have hcz17_0:=bc_ BK719 0;have hcz17_1:=bc_ BK719 1;have hcz17_2:=bc_ BK719 2;have hfz17_0:=bz_ BK719 0;have hfz17_1:=bz_ BK719 1;have hfz17_2:=bz_ BK719 2)|((with_reducible refine gate_callee (f:=73) rfl ?_);refine goesM (some 8) Try.func73 #[.agg #[.bool a0_0,.slice A0_1 l0_1.length c0_1,.int .i64 a0_2]] ?_;(with_reducible refine (r03_Sign.calls k a0_0 _ _ l0_1 a0_2 t721 _ ?side1 ?side2 A3.out).mono ?_);(case side1=>repeat (first|exact (Kd.C_below HR0_1.out HB.out)|(with_reducible first|apply cA|apply cN|apply cD)));(case side2=>exact HC0_1.out);rintro e w18 ⟨rfl,hb⟩;refine ⟨_,rfl,?_⟩;replace BK719:=kb_ BK719 hb;replace BK720:=kb_ BK720 hb;replace HB:=bs_ HB hb;(try clear hb);(try clear hb2);(try clear hk);(try clear hi);have hcz19_0:=bc_ BK720 0;have hcz19_1:=bc_ BK720 1;have hcz19_2:=bc_ BK720 2;have hfz19_0:=bz_ BK720 0;have hfz19_1:=bz_ BK720 1;have hfz19_2:=bz_ BK720 2)|((with_reducible refine gate_callee (f:=73) rfl ?_);refine goesM (some 10) Try.func73 #[.agg #[.bool a1_0,.slice A1_1 l1_1.length c1_1,.int .i64 a1_2]] ?_;(with_reducible refine (r03_Sign.calls k a1_0 _ _ l1_1 a1_2 t722 _ ?side1 ?side2 A4.out).mono ?_);(case side1=>repeat (first|exact (Kd.C_below HR1_1.out HB.out)|(with_reducible first|apply cA|apply cN|apply cD)));(case side2=>exact HC1_1.out);rintro e w20 ⟨rfl,hb⟩;refine ⟨_,rfl,?_⟩;replace BK719:=kb_ BK719 hb;replace BK720:=kb_ BK720 hb;replace HB:=bs_ HB hb;(try clear hb);(try clear hb2);(try clear hk);(try clear hi)))
   go_ret
   exact ⟨rf_,bl_ HB⟩
  ·rw [if_neg c13] at H
   have c13b0 : decide (t722 < t721) = false:=decide_eq_false c13
   clear c13
   by_cases c21 : t721 < 0
   ·rw [if_pos c21] at H
    have c21b0 : decide (t721 < 0) = true:=decide_eq_true c21
    clear c21
    obtain ⟨t723,A22,H⟩:=ob_ H
    try dsimp only at H
    obtain rfl:=Option.some.inj H
    go_enter Try.func53,Try.ntmps53
    go_wp2_with (first|((with_reducible refine gate_dst (N:=2) rfl ?_);refine box_ev (N:=2) (cs:=#[.bool a0_0,.slice A0_1 l0_1.length c0_1,.int .i64 a0_2]) (t:=43) ?_;intro gb719 hg w23 hbox hb;have BK719:=Aside0.mk (hbox);have GW719:=ge_ HB hg;have GE719:=ge_ HB hg;replace HB:=bs_ HB hb;clear hb hbox hg)|((with_reducible refine gate_dst (N:=3) rfl ?_);refine box_ev (N:=3) (cs:=#[.bool a1_0,.slice A1_1 l1_1.length c1_1,.int .i64 a1_2]) (t:=43) ?_;intro gb720 hg w24 hbox hb;have BK720:=Aside0.mk (hbox);have GW720:=ge_ HB hg;have GE720:=ge_ HB hg;replace HB:=bs_ HB hb;have NB719_720:=nlt_ BK719 hg;have NB720_719:=ngt_ BK719 hg;replace BK719:=kb_ BK719 hb;clear hb hbox hg;have hnb25:=NB719_720.out;have hnc25:=NB720_719.out;have hcz26_0:=bc_ BK719 0;have hcz26_1:=bc_ BK719 1;have hcz26_2:=bc_ BK719 2;have hfz26_0:=bz_ BK719 0;have hfz26_1:=bz_ BK719 1;have hfz26_2:=bz_ BK719 2)|((with_reducible refine gate_callee (f:=73) rfl ?_);refine goesM (some 8) Try.func73 #[.agg #[.bool a0_0,.slice A0_1 l0_1.length c0_1,.int .i64 a0_2]] ?_;(with_reducible refine (r03_Sign.calls k a0_0 _ _ l0_1 a0_2 t721 _ ?side1 ?side2 A3.out).mono ?_);(case side1=>repeat (first|exact (Kd.C_below HR0_1.out HB.out)|(with_reducible first|apply cA|apply cN|apply cD)));(case side2=>exact HC0_1.out);rintro e w27 ⟨rfl,hb⟩;refine ⟨_,rfl,?_⟩;replace BK719:=kb_ BK719 hb;replace BK720:=kb_ BK720 hb;replace HB:=bs_ HB hb;(try clear hb);(try clear hb2);(try clear hk);(try clear hi);have hcz28_0:=bc_ BK720 0;have hcz28_1:=bc_ BK720 1;have hcz28_2:=bc_ BK720 2;have hfz28_0:=bz_ BK720 0;have hfz28_1:=bz_ BK720 1;have hfz28_2:=bz_ BK720 2)|((with_reducible refine gate_callee (f:=73) rfl ?_);refine goesM (some 10) Try.func73 #[.agg #[.bool a1_0,.slice A1_1 l1_1.length c1_1,.int .i64 a1_2]] ?_;(with_reducible refine (r03_Sign.calls k a1_0 _ _ l1_1 a1_2 t722 _ ?side1 ?side2 A4.out).mono ?_);(case side1=>repeat (first|exact (Kd.C_below HR1_1.out HB.out)|(with_reducible first|apply cA|apply cN|apply cD)));(case side2=>exact HC1_1.out);rintro e w29 ⟨rfl,hb⟩;refine ⟨_,rfl,?_⟩;replace BK719:=kb_ BK719 hb;replace BK720:=kb_ BK720 hb;replace HB:=bs_ HB hb;(try clear hb);(try clear hb2);(try clear hk);(try clear hi);have hcz30_0:=bc_ BK720 0;have hcz30_1:=bc_ BK720 1;have hcz30_2:=bc_ BK720 2;have hfz30_0:=bz_ BK720 0;have hfz30_1:=bz_ BK720 1;have hfz30_2:=bz_ BK720 2;have hcz31_0:=bc_ BK719 0;have hcz31_1:=bc_ BK719 1;have hcz31_2:=bc_ BK719 2;have hfz31_0:=bz_ BK719 0;have hfz31_1:=bz_ BK719 1;have hfz31_2:=bz_ BK719 2)|((with_reducible refine gate_callee (f:=74) rfl ?_);refine goesM (some 30) Try.func74 #[.slice A1_1 l1_1.length c1_1,.int .i64 a1_2,.slice A0_1 l0_1.length c0_1,.int .i64 a0_2] ?_;(with_reducible refine (r03_Against.calls k _ _ l1_1 a1_2 _ _ l0_1 a0_2 t723 _ ?side1 ?side2 ?side3 ?side4 A22.out).mono ?_);(case side1=>repeat (first|exact (Kd.C_below HR1_1.out HB.out)|(with_reducible first|apply cA|apply cN|apply cD)));(case side2=>exact HC1_1.out);(case side3=>repeat (first|exact (Kd.C_below HR0_1.out HB.out)|(with_reducible first|apply cA|apply cN|apply cD)));(case side4=>exact HC0_1.out);rintro e w32 ⟨rfl,hb⟩;refine ⟨_,rfl,?_⟩;replace BK719:=kb_ BK719 hb;replace BK720:=kb_ BK720 hb;replace HB:=bs_ HB hb;(try clear hb);(try clear hb2);(try clear hk);(try clear hi)))
    go_ret
    exact ⟨rf_,bl_ HB⟩
   ·rw [if_neg c21] at H
    have c21b0 : decide (t721 < 0) = false:=decide_eq_false c21
    clear c21
    obtain ⟨t724,A33,H⟩:=ob_ H
    try dsimp only at H
    obtain rfl:=Option.some.inj H
    go_enter Try.func53,Try.ntmps53
    go_wp2_with (first|((with_reducible refine gate_dst (N:=2) rfl ?_);refine box_ev (N:=2) (cs:=#[.bool a0_0,.slice A0_1 l0_1.length c0_1,.int .i64 a0_2]) (t:=43) ?_;intro gb719 hg w34 hbox hb;have BK719:=Aside0.mk (hbox);have GW719:=ge_ HB hg;have GE719:=ge_ HB hg;replace HB:=bs_ HB hb;clear hb hbox hg)|((with_reducible refine gate_dst (N:=3) rfl ?_);refine box_ev (N:=3) (cs:=#[.bool a1_0,.slice A1_1 l1_1.length c1_1,.int .i64 a1_2]) (t:=43) ?_;intro gb720 hg w35 hbox hb;have BK720:=Aside0.mk (hbox);have GW720:=ge_ HB hg;have GE720:=ge_ HB hg;replace HB:=bs_ HB hb;have NB719_720:=nlt_ BK719 hg;have NB720_719:=ngt_ BK719 hg;replace BK719:=kb_ BK719 hb;clear hb hbox hg;have hnb36:=NB719_720.out;have hnc36:=NB720_719.out;have hcz37_0:=bc_ BK719 0;have hcz37_1:=bc_ BK719 1;have hcz37_2:=bc_ BK719 2;have hfz37_0:=bz_ BK719 0;have hfz37_1:=bz_ BK719 1;have hfz37_2:=bz_ BK719 2)|((with_reducible refine gate_callee (f:=73) rfl ?_);refine goesM (some 8) Try.func73 #[.agg #[.bool a0_0,.slice A0_1 l0_1.length c0_1,.int .i64 a0_2]] ?_;(with_reducible refine (r03_Sign.calls k a0_0 _ _ l0_1 a0_2 t721 _ ?side1 ?side2 A3.out).mono ?_);(case side1=>repeat (first|exact (Kd.C_below HR0_1.out HB.out)|(with_reducible first|apply cA|apply cN|apply cD)));(case side2=>exact HC0_1.out);rintro e w38 ⟨rfl,hb⟩;refine ⟨_,rfl,?_⟩;replace BK719:=kb_ BK719 hb;replace BK720:=kb_ BK720 hb;replace HB:=bs_ HB hb;(try clear hb);(try clear hb2);(try clear hk);(try clear hi);have hcz39_0:=bc_ BK720 0;have hcz39_1:=bc_ BK720 1;have hcz39_2:=bc_ BK720 2;have hfz39_0:=bz_ BK720 0;have hfz39_1:=bz_ BK720 1;have hfz39_2:=bz_ BK720 2)|((with_reducible refine gate_callee (f:=73) rfl ?_);refine goesM (some 10) Try.func73 #[.agg #[.bool a1_0,.slice A1_1 l1_1.length c1_1,.int .i64 a1_2]] ?_;(with_reducible refine (r03_Sign.calls k a1_0 _ _ l1_1 a1_2 t722 _ ?side1 ?side2 A4.out).mono ?_);(case side1=>repeat (first|exact (Kd.C_below HR1_1.out HB.out)|(with_reducible first|apply cA|apply cN|apply cD)));(case side2=>exact HC1_1.out);rintro e w40 ⟨rfl,hb⟩;refine ⟨_,rfl,?_⟩;replace BK719:=kb_ BK719 hb;replace BK720:=kb_ BK720 hb;replace HB:=bs_ HB hb;(try clear hb);(try clear hb2);(try clear hk);(try clear hi);have hcz41_0:=bc_ BK719 0;have hcz41_1:=bc_ BK719 1;have hcz41_2:=bc_ BK719 2;have hfz41_0:=bz_ BK719 0;have hfz41_1:=bz_ BK719 1;have hfz41_2:=bz_ BK719 2;have hcz42_0:=bc_ BK720 0;have hcz42_1:=bc_ BK720 1;have hcz42_2:=bc_ BK720 2;have hfz42_0:=bz_ BK720 0;have hfz42_1:=bz_ BK720 1;have hfz42_2:=bz_ BK720 2)|((with_reducible refine gate_callee (f:=74) rfl ?_);refine goesM (some 39) Try.func74 #[.slice A0_1 l0_1.length c0_1,.int .i64 a0_2,.slice A1_1 l1_1.length c1_1,.int .i64 a1_2] ?_;(with_reducible refine (r03_Against.calls k _ _ l0_1 a0_2 _ _ l1_1 a1_2 t724 _ ?side1 ?side2 ?side3 ?side4 A33.out).mono ?_);(case side1=>repeat (first|exact (Kd.C_below HR0_1.out HB.out)|(with_reducible first|apply cA|apply cN|apply cD)));(case side2=>exact HC0_1.out);(case side3=>repeat (first|exact (Kd.C_below HR1_1.out HB.out)|(with_reducible first|apply cA|apply cN|apply cD)));(case side4=>exact HC1_1.out);rintro e w43 ⟨rfl,hb⟩;refine ⟨_,rfl,?_⟩;replace BK719:=kb_ BK719 hb;replace BK720:=kb_ BK720 hb;replace HB:=bs_ HB hb;(try clear hb);(try clear hb2);(try clear hk);(try clear hi)))
    go_ret
    exact ⟨rf_,bl_ HB⟩

def l05_size.f (a0_0 : Bool) (l0_1 : List Int) (a0_2 : Int) : Option (Bool × List Int × Int) := some (false, l0_1, a0_2)
set_option maxHeartbeats 3000000 in
set_option maxRecDepth 100000 in
theorem l05_size.calls (a0_0 : Bool) (P0_1_ : Nat → Prop) (A0_1 : Option Addr) (c0_1 : Nat) (l0_1 : List Int) (a0_2 : Int) (r1 : Bool) (r2 : List Int) (r3 : Int) (w : World) (hs0_1 : Kd.V (Kd.int .u32) 72 w w.heap.size (fun k_ => P0_1_ k_) (.slice A0_1 l0_1.length c0_1) l0_1) (h : l05_size.f a0_0 l0_1 a0_2 = some (r1, r2, r3)) :
  Calls Try.prog 54 #[.agg #[.bool a0_0,.slice A0_1 l0_1.length c0_1,.int .i64 a0_2]] w fun e w'=>∃ v1_ : Value,e = .returned (.agg #[.bool r1,v1_,.int .i64 r3]) ∧ Kd.V (Kd.int .u32) 72 w' w.heap.size (fun k_=>(P0_1_ k_ ∨ w.heap.size ≤ k_)) v1_ r2 ∧ Below w.heap.size w w':=by
 have hu43:=Try.underlying43
 have HO0_1:=Aside0.mk (show Kd.V (Kd.int .u32) 72 w w.heap.size (fun k_=>(P0_1_ k_ ∨ w.heap.size ≤ k_)) (.slice A0_1 l0_1.length c0_1) l0_1 from Kd.V_mono hs0_1 (fun k_ hk=>.inl hk))
 have HB:=Aside0.mk (Below.refl w.heap.size w)
 have H : (some (false,l0_1,a0_2)) = some (r1,r2,r3):=h
 clear h
 simp only [Option.some.injEq,Prod.mk.injEq] at H
 obtain ⟨rfl,rfl,rfl⟩:=H
 go_enter Try.func54,Try.ntmps54
 go_wp2_with (first|((with_reducible refine gate_dst (N:=1) rfl ?_);refine box_ev (N:=1) (cs:=#[.bool a0_0,.slice A0_1 l0_1.length c0_1,.int .i64 a0_2]) (t:=43) ?_;intro gb725 hg w2 hbox hb;replace HO0_1:=Aside0.mk (Kd.V_below (Kd.V_elderB (by (with_reducible repeat (first|apply Kd.V_alloc|apply Kd.V_drewN|apply Kd.V_drew));exact HO0_1.out) gb725 (Nat.le_of_eq hg.symm)) hb);have BK725:=Aside0.mk (hbox);have GW725:=ge_ HB hg;have GE725:=ge_ HB hg;replace HB:=bs_ HB hb;clear hb hbox hg)|((with_reducible refine gate_dst (N:=2) rfl ?_);refine box_ev (N:=2) (cs:=#[.bool false,.slice none 0 0,.int .i64 0]) (t:=43) ?_;intro gb726 hg w3 hbox hb;replace HO0_1:=Aside0.mk (Kd.V_below (Kd.V_elderB (by (with_reducible repeat (first|apply Kd.V_alloc|apply Kd.V_drewN|apply Kd.V_drew));exact HO0_1.out) gb726 (Nat.le_of_eq hg.symm)) hb);have BK726:=Aside0.mk (hbox);have GW726:=ge_ HB hg;have GE726:=ge_ HB hg;replace HB:=bs_ HB hb;have NB725_726:=nlt_ BK725 hg;have NB726_725:=ngt_ BK725 hg;replace BK725:=kb_ BK725 hb;clear hb hbox hg;have hnb4:=NB725_726.out;have hnc4:=NB726_725.out;have hcz5_0:=bc_ BK725 0;have hcz5_1:=bc_ BK725 1;have hcz5_2:=bc_ BK725 2;have hfz5_0:=bz_ BK725 0;have hfz5_1:=bz_ BK725 1;have hfz5_2:=bz_ BK725 2;have hcz6_0:=bc_ BK726 0;have hcz6_1:=bc_ BK726 1;have hcz6_2:=bc_ BK726 2;have hfz6_0:=bz_ BK726 0;have hfz6_1:=bz_ BK726 1;have hfz6_2:=bz_ BK726 2))
 refine bodyPost_ret (results_cell_row rfl _ _ gb726 43 #[.bool false,.slice A0_1 l0_1.length c0_1,.int .i64 a0_2] (0,0) _ rfl (by (with_reducible repeat (first|apply bN|apply bD|apply bA));refine blk_put (cs:=#[.bool false,.slice A0_1 l0_1.length c0_1,.int .i64 0]) ?_ 2 _ rfl;(with_reducible repeat (first|apply bN|apply bD|apply bA));refine blk_put (cs:=#[.bool false,.slice none 0 0,.int .i64 0]) ?_ 1 _ rfl;(with_reducible repeat (first|apply bN|apply bD|apply bA));refine blk_put (cs:=#[.bool false,.slice none 0 0,.int .i64 0]) ?_ 0 _ rfl;exact bk_ BK726) Try.underlying43 rfl (by kernel_rfl)) rfl ?_
 exact ⟨_,rf_,by (with_reducible repeat (first|apply Kd.V_alloc|apply Kd.V_drewN|apply Kd.V_drew));exact Kd.V_mono (Kd.V_far (p:=⟨gb726,2,none⟩) (Kd.V_far (p:=⟨gb726,1,none⟩) (Kd.V_far (p:=⟨gb726,0,none⟩) (Kd.V_mono HO0_1.out (fun k_ hk=>(⟨hk,hk.2⟩ : _ ∧ k_ ≠ gb726))) (fun _ hk=>hk.2) (.bool false)) (fun _ hk=>hk.2) (.slice A0_1 l0_1.length c0_1)) (fun _ hk=>hk.2) (.int .i64 a0_2)) (fun _ hk=>hk.1.1.1),bl_ HB⟩

def l05_within.f (k : Nat) (a0_0 : Bool) (l0_1 : List Int) (a0_2 : Int) (a1 : Int) : Option (Bool) := (l05_size.f a0_0 l0_1 a0_2).bind fun bt728 => ((r03_Cmp.f k bt728.1 bt728.2.1 bt728.2.2 false (([1] : List Int)) a1).bind fun t736 => (some (decide (t736 ≤ 0))))
theorem l05_within.mono : ∀ a0 a1 a2 a3 k, LeO (l05_within.f k a0 a1 a2 a3) (l05_within.f (k + 1) a0 a1 a2 a3) := by
 intro a0 a1 a2 a3 k
 unfold l05_within.f
 repeat' first
   | (with_reducible exact r03_Cmp.mono _ _ _ _ _ _ _)
   | (with_reducible exact LeO.refl _)
   | (with_reducible exact LeO.none _)
   | (with_reducible refine LeO.ite ?_ ?_)
   | (with_reducible refine LeO.bind ?_ (fun _ => ?_))
   | exact r03_Cmp.mono _ _ _ _ _ _ _
   | exact LeO.none _
   | refine LeO.ite ?_ ?_
   | refine LeO.bind ?_ (fun _ => ?_)
set_option maxHeartbeats 3000000 in
set_option maxRecDepth 100000 in
theorem l05_within.calls (k : Nat) (a0_0 : Bool) (A0_1 : Option Addr) (c0_1 : Nat) (l0_1 : List Int) (a0_2 : Int) (a1 : Int) (r : Bool) (w : World) (hr0_1 : Kd.C (Kd.int .u32) w A0_1 l0_1.length l0_1) (hc0_1 : l0_1.length ≤ c0_1) (h : l05_within.f k a0_0 l0_1 a0_2 a1 = some r) :
  Calls Try.prog 51 #[.agg #[.bool a0_0,.slice A0_1 l0_1.length c0_1,.int .i64 a0_2],.int .i64 a1] w fun e w'=>e = .returned (.bool r) ∧ Below w.heap.size w w':=by
 have hu43:=Try.underlying43
 have HR0_1:=Aside0.mk hr0_1
 have HC0_1:=Aside0.mk hc0_1
 clear hr0_1 hc0_1
 have HB:=Aside0.mk (Below.refl w.heap.size w)
 have H : ((l05_size.f a0_0 l0_1 a0_2).bind fun bt728=>((r03_Cmp.f k bt728.1 bt728.2.1 bt728.2.2 false (([1] : List Int)) a1).bind fun t736=>(some (decide (t736 ≤ 0))))) = some r:=h
 clear h
 obtain ⟨⟨t728,t729,t732⟩,A3,H⟩:=ob_ H
 try dsimp only at H
 obtain ⟨y733,hy733⟩ : ∃ y_ : List Int,y_ = (([1] : List Int)):=⟨_,rfl⟩
 replace H : ((r03_Cmp.f k t728 t729 t732 false y733 a1).bind fun t736=>(some (decide (t736 ≤ 0)))) = some r:=by first|(rw [hy733];with_reducible exact H)|(have H2_:=(Option.bind_some _ _).symm.trans H;rw [hy733];with_reducible exact H2_)|(have H2_:=(Option.bind_some _ _).symm.trans H;with_reducible exact H2_)|with_reducible exact H|(rw [hy733];exact H)|exact H
 have Ny733:=Aside0.mk hy733
 clear hy733
 obtain ⟨t736,A4,H⟩:=ob_ H
 try dsimp only at H
 obtain rfl:=Option.some.inj H
 go_enter Try.func51,Try.ntmps51
 go_wp2_with (first|((with_reducible refine gate_dst (N:=2) rfl ?_);refine box_ev (N:=2) (cs:=#[.bool a0_0,.slice A0_1 l0_1.length c0_1,.int .i64 a0_2]) (t:=43) ?_;intro gb727 hg w5 hbox hb;have BK727:=Aside0.mk (hbox);have GW727:=ge_ HB hg;have GE727:=ge_ HB hg;replace HB:=bs_ HB hb;clear hb hbox hg;have hcz6_0:=bc_ BK727 0;have hcz6_1:=bc_ BK727 1;have hcz6_2:=bc_ BK727 2;have hfz6_0:=bz_ BK727 0;have hfz6_1:=bz_ BK727 1;have hfz6_2:=bz_ BK727 2)|((with_reducible refine gate_callee (f:=54) rfl ?_);refine goesM (some 6) Try.func54 #[.agg #[.bool a0_0,.slice A0_1 l0_1.length c0_1,.int .i64 a0_2]] ?_;(with_reducible refine (l05_size.calls a0_0 (fun k_=>k_ < w.heap.size) _ _ l0_1 a0_2 t728 t729 t732 _ ?side1 A3.out).mono ?_);(case side1=>exact Kd.V_mk HC0_1.out (Kd.F_below (Kd.C_F (Kd.heap_int .u32) HR0_1.out) (bl_ HB)));rintro e w7 ⟨v730,rfl,ho0,hb⟩;refine ⟨_,rfl,?_⟩;have HO731:=Aside0.mk (Kd.V_lower (Kd.V_mono (ok':=fun k_=>k_ ≠ gb727) ho0 (fun k_ hk_=>Or.elim hk_ (fun hs_=>fun e_=>Nat.not_le.2 hs_ (by rw [e_];exact GW727.out)) (fun hn_=>(Kd.freshB (g:=gb727) (o:=.cells #[.bool a0_0,.slice A0_1 l0_1.length c0_1,.int .i64 a0_2] 43 (0,0)) (bk_ BK727) k_ hn_)))) (below_size (bl_ HB)));replace BK727:=kb_ BK727 hb;replace HB:=bs_ HB hb;(try clear hb);(try clear hb2);(try clear hk);(try clear hi);(try clear ho0))|((with_reducible refine gate_dst (N:=7) rfl ?_);refine Kd.R_lit (Kd.int .u32) _ 72 ?hg (N:=7) ?hd (xs:=([1] : List Int)) (inner:=[.int .u32 1]) (ok:=fun _=>True) (okp:=fun _=>True) ?hr ?hp (fun _ hk=>hk) trivial (Below.refl _ _) (Nat.le_refl _) (by simp) ?_;(case hd=>rfl);(case hg=>rfl);(case hr=>first|(go_simp;done)|(go_simp;rfl));(case hp=>exact (Reps.one (show Kd.M (Kd.int .u32) _ _ _ 1 [.int .u32 1] from rfl) (Reps.none _ _)));intro v734 w8 ho9 hb hg_ hnew_;clear hg_ hnew_;(first|rw [← Ny733.out] at ho9|(simp only [Int.reduceToNat] at ho9;rw [← Ny733.out] at ho9));replace HO731:=Aside0.mk (Kd.V_elder' (by (with_reducible repeat (first|apply Kd.V_alloc|apply Kd.V_drewN|apply Kd.V_drew));exact HO731.out) (Kd.R_base ho9) hb);have HO735:=Aside0.mk (Kd.R_lower ho9 (below_size (bl_ HB)));replace BK727:=kb_ BK727 hb;replace HB:=bs_ HB hb;clear hb ho9;obtain ⟨Ao10,co10,eo10⟩:=Kd.R_slice HO735.out;subst eo10;obtain ⟨Ao11,co11,eo11⟩:=Kd.V_slice HO731.out;subst eo11)|((with_reducible refine gate_callee (f:=53) rfl ?_);refine goesM (some 10) Try.func53 #[.agg #[.bool t728,.slice Ao11 t729.length co11,.int .i64 t732],.agg #[.bool false,.slice Ao10 y733.length co10,.int .i64 a1]] ?_;(with_reducible refine (r03_Cmp.calls k t728 _ _ t729 t732 false _ _ y733 a1 t736 _ ?side1 ?side2 ?side3 ?side4 A4.out).mono ?_);(case side1=>repeat (first|exact (Kd.V_reads' HO731.out).2.2|(with_reducible first|apply cA|apply cN|apply cD)));(case side2=>exact (Kd.V_reads' HO731.out).2.1);(case side3=>repeat (first|exact (Kd.R_reads' HO735.out).2.2|(with_reducible first|apply cA|apply cN|apply cD)));(case side4=>exact (Kd.R_reads' HO735.out).2.1);rintro e w12 ⟨rfl,hb⟩;refine ⟨_,rfl,?_⟩;replace HO731:=Aside0.mk (Kd.V_below (by (with_reducible repeat (first|apply Kd.V_alloc|apply Kd.V_drewN|apply Kd.V_drew));exact HO731.out) hb);replace HO735:=Aside0.mk (Kd.R_below (rr_ HO735) hb);replace BK727:=kb_ BK727 hb;replace HB:=bs_ HB hb;(try clear hb);(try clear hb2);(try clear hk);(try clear hi)))
 go_ret
 exact ⟨rf_,bl_ HB⟩

def l05_worth.f (k : Nat) (a0_0 : Nat) (a0_1 : Nat) : Option (Bool × List Int × Int × Bool) := (l05_finite.f k a0_0).bind fun bt739 => ((l05_finite.f k a0_1).bind fun bt746 => (if bt739.2.2.2 = true then (if bt746.2.2.2 = true then ((r03_Add.f k bt739.1 bt739.2.1 bt739.2.2.1 bt746.1 bt746.2.1 bt746.2.2.1).bind fun bt753 => (some (bt753.1, bt753.2.1, bt753.2.2.1, (bt753.2.2.2 == 0)))) else (some (false, ([] : List Int), 0, false))) else (some (false, ([] : List Int), 0, false))))
theorem l05_worth.mono : ∀ a0 a1 k, LeO (l05_worth.f k a0 a1) (l05_worth.f (k + 1) a0 a1) := by
 intro a0 a1 k
 unfold l05_worth.f
 repeat' first
   | (with_reducible exact l05_finite.mono _ _)
   | (with_reducible exact r03_Add.mono _ _ _ _ _ _ _)
   | (with_reducible exact LeO.refl _)
   | (with_reducible exact LeO.none _)
   | (with_reducible refine LeO.ite ?_ ?_)
   | (with_reducible refine LeO.bind ?_ (fun _ => ?_))
   | exact l05_finite.mono _ _
   | exact r03_Add.mono _ _ _ _ _ _ _
   | exact LeO.none _
   | refine LeO.ite ?_ ?_
   | refine LeO.bind ?_ (fun _ => ?_)
set_option maxHeartbeats 3000000 in
set_option maxRecDepth 100000 in
theorem l05_worth.calls (k : Nat) (a0_0 : Nat) (a0_1 : Nat) (r1 : Bool) (r2 : List Int) (r3 : Int) (r4 : Bool) (w : World) (h : l05_worth.f k a0_0 a0_1 = some (r1, r2, r3, r4)) :
  Calls Try.prog 34 #[.agg #[.float .f64 a0_0,.float .f64 a0_1]] w fun e w'=>∃ v1_ : Value,e = .returned (.tuple #[.agg #[.bool r1,v1_,.int .i64 r3],.bool r4]) ∧ Kd.R (Kd.int .u32) 72 w' w.heap.size (fun _=>True) v1_ r2 ∧ Below w.heap.size w w':=by
 have hu30:=Try.underlying30
 have hu43:=Try.underlying43
 have HB:=Aside0.mk (Below.refl w.heap.size w)
 have H : ((l05_finite.f k a0_0).bind fun bt739=>((l05_finite.f k a0_1).bind fun bt746=>(if bt739.2.2.2 = true then (if bt746.2.2.2 = true then ((r03_Add.f k bt739.1 bt739.2.1 bt739.2.2.1 bt746.1 bt746.2.1 bt746.2.2.1).bind fun bt753=>(some (bt753.1,bt753.2.1,bt753.2.2.1,(bt753.2.2.2 == 0)))) else (some (false,([] : List Int),0,false))) else (some (false,([] : List Int),0,false))))) = some (r1,r2,r3,r4):=h
 clear h
 obtain ⟨⟨t739,t740,t743,t744⟩,A2,H⟩:=ob_ H
 try dsimp only at H
 obtain ⟨⟨t746,t747,t750,t751⟩,A3,H⟩:=ob_ H
 try dsimp only at H
 by_cases c4 : t744 = true
 ·subst c4
  have H1 : (if t751 = true then ((r03_Add.f k t739 t740 t743 t746 t747 t750).bind fun bt753=>(some (bt753.1,bt753.2.1,bt753.2.2.1,(bt753.2.2.2 == 0)))) else (some (false,([] : List Int),0,false))) = some (r1,r2,r3,r4):=by rw [if_pos rfl] at H;exact H
  clear H
  have H:=H1
  clear H1
  by_cases c5 : t751 = true
  ·subst c5
   have H1 : ((r03_Add.f k t739 t740 t743 t746 t747 t750).bind fun bt753=>(some (bt753.1,bt753.2.1,bt753.2.2.1,(bt753.2.2.2 == 0)))) = some (r1,r2,r3,r4):=by rw [if_pos rfl] at H;exact H
   clear H
   have H:=H1
   clear H1
   obtain ⟨⟨t753,t754,t757,t758⟩,A6,H⟩:=ob_ H
   try dsimp only at H
   simp only [Option.some.injEq,Prod.mk.injEq] at H
   obtain ⟨rfl,rfl,rfl,rfl⟩:=H
   go_enter Try.func34,Try.ntmps34
   go_wp2_with (first|((with_reducible refine gate_dst (N:=1) rfl ?_);refine box_ev (N:=1) (cs:=#[.float .f64 a0_0,.float .f64 a0_1]) (t:=30) ?_;intro gb737 hg w7 hbox hb;have BK737:=Aside0.mk (hbox);have GW737:=ge_ HB hg;have GE737:=ge_ HB hg;replace HB:=bs_ HB hb;clear hb hbox hg)|((with_reducible refine gate_dst (N:=2) rfl ?_);refine box_ev (N:=2) (cs:=#[.bool false,.slice none 0 0,.int .i64 0]) (t:=43) ?_;intro gb738 hg w8 hbox hb;have BK738:=Aside0.mk (hbox);have GW738:=ge_ HB hg;have GE738:=ge_ HB hg;replace HB:=bs_ HB hb;have NB737_738:=nlt_ BK737 hg;have NB738_737:=ngt_ BK737 hg;replace BK737:=kb_ BK737 hb;clear hb hbox hg;have hnb9:=NB737_738.out;have hnc9:=NB738_737.out;have hcz10_0:=bc_ BK737 0;have hcz10_1:=bc_ BK737 1;have hfz10_0:=bz_ BK737 0;have hfz10_1:=bz_ BK737 1)|((with_reducible refine gate_callee (f:=29) rfl ?_);refine goesM (some 13) Try.func29 #[.float .f64 a0_0] ?_;(with_reducible refine (l05_finite.calls k a0_0 t739 t740 t743 true _ A2.out).mono ?_);rintro e w11 ⟨v741,rfl,ho0,hb⟩;refine ⟨_,rfl,?_⟩;have HO742:=Aside0.mk (Kd.R_lower ho0 (below_size (bl_ HB)));replace BK737:=kb_ BK737 hb;replace BK738:=kb_ BK738 hb;replace HB:=bs_ HB hb;(try clear hb);(try clear hb2);(try clear hk);(try clear hi);(try clear ho0))|((with_reducible refine gate_dst (N:=4) rfl ?_);refine box_ev (N:=4) (cs:=#[.bool false,.slice none 0 0,.int .i64 0]) (t:=43) ?_;intro gb745 hg w12 hbox hb;replace HO742:=Aside0.mk (Kd.R_below (rr_ HO742) hb);have BK745:=Aside0.mk (hbox);have GW745:=ge_ HB hg;have GE745:=ge_ HB hg;replace HB:=bs_ HB hb;have NB737_745:=nlt_ BK737 hg;have NB745_737:=ngt_ BK737 hg;replace BK737:=kb_ BK737 hb;have NB738_745:=nlt_ BK738 hg;have NB745_738:=ngt_ BK738 hg;replace BK738:=kb_ BK738 hb;clear hb hbox hg;have hnb13:=NB745_737.out;have hnc13:=NB737_745.out;have hnb14:=NB745_738.out;have hnc14:=NB738_745.out;have hcz15_0:=bc_ BK745 0;have hcz15_1:=bc_ BK745 1;have hcz15_2:=bc_ BK745 2;have hfz15_0:=bz_ BK745 0;have hfz15_1:=bz_ BK745 1;have hfz15_2:=bz_ BK745 2;obtain ⟨Ao16,co16,eo16⟩:=Kd.R_slice HO742.out;subst eo16;have hcz17_0:=bc_ BK737 0;have hcz17_1:=bc_ BK737 1;have hfz17_0:=bz_ BK737 0;have hfz17_1:=bz_ BK737 1)|((with_reducible refine gate_callee (f:=29) rfl ?_);refine goesM (some 19) Try.func29 #[.float .f64 a0_1] ?_;(with_reducible refine (l05_finite.calls k a0_1 t746 t747 t750 true _ A3.out).mono ?_);rintro e w18 ⟨v748,rfl,ho0,hb⟩;refine ⟨_,rfl,?_⟩;have HO749:=Aside0.mk (Kd.R_lower (Kd.R_new' ho0 (Kd.R_lt (by (with_reducible repeat (first|apply rA|apply rN|apply rD));exact (Kd.R_mono (Kd.R_far (p:=⟨gb745,2,none⟩) (Kd.R_far (p:=⟨gb745,1,none⟩) (Kd.R_far (p:=⟨gb745,0,none⟩) (Kd.R_types HO742.out BK745.out (by decide)) (fun _ hk=>hk.2) (.bool t739)) (fun _ hk=>hk.2) (.slice Ao16 t740.length co16)) (fun _ hk=>hk.2) (.int .i64 t743)) (fun _ h_=>h_.1))))) (below_size (bl_ HB)));replace HO742:=Aside0.mk (Kd.R_elder' (by (with_reducible repeat (first|apply rA|apply rN|apply rD));exact (Kd.R_mono (Kd.R_far (p:=⟨gb745,2,none⟩) (Kd.R_far (p:=⟨gb745,1,none⟩) (Kd.R_far (p:=⟨gb745,0,none⟩) (Kd.R_types HO742.out BK745.out (by decide)) (fun _ hk=>hk.2) (.bool t739)) (fun _ hk=>hk.2) (.slice Ao16 t740.length co16)) (fun _ hk=>hk.2) (.int .i64 t743)) (fun _ h_=>h_.1))) (Kd.R_base ho0) hb);replace BK737:=Aside0.mk (blk_below (g:=gb737) (o:=.cells #[.float .f64 a0_0,.float .f64 a0_1] 30 (0,0)) (by (with_reducible repeat (first|apply bN|apply bD|apply bA));refine blk_far ?_ NB737_745.out _;(with_reducible repeat (first|apply bN|apply bD|apply bA));refine blk_far ?_ NB737_745.out _;(with_reducible repeat (first|apply bN|apply bD|apply bA));refine blk_far ?_ NB737_745.out _;exact bk_ BK737) hb);replace BK738:=Aside0.mk (blk_below (g:=gb738) (o:=.cells #[.bool false,.slice none 0 0,.int .i64 0] 43 (0,0)) (by (with_reducible repeat (first|apply bN|apply bD|apply bA));refine blk_far ?_ NB738_745.out _;(with_reducible repeat (first|apply bN|apply bD|apply bA));refine blk_far ?_ NB738_745.out _;(with_reducible repeat (first|apply bN|apply bD|apply bA));refine blk_far ?_ NB738_745.out _;exact bk_ BK738) hb);replace BK745:=Aside0.mk (blk_below (g:=gb745) (o:=.cells #[.bool t739,.slice Ao16 t740.length co16,.int .i64 t743] 43 (0,0)) (by (with_reducible repeat (first|apply bN|apply bD|apply bA));refine blk_put (cs:=#[.bool t739,.slice Ao16 t740.length co16,.int .i64 0]) ?_ 2 _ rfl;(with_reducible repeat (first|apply bN|apply bD|apply bA));refine blk_put (cs:=#[.bool t739,.slice none 0 0,.int .i64 0]) ?_ 1 _ rfl;(with_reducible repeat (first|apply bN|apply bD|apply bA));refine blk_put (cs:=#[.bool false,.slice none 0 0,.int .i64 0]) ?_ 0 _ rfl;exact bk_ BK745) hb);replace HB:=bs_ HB hb;(try clear hb);(try clear hb2);(try clear hk);(try clear hi);(try clear ho0))|((with_reducible refine gate_dst (N:=6) rfl ?_);refine box_ev (N:=6) (cs:=#[.bool false,.slice none 0 0,.int .i64 0]) (t:=43) ?_;intro gb752 hg w19 hbox hb;replace HO742:=Aside0.mk (Kd.R_below (rr_ HO742) hb);replace HO749:=Aside0.mk (Kd.R_below (rr_ HO749) hb);have BK752:=Aside0.mk (hbox);have GW752:=ge_ HB hg;have GE752:=ge_ HB hg;replace HB:=bs_ HB hb;have NB737_752:=nlt_ BK737 hg;have NB752_737:=ngt_ BK737 hg;replace BK737:=kb_ BK737 hb;have NB738_752:=nlt_ BK738 hg;have NB752_738:=ngt_ BK738 hg;replace BK738:=kb_ BK738 hb;have NB745_752:=nlt_ BK745 hg;have NB752_745:=ngt_ BK745 hg;replace BK745:=kb_ BK745 hb;clear hb hbox hg;have hnb20:=NB752_737.out;have hnc20:=NB737_752.out;have hnb21:=NB752_738.out;have hnc21:=NB738_752.out;have hnb22:=NB752_745.out;have hnc22:=NB745_752.out;have hcz23_0:=bc_ BK752 0;have hcz23_1:=bc_ BK752 1;have hcz23_2:=bc_ BK752 2;have hfz23_0:=bz_ BK752 0;have hfz23_1:=bz_ BK752 1;have hfz23_2:=bz_ BK752 2;obtain ⟨Ao24,co24,eo24⟩:=Kd.R_slice HO749.out;subst eo24;have hcz25_0:=bc_ BK745 0;have hcz25_1:=bc_ BK745 1;have hcz25_2:=bc_ BK745 2;have hfz25_0:=bz_ BK745 0;have hfz25_1:=bz_ BK745 1;have hfz25_2:=bz_ BK745 2)|((with_reducible refine gate_callee (f:=35) rfl ?_);refine goesM (some 32) Try.func35 #[.agg #[.bool t739,.slice Ao16 t740.length co16,.int .i64 t743],.agg #[.bool t746,.slice Ao24 t747.length co24,.int .i64 t750]] ?_;(with_reducible refine (r03_Add.calls k t739 _ _ t740 t743 t746 _ _ t747 t750 t753 t754 t757 t758 _ ?side1 ?side2 ?side3 ?side4 A6.out).mono ?_);(case side1=>refine (Kd.R_reads' (e:=72) (base:=w.heap.size) (ok:=fun k_=>(True ∧ some k_ ≠ (.slice Ao24 t747.length co24 : Value).ownBlock)) (n:=t740.length) (c:=co16) ?_).2.2;exact (by (with_reducible repeat (first|apply rA|apply rN|apply rD));exact (Kd.R_mono (Kd.R_far (p:=⟨gb752,2,none⟩) (Kd.R_far (p:=⟨gb752,1,none⟩) (Kd.R_far (p:=⟨gb752,0,none⟩) (Kd.R_types HO742.out BK752.out (by decide)) (fun _ hk=>hk.2) (.bool t746)) (fun _ hk=>hk.2) (.slice Ao24 t747.length co24)) (fun _ hk=>hk.2) (.int .i64 t750)) (fun _ h_=>h_.1))));(case side2=>exact (Kd.R_reads' HO742.out).2.1);(case side3=>refine (Kd.R_reads' (e:=72) (base:=w.heap.size) (ok:=fun k_=>(True ∧ some k_ ≠ (.slice Ao16 t740.length co16 : Value).ownBlock)) (n:=t747.length) (c:=co24) ?_).2.2;exact (by (with_reducible repeat (first|apply rA|apply rN|apply rD));exact (Kd.R_mono (Kd.R_far (p:=⟨gb752,2,none⟩) (Kd.R_far (p:=⟨gb752,1,none⟩) (Kd.R_far (p:=⟨gb752,0,none⟩) (Kd.R_types HO749.out BK752.out (by decide)) (fun _ hk=>hk.2) (.bool t746)) (fun _ hk=>hk.2) (.slice Ao24 t747.length co24)) (fun _ hk=>hk.2) (.int .i64 t750)) (fun _ h_=>h_.1))));(case side4=>exact (Kd.R_reads' HO749.out).2.1);rintro e w26 ⟨v755,rfl,ho0,hb⟩;refine ⟨_,rfl,?_⟩;have HO756:=Aside0.mk (Kd.R_lower (Kd.R_new' (Kd.R_new' ho0 (Kd.R_lt (by (with_reducible repeat (first|apply rA|apply rN|apply rD));exact (Kd.R_mono (Kd.R_far (p:=⟨gb752,2,none⟩) (Kd.R_far (p:=⟨gb752,1,none⟩) (Kd.R_far (p:=⟨gb752,0,none⟩) (Kd.R_types HO742.out BK752.out (by decide)) (fun _ hk=>hk.2) (.bool t746)) (fun _ hk=>hk.2) (.slice Ao24 t747.length co24)) (fun _ hk=>hk.2) (.int .i64 t750)) (fun _ h_=>h_.1))))) (Kd.R_lt (by (with_reducible repeat (first|apply rA|apply rN|apply rD));exact (Kd.R_mono (Kd.R_far (p:=⟨gb752,2,none⟩) (Kd.R_far (p:=⟨gb752,1,none⟩) (Kd.R_far (p:=⟨gb752,0,none⟩) (Kd.R_types HO749.out BK752.out (by decide)) (fun _ hk=>hk.2) (.bool t746)) (fun _ hk=>hk.2) (.slice Ao24 t747.length co24)) (fun _ hk=>hk.2) (.int .i64 t750)) (fun _ h_=>h_.1))))) (below_size (bl_ HB)));replace HO742:=Aside0.mk (Kd.R_elder' (by (with_reducible repeat (first|apply rA|apply rN|apply rD));exact (Kd.R_mono (Kd.R_far (p:=⟨gb752,2,none⟩) (Kd.R_far (p:=⟨gb752,1,none⟩) (Kd.R_far (p:=⟨gb752,0,none⟩) (Kd.R_types HO742.out BK752.out (by decide)) (fun _ hk=>hk.2) (.bool t746)) (fun _ hk=>hk.2) (.slice Ao24 t747.length co24)) (fun _ hk=>hk.2) (.int .i64 t750)) (fun _ h_=>h_.1))) (Kd.R_base ho0) hb);replace HO749:=Aside0.mk (Kd.R_elder' (by (with_reducible repeat (first|apply rA|apply rN|apply rD));exact (Kd.R_mono (Kd.R_far (p:=⟨gb752,2,none⟩) (Kd.R_far (p:=⟨gb752,1,none⟩) (Kd.R_far (p:=⟨gb752,0,none⟩) (Kd.R_types HO749.out BK752.out (by decide)) (fun _ hk=>hk.2) (.bool t746)) (fun _ hk=>hk.2) (.slice Ao24 t747.length co24)) (fun _ hk=>hk.2) (.int .i64 t750)) (fun _ h_=>h_.1))) (Kd.R_base ho0) hb);replace BK737:=Aside0.mk (blk_below (g:=gb737) (o:=.cells #[.float .f64 a0_0,.float .f64 a0_1] 30 (0,0)) (by (with_reducible repeat (first|apply bN|apply bD|apply bA));refine blk_far ?_ NB737_752.out _;(with_reducible repeat (first|apply bN|apply bD|apply bA));refine blk_far ?_ NB737_752.out _;(with_reducible repeat (first|apply bN|apply bD|apply bA));refine blk_far ?_ NB737_752.out _;exact bk_ BK737) hb);replace BK738:=Aside0.mk (blk_below (g:=gb738) (o:=.cells #[.bool false,.slice none 0 0,.int .i64 0] 43 (0,0)) (by (with_reducible repeat (first|apply bN|apply bD|apply bA));refine blk_far ?_ NB738_752.out _;(with_reducible repeat (first|apply bN|apply bD|apply bA));refine blk_far ?_ NB738_752.out _;(with_reducible repeat (first|apply bN|apply bD|apply bA));refine blk_far ?_ NB738_752.out _;exact bk_ BK738) hb);replace BK745:=Aside0.mk (blk_below (g:=gb745) (o:=.cells #[.bool t739,.slice Ao16 t740.length co16,.int .i64 t743] 43 (0,0)) (by (with_reducible repeat (first|apply bN|apply bD|apply bA));refine blk_far ?_ NB745_752.out _;(with_reducible repeat (first|apply bN|apply bD|apply bA));refine blk_far ?_ NB745_752.out _;(with_reducible repeat (first|apply bN|apply bD|apply bA));refine blk_far ?_ NB745_752.out _;exact bk_ BK745) hb);replace BK752:=Aside0.mk (blk_below (g:=gb752) (o:=.cells #[.bool t746,.slice Ao24 t747.length co24,.int .i64 t750] 43 (0,0)) (by (with_reducible repeat (first|apply bN|apply bD|apply bA));refine blk_put (cs:=#[.bool t746,.slice Ao24 t747.length co24,.int .i64 0]) ?_ 2 _ rfl;(with_reducible repeat (first|apply bN|apply bD|apply bA));refine blk_put (cs:=#[.bool t746,.slice none 0 0,.int .i64 0]) ?_ 1 _ rfl;(with_reducible repeat (first|apply bN|apply bD|apply bA));refine blk_put (cs:=#[.bool false,.slice none 0 0,.int .i64 0]) ?_ 0 _ rfl;exact bk_ BK752) hb);replace HB:=bs_ HB hb;(try clear hb);(try clear hb2);(try clear hk);(try clear hi);(try clear ho0))|((with_reducible refine gate_dst (N:=8) rfl ?_);refine box_ev (N:=8) (cs:=#[.bool false,.slice none 0 0,.int .i64 0]) (t:=43) ?_;intro gb759 hg w27 hbox hb;replace HO742:=Aside0.mk (Kd.R_below (rr_ HO742) hb);replace HO749:=Aside0.mk (Kd.R_below (rr_ HO749) hb);replace HO756:=Aside0.mk (Kd.R_below (rr_ HO756) hb);have BK759:=Aside0.mk (hbox);have GW759:=ge_ HB hg;have GE759:=ge_ HB hg;replace HB:=bs_ HB hb;have NB737_759:=nlt_ BK737 hg;have NB759_737:=ngt_ BK737 hg;replace BK737:=kb_ BK737 hb;have NB738_759:=nlt_ BK738 hg;have NB759_738:=ngt_ BK738 hg;replace BK738:=kb_ BK738 hb;have NB745_759:=nlt_ BK745 hg;have NB759_745:=ngt_ BK745 hg;replace BK745:=kb_ BK745 hb;have NB752_759:=nlt_ BK752 hg;have NB759_752:=ngt_ BK752 hg;replace BK752:=kb_ BK752 hb;clear hb hbox hg;have hnb28:=NB759_737.out;have hnc28:=NB737_759.out;have hnb29:=NB759_738.out;have hnc29:=NB738_759.out;have hnb30:=NB759_745.out;have hnc30:=NB745_759.out;have hnb31:=NB759_752.out;have hnc31:=NB752_759.out;have hcz32_0:=bc_ BK759 0;have hcz32_1:=bc_ BK759 1;have hcz32_2:=bc_ BK759 2;have hfz32_0:=bz_ BK759 0;have hfz32_1:=bz_ BK759 1;have hfz32_2:=bz_ BK759 2;obtain ⟨Ao33,co33,eo33⟩:=Kd.R_slice HO756.out;subst eo33;have hcz34_0:=bc_ BK738 0;have hcz34_1:=bc_ BK738 1;have hcz34_2:=bc_ BK738 2;have hfz34_0:=bz_ BK738 0;have hfz34_1:=bz_ BK738 1;have hfz34_2:=bz_ BK738 2))
   refine bodyPost_ret (results_ct rfl _ _ gb738 43 #[.bool t753,.slice Ao33 t754.length co33,.int .i64 t757] (0,0) _ rfl (by (with_reducible repeat (first|apply bN|apply bD|apply bA));refine blk_put (cs:=#[.bool t753,.slice Ao33 t754.length co33,.int .i64 0]) ?_ 2 _ rfl;(with_reducible repeat (first|apply bN|apply bD|apply bA));refine blk_put (cs:=#[.bool t753,.slice none 0 0,.int .i64 0]) ?_ 1 _ rfl;(with_reducible repeat (first|apply bN|apply bD|apply bA));refine blk_put (cs:=#[.bool false,.slice none 0 0,.int .i64 0]) ?_ 0 _ rfl;(with_reducible repeat (first|apply bN|apply bD|apply bA));refine blk_far ?_ NB738_759.out _;(with_reducible repeat (first|apply bN|apply bD|apply bA));refine blk_far ?_ NB738_759.out _;(with_reducible repeat (first|apply bN|apply bD|apply bA));refine blk_far ?_ NB738_759.out _;exact bk_ BK738) Try.underlying43 rfl (by kernel_rfl)) rfl ?_
   exact ⟨_,rf_,by (with_reducible repeat (first|apply rA|apply rN|apply rD));exact Kd.R_mono (Kd.R_far (p:=⟨gb738,2,none⟩) (Kd.R_far (p:=⟨gb738,1,none⟩) (Kd.R_far (p:=⟨gb738,0,none⟩) (Kd.R_far (p:=⟨gb759,2,none⟩) (Kd.R_far (p:=⟨gb759,1,none⟩) (Kd.R_far (p:=⟨gb759,0,none⟩) (Kd.R_types (Kd.R_types HO756.out BK759.out (by decide)) BK738.out (by decide)) (fun _ hk=>hk.1.2) (.bool t753)) (fun _ hk=>hk.1.2) (.slice Ao33 t754.length co33)) (fun _ hk=>hk.1.2) (.int .i64 t757)) (fun _ hk=>hk.2) (.bool t753)) (fun _ hk=>hk.2) (.slice Ao33 t754.length co33)) (fun _ hk=>hk.2) (.int .i64 t757)) (fun _ hk=>trivial),bl_ HB⟩
  ·replace c5:=Bool.eq_false_iff.mpr c5
   subst c5
   have H1 : (some (false,([] : List Int),0,false)) = some (r1,r2,r3,r4):=by rw [if_neg (show ¬ (false = true) by decide)] at H;exact H
   clear H
   have H:=H1
   clear H1
   simp only [Option.some.injEq,Prod.mk.injEq] at H
   obtain ⟨rfl,rfl,rfl,rfl⟩:=H
   go_enter Try.func34,Try.ntmps34
   go_wp2_with (first|((with_reducible refine gate_dst (N:=1) rfl ?_);refine box_ev (N:=1) (cs:=#[.float .f64 a0_0,.float .f64 a0_1]) (t:=30) ?_;intro gb737 hg w35 hbox hb;have BK737:=Aside0.mk (hbox);have GW737:=ge_ HB hg;have GE737:=ge_ HB hg;replace HB:=bs_ HB hb;clear hb hbox hg)|((with_reducible refine gate_dst (N:=2) rfl ?_);refine box_ev (N:=2) (cs:=#[.bool false,.slice none 0 0,.int .i64 0]) (t:=43) ?_;intro gb738 hg w36 hbox hb;have BK738:=Aside0.mk (hbox);have GW738:=ge_ HB hg;have GE738:=ge_ HB hg;replace HB:=bs_ HB hb;have NB737_738:=nlt_ BK737 hg;have NB738_737:=ngt_ BK737 hg;replace BK737:=kb_ BK737 hb;clear hb hbox hg;have hnb37:=NB737_738.out;have hnc37:=NB738_737.out;have hcz38_0:=bc_ BK737 0;have hcz38_1:=bc_ BK737 1;have hfz38_0:=bz_ BK737 0;have hfz38_1:=bz_ BK737 1)|((with_reducible refine gate_callee (f:=29) rfl ?_);refine goesM (some 13) Try.func29 #[.float .f64 a0_0] ?_;(with_reducible refine (l05_finite.calls k a0_0 t739 t740 t743 true _ A2.out).mono ?_);rintro e w39 ⟨v741,rfl,ho0,hb⟩;refine ⟨_,rfl,?_⟩;have HO742:=Aside0.mk (Kd.R_lower ho0 (below_size (bl_ HB)));replace BK737:=kb_ BK737 hb;replace BK738:=kb_ BK738 hb;replace HB:=bs_ HB hb;(try clear hb);(try clear hb2);(try clear hk);(try clear hi);(try clear ho0))|((with_reducible refine gate_dst (N:=4) rfl ?_);refine box_ev (N:=4) (cs:=#[.bool false,.slice none 0 0,.int .i64 0]) (t:=43) ?_;intro gb745 hg w40 hbox hb;replace HO742:=Aside0.mk (Kd.R_below (rr_ HO742) hb);have BK745:=Aside0.mk (hbox);have GW745:=ge_ HB hg;have GE745:=ge_ HB hg;replace HB:=bs_ HB hb;have NB737_745:=nlt_ BK737 hg;have NB745_737:=ngt_ BK737 hg;replace BK737:=kb_ BK737 hb;have NB738_745:=nlt_ BK738 hg;have NB745_738:=ngt_ BK738 hg;replace BK738:=kb_ BK738 hb;clear hb hbox hg;have hnb41:=NB745_737.out;have hnc41:=NB737_745.out;have hnb42:=NB745_738.out;have hnc42:=NB738_745.out;have hcz43_0:=bc_ BK745 0;have hcz43_1:=bc_ BK745 1;have hcz43_2:=bc_ BK745 2;have hfz43_0:=bz_ BK745 0;have hfz43_1:=bz_ BK745 1;have hfz43_2:=bz_ BK745 2;obtain ⟨Ao44,co44,eo44⟩:=Kd.R_slice HO742.out;subst eo44;have hcz45_0:=bc_ BK737 0;have hcz45_1:=bc_ BK737 1;have hfz45_0:=bz_ BK737 0;have hfz45_1:=bz_ BK737 1)|((with_reducible refine gate_callee (f:=29) rfl ?_);refine goesM (some 19) Try.func29 #[.float .f64 a0_1] ?_;(with_reducible refine (l05_finite.calls k a0_1 t746 t747 t750 false _ A3.out).mono ?_);rintro e w46 ⟨v748,rfl,ho0,hb⟩;refine ⟨_,rfl,?_⟩;have HO749:=Aside0.mk (Kd.R_lower (Kd.R_new' ho0 (Kd.R_lt (by (with_reducible repeat (first|apply rA|apply rN|apply rD));exact (Kd.R_mono (Kd.R_far (p:=⟨gb745,2,none⟩) (Kd.R_far (p:=⟨gb745,1,none⟩) (Kd.R_far (p:=⟨gb745,0,none⟩) (Kd.R_types HO742.out BK745.out (by decide)) (fun _ hk=>hk.2) (.bool t739)) (fun _ hk=>hk.2) (.slice Ao44 t740.length co44)) (fun _ hk=>hk.2) (.int .i64 t743)) (fun _ h_=>h_.1))))) (below_size (bl_ HB)));replace HO742:=Aside0.mk (Kd.R_elder' (by (with_reducible repeat (first|apply rA|apply rN|apply rD));exact (Kd.R_mono (Kd.R_far (p:=⟨gb745,2,none⟩) (Kd.R_far (p:=⟨gb745,1,none⟩) (Kd.R_far (p:=⟨gb745,0,none⟩) (Kd.R_types HO742.out BK745.out (by decide)) (fun _ hk=>hk.2) (.bool t739)) (fun _ hk=>hk.2) (.slice Ao44 t740.length co44)) (fun _ hk=>hk.2) (.int .i64 t743)) (fun _ h_=>h_.1))) (Kd.R_base ho0) hb);replace BK737:=Aside0.mk (blk_below (g:=gb737) (o:=.cells #[.float .f64 a0_0,.float .f64 a0_1] 30 (0,0)) (by (with_reducible repeat (first|apply bN|apply bD|apply bA));refine blk_far ?_ NB737_745.out _;(with_reducible repeat (first|apply bN|apply bD|apply bA));refine blk_far ?_ NB737_745.out _;(with_reducible repeat (first|apply bN|apply bD|apply bA));refine blk_far ?_ NB737_745.out _;exact bk_ BK737) hb);replace BK738:=Aside0.mk (blk_below (g:=gb738) (o:=.cells #[.bool false,.slice none 0 0,.int .i64 0] 43 (0,0)) (by (with_reducible repeat (first|apply bN|apply bD|apply bA));refine blk_far ?_ NB738_745.out _;(with_reducible repeat (first|apply bN|apply bD|apply bA));refine blk_far ?_ NB738_745.out _;(with_reducible repeat (first|apply bN|apply bD|apply bA));refine blk_far ?_ NB738_745.out _;exact bk_ BK738) hb);replace BK745:=Aside0.mk (blk_below (g:=gb745) (o:=.cells #[.bool t739,.slice Ao44 t740.length co44,.int .i64 t743] 43 (0,0)) (by (with_reducible repeat (first|apply bN|apply bD|apply bA));refine blk_put (cs:=#[.bool t739,.slice Ao44 t740.length co44,.int .i64 0]) ?_ 2 _ rfl;(with_reducible repeat (first|apply bN|apply bD|apply bA));refine blk_put (cs:=#[.bool t739,.slice none 0 0,.int .i64 0]) ?_ 1 _ rfl;(with_reducible repeat (first|apply bN|apply bD|apply bA));refine blk_put (cs:=#[.bool false,.slice none 0 0,.int .i64 0]) ?_ 0 _ rfl;exact bk_ BK745) hb);replace HB:=bs_ HB hb;(try clear hb);(try clear hb2);(try clear hk);(try clear hi);(try clear ho0))|((with_reducible refine gate_dst (N:=6) rfl ?_);refine box_ev (N:=6) (cs:=#[.bool false,.slice none 0 0,.int .i64 0]) (t:=43) ?_;intro gb752 hg w47 hbox hb;replace HO742:=Aside0.mk (Kd.R_below (rr_ HO742) hb);replace HO749:=Aside0.mk (Kd.R_below (rr_ HO749) hb);have BK752:=Aside0.mk (hbox);have GW752:=ge_ HB hg;have GE752:=ge_ HB hg;replace HB:=bs_ HB hb;have NB737_752:=nlt_ BK737 hg;have NB752_737:=ngt_ BK737 hg;replace BK737:=kb_ BK737 hb;have NB738_752:=nlt_ BK738 hg;have NB752_738:=ngt_ BK738 hg;replace BK738:=kb_ BK738 hb;have NB745_752:=nlt_ BK745 hg;have NB752_745:=ngt_ BK745 hg;replace BK745:=kb_ BK745 hb;clear hb hbox hg;have hnb48:=NB752_737.out;have hnc48:=NB737_752.out;have hnb49:=NB752_738.out;have hnc49:=NB738_752.out;have hnb50:=NB752_745.out;have hnc50:=NB745_752.out;have hcz51_0:=bc_ BK752 0;have hcz51_1:=bc_ BK752 1;have hcz51_2:=bc_ BK752 2;have hfz51_0:=bz_ BK752 0;have hfz51_1:=bz_ BK752 1;have hfz51_2:=bz_ BK752 2;obtain ⟨Ao52,co52,eo52⟩:=Kd.R_slice HO749.out;subst eo52;have hcz53_0:=bc_ BK738 0;have hcz53_1:=bc_ BK738 1;have hcz53_2:=bc_ BK738 2;have hfz53_0:=bz_ BK738 0;have hfz53_1:=bz_ BK738 1;have hfz53_2:=bz_ BK738 2))
   refine bodyPost_ret (results_ct rfl _ _ gb738 43 #[.bool false,.slice none 0 0,.int .i64 0] (0,0) _ rfl (by (with_reducible repeat (first|apply bN|apply bD|apply bA));refine blk_put (cs:=#[.bool false,.slice none 0 0,.int .i64 0]) ?_ 2 _ rfl;(with_reducible repeat (first|apply bN|apply bD|apply bA));refine blk_put (cs:=#[.bool false,.slice none 0 0,.int .i64 0]) ?_ 1 _ rfl;(with_reducible repeat (first|apply bN|apply bD|apply bA));refine blk_put (cs:=#[.bool false,.slice none 0 0,.int .i64 0]) ?_ 0 _ rfl;(with_reducible repeat (first|apply bN|apply bD|apply bA));refine blk_far ?_ NB738_752.out _;(with_reducible repeat (first|apply bN|apply bD|apply bA));refine blk_far ?_ NB738_752.out _;(with_reducible repeat (first|apply bN|apply bD|apply bA));refine blk_far ?_ NB738_752.out _;exact bk_ BK738) Try.underlying43 rfl (by kernel_rfl)) rfl ?_
   exact ⟨_,rf_,by first|exact Kd.R_nil _ _ _ _ _|exact Kd.N_nil _ _ _ _ _|exact Kd.V_nil _ _ _ _ _|exact Kd.Q_nil _ _ _ _ _|exact Kd.S_nil _ _ _ _ _,bl_ HB⟩
 ·replace c4:=Bool.eq_false_iff.mpr c4
  subst c4
  have H1 : (some (false,([] : List Int),0,false)) = some (r1,r2,r3,r4):=by rw [if_neg (show ¬ (false = true) by decide)] at H;exact H
  clear H
  have H:=H1
  clear H1
  simp only [Option.some.injEq,Prod.mk.injEq] at H
  obtain ⟨rfl,rfl,rfl,rfl⟩:=H
  go_enter Try.func34,Try.ntmps34
  go_wp2_with (first|((with_reducible refine gate_dst (N:=1) rfl ?_);refine box_ev (N:=1) (cs:=#[.float .f64 a0_0,.float .f64 a0_1]) (t:=30) ?_;intro gb737 hg w54 hbox hb;have BK737:=Aside0.mk (hbox);have GW737:=ge_ HB hg;have GE737:=ge_ HB hg;replace HB:=bs_ HB hb;clear hb hbox hg)|((with_reducible refine gate_dst (N:=2) rfl ?_);refine box_ev (N:=2) (cs:=#[.bool false,.slice none 0 0,.int .i64 0]) (t:=43) ?_;intro gb738 hg w55 hbox hb;have BK738:=Aside0.mk (hbox);have GW738:=ge_ HB hg;have GE738:=ge_ HB hg;replace HB:=bs_ HB hb;have NB737_738:=nlt_ BK737 hg;have NB738_737:=ngt_ BK737 hg;replace BK737:=kb_ BK737 hb;clear hb hbox hg;have hnb56:=NB737_738.out;have hnc56:=NB738_737.out;have hcz57_0:=bc_ BK737 0;have hcz57_1:=bc_ BK737 1;have hfz57_0:=bz_ BK737 0;have hfz57_1:=bz_ BK737 1)|((with_reducible refine gate_callee (f:=29) rfl ?_);refine goesM (some 13) Try.func29 #[.float .f64 a0_0] ?_;(with_reducible refine (l05_finite.calls k a0_0 t739 t740 t743 false _ A2.out).mono ?_);rintro e w58 ⟨v741,rfl,ho0,hb⟩;refine ⟨_,rfl,?_⟩;have HO742:=Aside0.mk (Kd.R_lower ho0 (below_size (bl_ HB)));replace BK737:=kb_ BK737 hb;replace BK738:=kb_ BK738 hb;replace HB:=bs_ HB hb;(try clear hb);(try clear hb2);(try clear hk);(try clear hi);(try clear ho0))|((with_reducible refine gate_dst (N:=4) rfl ?_);refine box_ev (N:=4) (cs:=#[.bool false,.slice none 0 0,.int .i64 0]) (t:=43) ?_;intro gb745 hg w59 hbox hb;replace HO742:=Aside0.mk (Kd.R_below (rr_ HO742) hb);have BK745:=Aside0.mk (hbox);have GW745:=ge_ HB hg;have GE745:=ge_ HB hg;replace HB:=bs_ HB hb;have NB737_745:=nlt_ BK737 hg;have NB745_737:=ngt_ BK737 hg;replace BK737:=kb_ BK737 hb;have NB738_745:=nlt_ BK738 hg;have NB745_738:=ngt_ BK738 hg;replace BK738:=kb_ BK738 hb;clear hb hbox hg;have hnb60:=NB745_737.out;have hnc60:=NB737_745.out;have hnb61:=NB745_738.out;have hnc61:=NB738_745.out;have hcz62_0:=bc_ BK745 0;have hcz62_1:=bc_ BK745 1;have hcz62_2:=bc_ BK745 2;have hfz62_0:=bz_ BK745 0;have hfz62_1:=bz_ BK745 1;have hfz62_2:=bz_ BK745 2;obtain ⟨Ao63,co63,eo63⟩:=Kd.R_slice HO742.out;subst eo63;have hcz64_0:=bc_ BK737 0;have hcz64_1:=bc_ BK737 1;have hfz64_0:=bz_ BK737 0;have hfz64_1:=bz_ BK737 1)|((with_reducible refine gate_callee (f:=29) rfl ?_);refine goesM (some 19) Try.func29 #[.float .f64 a0_1] ?_;(with_reducible refine (l05_finite.calls k a0_1 t746 t747 t750 t751 _ A3.out).mono ?_);rintro e w65 ⟨v748,rfl,ho0,hb⟩;refine ⟨_,rfl,?_⟩;have HO749:=Aside0.mk (Kd.R_lower (Kd.R_new' ho0 (Kd.R_lt (by (with_reducible repeat (first|apply rA|apply rN|apply rD));exact (Kd.R_mono (Kd.R_far (p:=⟨gb745,2,none⟩) (Kd.R_far (p:=⟨gb745,1,none⟩) (Kd.R_far (p:=⟨gb745,0,none⟩) (Kd.R_types HO742.out BK745.out (by decide)) (fun _ hk=>hk.2) (.bool t739)) (fun _ hk=>hk.2) (.slice Ao63 t740.length co63)) (fun _ hk=>hk.2) (.int .i64 t743)) (fun _ h_=>h_.1))))) (below_size (bl_ HB)));replace HO742:=Aside0.mk (Kd.R_elder' (by (with_reducible repeat (first|apply rA|apply rN|apply rD));exact (Kd.R_mono (Kd.R_far (p:=⟨gb745,2,none⟩) (Kd.R_far (p:=⟨gb745,1,none⟩) (Kd.R_far (p:=⟨gb745,0,none⟩) (Kd.R_types HO742.out BK745.out (by decide)) (fun _ hk=>hk.2) (.bool t739)) (fun _ hk=>hk.2) (.slice Ao63 t740.length co63)) (fun _ hk=>hk.2) (.int .i64 t743)) (fun _ h_=>h_.1))) (Kd.R_base ho0) hb);replace BK737:=Aside0.mk (blk_below (g:=gb737) (o:=.cells #[.float .f64 a0_0,.float .f64 a0_1] 30 (0,0)) (by (with_reducible repeat (first|apply bN|apply bD|apply bA));refine blk_far ?_ NB737_745.out _;(with_reducible repeat (first|apply bN|apply bD|apply bA));refine blk_far ?_ NB737_745.out _;(with_reducible repeat (first|apply bN|apply bD|apply bA));refine blk_far ?_ NB737_745.out _;exact bk_ BK737) hb);replace BK738:=Aside0.mk (blk_below (g:=gb738) (o:=.cells #[.bool false,.slice none 0 0,.int .i64 0] 43 (0,0)) (by (with_reducible repeat (first|apply bN|apply bD|apply bA));refine blk_far ?_ NB738_745.out _;(with_reducible repeat (first|apply bN|apply bD|apply bA));refine blk_far ?_ NB738_745.out _;(with_reducible repeat (first|apply bN|apply bD|apply bA));refine blk_far ?_ NB738_745.out _;exact bk_ BK738) hb);replace BK745:=Aside0.mk (blk_below (g:=gb745) (o:=.cells #[.bool t739,.slice Ao63 t740.length co63,.int .i64 t743] 43 (0,0)) (by (with_reducible repeat (first|apply bN|apply bD|apply bA));refine blk_put (cs:=#[.bool t739,.slice Ao63 t740.length co63,.int .i64 0]) ?_ 2 _ rfl;(with_reducible repeat (first|apply bN|apply bD|apply bA));refine blk_put (cs:=#[.bool t739,.slice none 0 0,.int .i64 0]) ?_ 1 _ rfl;(with_reducible repeat (first|apply bN|apply bD|apply bA));refine blk_put (cs:=#[.bool false,.slice none 0 0,.int .i64 0]) ?_ 0 _ rfl;exact bk_ BK745) hb);replace HB:=bs_ HB hb;(try clear hb);(try clear hb2);(try clear hk);(try clear hi);(try clear ho0))|((with_reducible refine gate_dst (N:=6) rfl ?_);refine box_ev (N:=6) (cs:=#[.bool false,.slice none 0 0,.int .i64 0]) (t:=43) ?_;intro gb752 hg w66 hbox hb;replace HO742:=Aside0.mk (Kd.R_below (rr_ HO742) hb);replace HO749:=Aside0.mk (Kd.R_below (rr_ HO749) hb);have BK752:=Aside0.mk (hbox);have GW752:=ge_ HB hg;have GE752:=ge_ HB hg;replace HB:=bs_ HB hb;have NB737_752:=nlt_ BK737 hg;have NB752_737:=ngt_ BK737 hg;replace BK737:=kb_ BK737 hb;have NB738_752:=nlt_ BK738 hg;have NB752_738:=ngt_ BK738 hg;replace BK738:=kb_ BK738 hb;have NB745_752:=nlt_ BK745 hg;have NB752_745:=ngt_ BK745 hg;replace BK745:=kb_ BK745 hb;clear hb hbox hg;have hnb67:=NB752_737.out;have hnc67:=NB737_752.out;have hnb68:=NB752_738.out;have hnc68:=NB738_752.out;have hnb69:=NB752_745.out;have hnc69:=NB745_752.out;have hcz70_0:=bc_ BK752 0;have hcz70_1:=bc_ BK752 1;have hcz70_2:=bc_ BK752 2;have hfz70_0:=bz_ BK752 0;have hfz70_1:=bz_ BK752 1;have hfz70_2:=bz_ BK752 2;obtain ⟨Ao71,co71,eo71⟩:=Kd.R_slice HO749.out;subst eo71;have hcz72_0:=bc_ BK738 0;have hcz72_1:=bc_ BK738 1;have hcz72_2:=bc_ BK738 2;have hfz72_0:=bz_ BK738 0;have hfz72_1:=bz_ BK738 1;have hfz72_2:=bz_ BK738 2))
  refine bodyPost_ret (results_ct rfl _ _ gb738 43 #[.bool false,.slice none 0 0,.int .i64 0] (0,0) _ rfl (by (with_reducible repeat (first|apply bN|apply bD|apply bA));refine blk_put (cs:=#[.bool false,.slice none 0 0,.int .i64 0]) ?_ 2 _ rfl;(with_reducible repeat (first|apply bN|apply bD|apply bA));refine blk_put (cs:=#[.bool false,.slice none 0 0,.int .i64 0]) ?_ 1 _ rfl;(with_reducible repeat (first|apply bN|apply bD|apply bA));refine blk_put (cs:=#[.bool false,.slice none 0 0,.int .i64 0]) ?_ 0 _ rfl;(with_reducible repeat (first|apply bN|apply bD|apply bA));refine blk_far ?_ NB738_752.out _;(with_reducible repeat (first|apply bN|apply bD|apply bA));refine blk_far ?_ NB738_752.out _;(with_reducible repeat (first|apply bN|apply bD|apply bA));refine blk_far ?_ NB738_752.out _;exact bk_ BK738) Try.underlying43 rfl (by kernel_rfl)) rfl ?_
  exact ⟨_,rf_,by first|exact Kd.R_nil _ _ _ _ _|exact Kd.N_nil _ _ _ _ _|exact Kd.V_nil _ _ _ _ _|exact Kd.Q_nil _ _ _ _ _|exact Kd.S_nil _ _ _ _ _,bl_ HB⟩

end Go.Proofs.Ytdemanikmaafeaa.Pr
-- written by this session's own program (wip/fprint.py), which widens the kit's print by floats
namespace Go.Proofs.Ytdemanikmaafeaa.Pr
open Go.RowKit Go.Proofs.YtdemanikmaafeaaW.PrintWords Go.Proofs.YtdemanikmaafeaaW.PrintLast Go.Proofs.YtdemanikmaafeaaW.PrintMore
attribute [local go_sem] max2_int min2_int max_two min_two max_three min_three max_four min_four   -- for this text's walks alone
set_option linter.unusedVariables false
set_option linter.unusedSimpArgs false

def r03_Size_below.l0 : Nat → List Int → Int → Int → Int → Int → Int → Int → Option (Int)
 | 0, _, _, _, _, _, _, _ => none
 | k + 1, x1, x2, x7, x8, x459000, x459001, x459002 => if (IntKind.u64.wrap (x8 - x7)) > 1 then ((r03_Size_Number.f k x459000 x459001 x459002 (IntKind.u64.wrap (Int.tdiv (IntKind.u64.wrap (x7 + x8)) 2))).bind fun bt459 => ((r03_Against.f k bt459.1 bt459.2 x1 x2).bind fun t463 => (if t463 ≤ 0 then (r03_Size_below.l0 k x1 x2 (IntKind.u64.wrap (Int.tdiv (IntKind.u64.wrap (x7 + x8)) 2)) x8 x459000 x459001 x459002) else (r03_Size_below.l0 k x1 x2 x7 (IntKind.u64.wrap (Int.tdiv (IntKind.u64.wrap (x7 + x8)) 2)) x459000 x459001 x459002)))) else (some x7)
def r03_Size_below.f (k : Nat) (a0_0 : Int) (a0_1 : Int) (a0_2 : Int) (l1 : List Int) (a2 : Int) : Option (Int) := r03_Size_below.l0 k l1 a2 0 a0_2 a0_0 a0_1 a0_2
theorem r03_Size_below.mono_l : ∀ k, (∀ y0 y1 y2 y3 y4 y5 y6, LeO (r03_Size_below.l0 k y0 y1 y2 y3 y4 y5 y6) (r03_Size_below.l0 (k + 1) y0 y1 y2 y3 y4 y5 y6))
 | 0 => fun _ _ _ _ _ _ _ r h => by simp [r03_Size_below.l0] at h
 | k + 1 => by
  have ih0:=r03_Size_below.mono_l k
  ·intro y0 y1 y2 y3 y4 y5 y6
   unfold r03_Size_below.l0
   repeat' first
   | (with_reducible exact ih0 _ _ _ _ _ _ _)
   | (with_reducible exact r03_Against.mono _ _ _ _ _)
   | (with_reducible exact r03_Size_Number.mono _ _ _ _ _)
   | (with_reducible exact LeO.refl _)
   | (with_reducible exact LeO.none _)
   | (with_reducible refine LeO.ite ?_ ?_)
   | (with_reducible refine LeO.bind ?_ (fun _ => ?_))
   | exact ih0 _ _ _ _ _ _ _
   | exact r03_Against.mono _ _ _ _ _
   | exact r03_Size_Number.mono _ _ _ _ _
   | exact LeO.none _
   | refine LeO.ite ?_ ?_
   | refine LeO.bind ?_ (fun _ => ?_)
theorem r03_Size_below.mono : ∀ a0 a1 a2 a3 a4 k, LeO (r03_Size_below.f k a0 a1 a2 a3 a4) (r03_Size_below.f (k + 1) a0 a1 a2 a3 a4) := by
 intro a0 a1 a2 a3 a4 k
 have ih0:=r03_Size_below.mono_l k
 unfold r03_Size_below.f
 repeat' first
   | (with_reducible exact ih0 _ _ _ _ _ _ _)
   | (with_reducible exact r03_Against.mono _ _ _ _ _)
   | (with_reducible exact r03_Size_Number.mono _ _ _ _ _)
   | (with_reducible exact LeO.refl _)
   | (with_reducible exact LeO.none _)
   | (with_reducible refine LeO.ite ?_ ?_)
   | (with_reducible refine LeO.bind ?_ (fun _ => ?_))
   | exact ih0 _ _ _ _ _ _ _
   | exact r03_Against.mono _ _ _ _ _
   | exact r03_Size_Number.mono _ _ _ _ _
   | exact LeO.none _
   | refine LeO.ite ?_ ?_
   | refine LeO.bind ?_ (fun _ => ?_)
set_option maxHeartbeats 3000000 in
set_option maxRecDepth 100000 in
theorem r03_Size_below.calls (k : Nat) (a0_0 : Int) (a0_1 : Int) (a0_2 : Int) (A1 : Option Addr) (c1 : Nat) (l1 : List Int) (a2 : Int) (r : Int) (w : World) (hr1 : Kd.C (Kd.int .u32) w A1 l1.length l1) (hc1 : l1.length ≤ c1) (h : r03_Size_below.f k a0_0 a0_1 a0_2 l1 a2 = some r) :
  Calls Try.prog 85 #[.agg #[.int .i64 a0_0,.int .i64 a0_1,.int .u64 a0_2],.slice A1 l1.length c1,.int .i64 a2] w fun e w'=>e = .returned (.int .u64 r) ∧ Below w.heap.size w w':=by
 have hu83:=Try.underlying83
 have HR1:=Aside0.mk hr1
 have HC1:=Aside0.mk hc1
 clear hr1 hc1
 have HB:=Aside0.mk (Below.refl w.heap.size w)
 have H : (r03_Size_below.l0 k l1 a2 0 a0_2 a0_0 a0_1 a0_2) = some r:=h
 clear h
 have H':=Aside0.mk H
 clear H
 go_enter Try.func85,Try.ntmps85
 go_wp2_with (first|((with_reducible refine gate_dst (N:=3) rfl ?_);refine box_ev (N:=3) (cs:=#[.int .i64 a0_0,.int .i64 a0_1,.int .u64 a0_2]) (t:=83) ?_;intro gb458 hg w4 hbox hb;have BK458:=Aside0.mk (hbox);have GW458:=ge_ HB hg;have GE458:=ge_ HB hg;replace HB:=bs_ HB hb;clear hb hbox hg;have hcz5_0:=bc_ BK458 0;have hcz5_1:=bc_ BK458 1;have hcz5_2:=bc_ BK458 2;have hfz5_0:=bz_ BK458 0;have hfz5_1:=bz_ BK458 1;have hfz5_2:=bz_ BK458 2))
 go_loopg [7,8] k (fun kq v7 v8 w'=>∃ (x7_1 : Int) (x8_1 : Int),v7 = .int .u64 x7_1 ∧ v8 = .int .u64 x8_1 ∧ Aside0 (r03_Size_below.l0 kq l1 a2 x7_1 x8_1 a0_0 a0_1 a0_2 = some r) ∧ Aside0 (kq ≤ k) ∧ Aside0 (w'.heap[gb458]? = some (.cells #[.int .i64 a0_0,.int .i64 a0_1,.int .u64 a0_2] 83 (0,0))) ∧ Aside0 (Below w.heap.size w w'))
 case atStart=>exact ⟨(0),(a0_2),(by first|rfl|(simp;done)|(simp [*];done)),(by first|rfl|(simp;done)|(simp [*];done)),H',⟨Nat.le_refl _⟩,⟨bk_ BK458⟩,⟨bl_ HB⟩⟩
 case round =>
  clear H'
  try clear c1
  try clear p2
  try clear hcz5_0
  try clear hcz5_1
  try clear hcz5_2
  try clear hfz5_0
  try clear hfz5_1
  try clear hfz5_2
  obtain ⟨x7_1,x8_1,rfl,rfl,HA,HK1,BK458,HB⟩:=hrel
  cases gk with
  | zero => exact absurd HA.out (by simp [r03_Size_below.l0])
  | succ k1 =>
   have H:=HA.out
   clear HA
   simp only [r03_Size_below.l0] at H
   by_cases c6 : (IntKind.u64.wrap (x8_1 - x7_1)) > 1
   ·rw [if_pos c6] at H
    have c6b0 : decide (1 < (IntKind.u64.wrap (x8_1 - x7_1))) = true:=decide_eq_true c6
    clear c6
    obtain ⟨⟨t459,t462⟩,A7,H⟩:=ob_ H
    try dsimp only at H
    obtain ⟨t463,A8,H⟩:=ob_ H
    try dsimp only at H
    by_cases c9 : t463 ≤ 0
    ·rw [if_pos c9] at H
     have c9b0 : decide (t463 ≤ 0) = true:=decide_eq_true c9
     clear c9
     have H':=Aside0.mk H
     clear H
     have hcz10_0:=bc_ BK458 0
     have hcz10_1:=bc_ BK458 1
     have hcz10_2:=bc_ BK458 2
     have hfz10_0:=bz_ BK458 0
     have hfz10_1:=bz_ BK458 1
     have hfz10_2:=bz_ BK458 2
     go_wp2_with (first|((with_reducible refine gate_callee (f:=82) rfl ?_);refine goesM (some 25) Try.func82 #[.agg #[.int .i64 a0_0,.int .i64 a0_1,.int .u64 a0_2],.int .u64 (IntKind.u64.wrap (Int.tdiv (IntKind.u64.wrap (x7_1 + x8_1)) 2))] ?_;(with_reducible refine (r03_Size_Number.calls k1 a0_0 a0_1 a0_2 (IntKind.u64.wrap (Int.tdiv (IntKind.u64.wrap (x7_1 + x8_1)) 2)) t459 t462 _ A7.out).mono ?_);rintro e w11 ⟨v460,rfl,ho0,hb⟩;refine ⟨_,rfl,?_⟩;have HO461:=Aside0.mk (Kd.R_lower ho0 (below_size (bl_ HB)));replace BK458:=kb_ BK458 hb;replace HB:=bs_ HB hb;(try clear hb);(try clear hb2);(try clear hk);(try clear hi);(try clear ho0);obtain ⟨Ao12,co12,eo12⟩:=Kd.R_slice HO461.out;subst eo12)|((with_reducible refine gate_callee (f:=74) rfl ?_);refine goesM (some 32) Try.func74 #[.slice Ao12 t459.length co12,.int .i64 t462,.slice A1 l1.length c1,.int .i64 a2] ?_;(with_reducible refine (r03_Against.calls k1 _ _ t459 t462 _ _ l1 a2 t463 _ ?side1 ?side2 ?side3 ?side4 A8.out).mono ?_);(case side1=>repeat (first|exact (Kd.R_reads' HO461.out).2.2|(with_reducible first|apply cA|apply cN|apply cD)));(case side2=>exact (Kd.R_reads' HO461.out).2.1);(case side3=>repeat (first|exact (Kd.C_below HR1.out HB.out)|(with_reducible first|apply cA|apply cN|apply cD)));(case side4=>exact HC1.out);rintro e w13 ⟨rfl,hb⟩;refine ⟨_,rfl,?_⟩;replace HO461:=Aside0.mk (Kd.R_below (rr_ HO461) hb);replace BK458:=kb_ BK458 hb;replace HB:=bs_ HB hb;(try clear hb);(try clear hb2);(try clear hk);(try clear hi)))
     go_roundg k1
     case measure=>have:=HK1.out;omega
     case rel=>exact ⟨(IntKind.u64.wrap (Int.tdiv (IntKind.u64.wrap (x7_1 + x8_1)) 2)),(x8_1),(by first|rfl|(simp;done)|(simp [*];done)),(by first|rfl|(simp;done)|(simp [*];done)),H',⟨by have:=HK1.out;omega⟩,⟨bk_ BK458⟩,⟨bl_ HB⟩⟩
    ·rw [if_neg c9] at H
     have c9b0 : decide (t463 ≤ 0) = false:=decide_eq_false c9
     clear c9
     have H':=Aside0.mk H
     clear H
     have hcz14_0:=bc_ BK458 0
     have hcz14_1:=bc_ BK458 1
     have hcz14_2:=bc_ BK458 2
     have hfz14_0:=bz_ BK458 0
     have hfz14_1:=bz_ BK458 1
     have hfz14_2:=bz_ BK458 2
     go_wp2_with (first|((with_reducible refine gate_callee (f:=82) rfl ?_);refine goesM (some 25) Try.func82 #[.agg #[.int .i64 a0_0,.int .i64 a0_1,.int .u64 a0_2],.int .u64 (IntKind.u64.wrap (Int.tdiv (IntKind.u64.wrap (x7_1 + x8_1)) 2))] ?_;(with_reducible refine (r03_Size_Number.calls k1 a0_0 a0_1 a0_2 (IntKind.u64.wrap (Int.tdiv (IntKind.u64.wrap (x7_1 + x8_1)) 2)) t459 t462 _ A7.out).mono ?_);rintro e w15 ⟨v460,rfl,ho0,hb⟩;refine ⟨_,rfl,?_⟩;have HO461:=Aside0.mk (Kd.R_lower ho0 (below_size (bl_ HB)));replace BK458:=kb_ BK458 hb;replace HB:=bs_ HB hb;(try clear hb);(try clear hb2);(try clear hk);(try clear hi);(try clear ho0);obtain ⟨Ao16,co16,eo16⟩:=Kd.R_slice HO461.out;subst eo16)|((with_reducible refine gate_callee (f:=74) rfl ?_);refine goesM (some 32) Try.func74 #[.slice Ao16 t459.length co16,.int .i64 t462,.slice A1 l1.length c1,.int .i64 a2] ?_;(with_reducible refine (r03_Against.calls k1 _ _ t459 t462 _ _ l1 a2 t463 _ ?side1 ?side2 ?side3 ?side4 A8.out).mono ?_);(case side1=>repeat (first|exact (Kd.R_reads' HO461.out).2.2|(with_reducible first|apply cA|apply cN|apply cD)));(case side2=>exact (Kd.R_reads' HO461.out).2.1);(case side3=>repeat (first|exact (Kd.C_below HR1.out HB.out)|(with_reducible first|apply cA|apply cN|apply cD)));(case side4=>exact HC1.out);rintro e w17 ⟨rfl,hb⟩;refine ⟨_,rfl,?_⟩;replace HO461:=Aside0.mk (Kd.R_below (rr_ HO461) hb);replace BK458:=kb_ BK458 hb;replace HB:=bs_ HB hb;(try clear hb);(try clear hb2);(try clear hk);(try clear hi)))
     go_roundg k1
     case measure=>have:=HK1.out;omega
     case rel=>exact ⟨(x7_1),(IntKind.u64.wrap (Int.tdiv (IntKind.u64.wrap (x7_1 + x8_1)) 2)),(by first|rfl|(simp;done)|(simp [*];done)),(by first|rfl|(simp;done)|(simp [*];done)),H',⟨by have:=HK1.out;omega⟩,⟨bk_ BK458⟩,⟨bl_ HB⟩⟩
   ·rw [if_neg c6] at H
    have c6b0 : decide (1 < (IntKind.u64.wrap (x8_1 - x7_1))) = false:=decide_eq_false c6
    clear c6
    obtain rfl:=Option.some.inj H
    go_wp2
    go_ret
    exact ⟨rf_,bl_ HB⟩

def r03_Size_half.f (k : Nat) (a0_0 : Int) (a0_1 : Int) (a0_2 : Int) (a1 : Int) (l2 : List Int) (a3 : Int) : Option (Int) := (r03_Size_Number.f k a0_0 a0_1 a0_2 a1).bind fun bt465 => ((r03_Size_Number.f k a0_0 a0_1 a0_2 (IntKind.u64.wrap (a1 + 1))).bind fun bt469 => (if bt469.2 < bt465.2 then (some 0) else ((r02_Moved.f k bt469.1 (wrap64 (bt469.2 - bt465.2))).bind fun t473 => ((r02_Plus.f k bt465.1 t473).bind fun t476 => ((r02_Times.f k l2 (([2] : List Int))).bind fun t482 => ((r03_Against.f k t482 a3 t476 bt465.2).bind fun t485 => (some t485)))))))
theorem r03_Size_half.mono : ∀ a0 a1 a2 a3 a4 a5 k, LeO (r03_Size_half.f k a0 a1 a2 a3 a4 a5) (r03_Size_half.f (k + 1) a0 a1 a2 a3 a4 a5) := by
 intro a0 a1 a2 a3 a4 a5 k
 unfold r03_Size_half.f
 repeat' first
   | (with_reducible exact r02_Moved.mono _ _ _)
   | (with_reducible exact r02_Plus.mono _ _ _)
   | (with_reducible exact r02_Times.mono _ _ _)
   | (with_reducible exact r03_Against.mono _ _ _ _ _)
   | (with_reducible exact r03_Size_Number.mono _ _ _ _ _)
   | (with_reducible exact LeO.refl _)
   | (with_reducible exact LeO.none _)
   | (with_reducible refine LeO.ite ?_ ?_)
   | (with_reducible refine LeO.bind ?_ (fun _ => ?_))
   | exact r02_Moved.mono _ _ _
   | exact r02_Plus.mono _ _ _
   | exact r02_Times.mono _ _ _
   | exact r03_Against.mono _ _ _ _ _
   | exact r03_Size_Number.mono _ _ _ _ _
   | exact LeO.none _
   | refine LeO.ite ?_ ?_
   | refine LeO.bind ?_ (fun _ => ?_)
set_option maxHeartbeats 3000000 in
set_option maxRecDepth 100000 in
theorem r03_Size_half.calls (k : Nat) (a0_0 : Int) (a0_1 : Int) (a0_2 : Int) (a1 : Int) (A2 : Option Addr) (c2 : Nat) (l2 : List Int) (a3 : Int) (r : Int) (w : World) (hr2 : Kd.C (Kd.int .u32) w A2 l2.length l2) (hc2 : l2.length ≤ c2) (h : r03_Size_half.f k a0_0 a0_1 a0_2 a1 l2 a3 = some r) :
  Calls Try.prog 86 #[.agg #[.int .i64 a0_0,.int .i64 a0_1,.int .u64 a0_2],.int .u64 a1,.slice A2 l2.length c2,.int .i64 a3] w fun e w'=>e = .returned (.int .i64 r) ∧ Below w.heap.size w w':=by
 have hu83:=Try.underlying83
 have HR2:=Aside0.mk hr2
 have HC2:=Aside0.mk hc2
 clear hr2 hc2
 have HB:=Aside0.mk (Below.refl w.heap.size w)
 have H : ((r03_Size_Number.f k a0_0 a0_1 a0_2 a1).bind fun bt465=>((r03_Size_Number.f k a0_0 a0_1 a0_2 (IntKind.u64.wrap (a1 + 1))).bind fun bt469=>(if bt469.2 < bt465.2 then (some 0) else ((r02_Moved.f k bt469.1 (wrap64 (bt469.2 - bt465.2))).bind fun t473=>((r02_Plus.f k bt465.1 t473).bind fun t476=>((r02_Times.f k l2 (([2] : List Int))).bind fun t482=>((r03_Against.f k t482 a3 t476 bt465.2).bind fun t485=>(some t485)))))))) = some r:=h
 clear h
 obtain ⟨⟨t465,t468⟩,A5,H⟩:=ob_ H
 try dsimp only at H
 obtain ⟨⟨t469,t472⟩,A6,H⟩:=ob_ H
 try dsimp only at H
 by_cases c7 : t472 < t468
 ·rw [if_pos c7] at H
  have c7b0 : decide (t472 < t468) = true:=decide_eq_true c7
  clear c7
  obtain rfl:=Option.some.inj H
  go_enter Try.func86,Try.ntmps86
  go_wp2_with (first|((with_reducible refine gate_dst (N:=4) rfl ?_);refine box_ev (N:=4) (cs:=#[.int .i64 a0_0,.int .i64 a0_1,.int .u64 a0_2]) (t:=83) ?_;intro gb464 hg w8 hbox hb;have BK464:=Aside0.mk (hbox);have GW464:=ge_ HB hg;have GE464:=ge_ HB hg;replace HB:=bs_ HB hb;clear hb hbox hg;have hcz9_0:=bc_ BK464 0;have hcz9_1:=bc_ BK464 1;have hcz9_2:=bc_ BK464 2;have hfz9_0:=bz_ BK464 0;have hfz9_1:=bz_ BK464 1;have hfz9_2:=bz_ BK464 2)|((with_reducible refine gate_callee (f:=82) rfl ?_);refine goesM (some 17) Try.func82 #[.agg #[.int .i64 a0_0,.int .i64 a0_1,.int .u64 a0_2],.int .u64 a1] ?_;(with_reducible refine (r03_Size_Number.calls k a0_0 a0_1 a0_2 a1 t465 t468 _ A5.out).mono ?_);rintro e w10 ⟨v466,rfl,ho0,hb⟩;refine ⟨_,rfl,?_⟩;have HO467:=Aside0.mk (Kd.R_lower ho0 (below_size (bl_ HB)));replace BK464:=kb_ BK464 hb;replace HB:=bs_ HB hb;(try clear hb);(try clear hb2);(try clear hk);(try clear hi);(try clear ho0);have hcz11_0:=bc_ BK464 0;have hcz11_1:=bc_ BK464 1;have hcz11_2:=bc_ BK464 2;have hfz11_0:=bz_ BK464 0;have hfz11_1:=bz_ BK464 1;have hfz11_2:=bz_ BK464 2)|((with_reducible refine gate_callee (f:=82) rfl ?_);refine goesM (some 24) Try.func82 #[.agg #[.int .i64 a0_0,.int .i64 a0_1,.int .u64 a0_2],.int .u64 (IntKind.u64.wrap (a1 + 1))] ?_;(with_reducible refine (r03_Size_Number.calls k a0_0 a0_1 a0_2 (IntKind.u64.wrap (a1 + 1)) t469 t472 _ A6.out).mono ?_);rintro e w12 ⟨v470,rfl,ho0,hb⟩;refine ⟨_,rfl,?_⟩;have HO471:=Aside0.mk (Kd.R_lower (Kd.R_new' ho0 (Kd.R_lt (rr_ HO467))) (below_size (bl_ HB)));replace HO467:=Aside0.mk (Kd.R_elder' (rr_ HO467) (Kd.R_base ho0) hb);replace BK464:=kb_ BK464 hb;replace HB:=bs_ HB hb;(try clear hb);(try clear hb2);(try clear hk);(try clear hi);(try clear ho0)))
  go_ret
  exact ⟨rf_,bl_ HB⟩
 ·rw [if_neg c7] at H
  have c7b0 : decide (t472 < t468) = false:=decide_eq_false c7
  clear c7
  obtain ⟨t473,A13,H⟩:=ob_ H
  try dsimp only at H
  obtain ⟨t476,A14,H⟩:=ob_ H
  try dsimp only at H
  obtain ⟨y479,hy479⟩ : ∃ y_ : List Int,y_ = (([2] : List Int)):=⟨_,rfl⟩
  replace H : ((r02_Times.f k l2 y479).bind fun t482=>((r03_Against.f k t482 a3 t476 t468).bind fun t485=>(some t485))) = some r:=by first|(rw [hy479];with_reducible exact H)|(have H2_:=(Option.bind_some _ _).symm.trans H;rw [hy479];with_reducible exact H2_)|(have H2_:=(Option.bind_some _ _).symm.trans H;with_reducible exact H2_)|with_reducible exact H|(rw [hy479];exact H)|exact H
  have Ny479:=Aside0.mk hy479
  clear hy479
  obtain ⟨t482,A15,H⟩:=ob_ H
  try dsimp only at H
  obtain ⟨t485,A16,H⟩:=ob_ H
  try dsimp only at H
  obtain rfl:=Option.some.inj H
  go_enter Try.func86,Try.ntmps86
  go_wp2_with (first|((with_reducible refine gate_dst (N:=4) rfl ?_);refine box_ev (N:=4) (cs:=#[.int .i64 a0_0,.int .i64 a0_1,.int .u64 a0_2]) (t:=83) ?_;intro gb464 hg w17 hbox hb;have BK464:=Aside0.mk (hbox);have GW464:=ge_ HB hg;have GE464:=ge_ HB hg;replace HB:=bs_ HB hb;clear hb hbox hg;have hcz18_0:=bc_ BK464 0;have hcz18_1:=bc_ BK464 1;have hcz18_2:=bc_ BK464 2;have hfz18_0:=bz_ BK464 0;have hfz18_1:=bz_ BK464 1;have hfz18_2:=bz_ BK464 2)|((with_reducible refine gate_callee (f:=82) rfl ?_);refine goesM (some 17) Try.func82 #[.agg #[.int .i64 a0_0,.int .i64 a0_1,.int .u64 a0_2],.int .u64 a1] ?_;(with_reducible refine (r03_Size_Number.calls k a0_0 a0_1 a0_2 a1 t465 t468 _ A5.out).mono ?_);rintro e w19 ⟨v466,rfl,ho0,hb⟩;refine ⟨_,rfl,?_⟩;have HO467:=Aside0.mk (Kd.R_lower ho0 (below_size (bl_ HB)));replace BK464:=kb_ BK464 hb;replace HB:=bs_ HB hb;(try clear hb);(try clear hb2);(try clear hk);(try clear hi);(try clear ho0);have hcz20_0:=bc_ BK464 0;have hcz20_1:=bc_ BK464 1;have hcz20_2:=bc_ BK464 2;have hfz20_0:=bz_ BK464 0;have hfz20_1:=bz_ BK464 1;have hfz20_2:=bz_ BK464 2)|((with_reducible refine gate_callee (f:=82) rfl ?_);refine goesM (some 24) Try.func82 #[.agg #[.int .i64 a0_0,.int .i64 a0_1,.int .u64 a0_2],.int .u64 (IntKind.u64.wrap (a1 + 1))] ?_;(with_reducible refine (r03_Size_Number.calls k a0_0 a0_1 a0_2 (IntKind.u64.wrap (a1 + 1)) t469 t472 _ A6.out).mono ?_);rintro e w21 ⟨v470,rfl,ho0,hb⟩;refine ⟨_,rfl,?_⟩;have HO471:=Aside0.mk (Kd.R_lower (Kd.R_new' ho0 (Kd.R_lt (rr_ HO467))) (below_size (bl_ HB)));replace HO467:=Aside0.mk (Kd.R_elder' (rr_ HO467) (Kd.R_base ho0) hb);replace BK464:=kb_ BK464 hb;replace HB:=bs_ HB hb;(try clear hb);(try clear hb2);(try clear hk);(try clear hi);(try clear ho0);obtain ⟨Ao22,co22,eo22⟩:=Kd.R_slice HO471.out;subst eo22)|((with_reducible refine gate_callee (f:=58) rfl ?_);refine goesM (some 35) Try.func58 #[.slice Ao22 t469.length co22,.int .i64 (wrap64 (t472 - t468))] ?_;(with_reducible refine (r02_Moved.calls k _ _ t469 (wrap64 (t472 - t468)) t473 _ ?side1 ?side2 A13.out).mono ?_);(case side1=>repeat (first|exact (Kd.R_reads' HO471.out).2.2|(with_reducible first|apply cA|apply cN|apply cD)));(case side2=>exact (Kd.R_reads' HO471.out).2.1);rintro e w23 ⟨v474,rfl,ho0,hb⟩;refine ⟨_,rfl,?_⟩;have HO475:=Aside0.mk (Kd.R_lower (Kd.R_new' (Kd.R_new' ho0 (Kd.R_lt (rr_ HO467))) (Kd.R_lt (rr_ HO471))) (below_size (bl_ HB)));replace HO467:=Aside0.mk (Kd.R_elder' (rr_ HO467) (Kd.R_base ho0) hb);replace HO471:=Aside0.mk (Kd.R_elder' (rr_ HO471) (Kd.R_base ho0) hb);replace BK464:=kb_ BK464 hb;replace HB:=bs_ HB hb;(try clear hb);(try clear hb2);(try clear hk);(try clear hi);(try clear ho0);obtain ⟨Ao24,co24,eo24⟩:=Kd.R_slice HO467.out;subst eo24;obtain ⟨Ao25,co25,eo25⟩:=Kd.R_slice HO475.out;subst eo25)|((with_reducible refine gate_callee (f:=60) rfl ?_);refine goesM (some 36) Try.func60 #[.slice Ao24 t465.length co24,.slice Ao25 t473.length co25] ?_;(with_reducible refine (r02_Plus.calls k _ _ t465 _ _ t473 t476 _ ?side1 ?side2 ?side3 ?side4 A14.out).mono ?_);(case side1=>repeat (first|exact (Kd.R_reads' HO467.out).2.2|(with_reducible first|apply cA|apply cN|apply cD)));(case side2=>exact (Kd.R_reads' HO467.out).2.1);(case side3=>repeat (first|exact (Kd.R_reads' HO475.out).2.2|(with_reducible first|apply cA|apply cN|apply cD)));(case side4=>exact (Kd.R_reads' HO475.out).2.1);rintro e w26 ⟨v477,rfl,ho0,hb⟩;refine ⟨_,rfl,?_⟩;have HO478:=Aside0.mk (Kd.R_lower (Kd.R_new' (Kd.R_new' (Kd.R_new' ho0 (Kd.R_lt (rr_ HO467))) (Kd.R_lt (rr_ HO471))) (Kd.R_lt (rr_ HO475))) (below_size (bl_ HB)));replace HO467:=Aside0.mk (Kd.R_elder' (rr_ HO467) (Kd.R_base ho0) hb);replace HO471:=Aside0.mk (Kd.R_elder' (rr_ HO471) (Kd.R_base ho0) hb);replace HO475:=Aside0.mk (Kd.R_elder' (rr_ HO475) (Kd.R_base ho0) hb);replace BK464:=kb_ BK464 hb;replace HB:=bs_ HB hb;(try clear hb);(try clear hb2);(try clear hk);(try clear hi);(try clear ho0))|((with_reducible refine gate_dst (N:=38) rfl ?_);refine Kd.R_lit (Kd.int .u32) _ 72 ?hg (N:=38) ?hd (xs:=([2] : List Int)) (inner:=[.int .u32 2]) (ok:=fun _=>True) (okp:=fun _=>True) ?hr ?hp (fun _ hk=>hk) trivial (Below.refl _ _) (Nat.le_refl _) (by simp) ?_;(case hd=>rfl);(case hg=>rfl);(case hr=>first|(go_simp;done)|(go_simp;rfl));(case hp=>exact (Reps.one (show Kd.M (Kd.int .u32) _ _ _ 2 [.int .u32 2] from rfl) (Reps.none _ _)));intro v480 w27 ho28 hb hg_ hnew_;clear hg_ hnew_;(first|rw [← Ny479.out] at ho28|(simp only [Int.reduceToNat] at ho28;rw [← Ny479.out] at ho28));have HO481:=Aside0.mk (Kd.R_lower (Kd.R_new' (Kd.R_new' (Kd.R_new' (Kd.R_new' ho28 (Kd.R_lt (rr_ HO467))) (Kd.R_lt (rr_ HO471))) (Kd.R_lt (rr_ HO475))) (Kd.R_lt (rr_ HO478))) (below_size (bl_ HB)));replace HO467:=Aside0.mk (Kd.R_elder' (rr_ HO467) (Kd.R_base ho28) hb);replace HO471:=Aside0.mk (Kd.R_elder' (rr_ HO471) (Kd.R_base ho28) hb);replace HO475:=Aside0.mk (Kd.R_elder' (rr_ HO475) (Kd.R_base ho28) hb);replace HO478:=Aside0.mk (Kd.R_elder' (rr_ HO478) (Kd.R_base ho28) hb);replace BK464:=kb_ BK464 hb;replace HB:=bs_ HB hb;clear hb ho28;obtain ⟨Ao29,co29,eo29⟩:=Kd.R_slice HO481.out;subst eo29)|((with_reducible refine gate_callee (f:=63) rfl ?_);refine goesM (some 39) Try.func63 #[.slice A2 l2.length c2,.slice Ao29 y479.length co29] ?_;(with_reducible refine (r02_Times.calls k _ _ l2 _ _ y479 t482 _ ?side1 ?side2 ?side3 ?side4 A15.out).mono ?_);(case side1=>repeat (first|exact (Kd.C_below HR2.out HB.out)|(with_reducible first|apply cA|apply cN|apply cD)));(case side2=>exact HC2.out);(case side3=>repeat (first|exact (Kd.R_reads' HO481.out).2.2|(with_reducible first|apply cA|apply cN|apply cD)));(case side4=>exact (Kd.R_reads' HO481.out).2.1);rintro e w30 ⟨v483,rfl,ho0,hb⟩;refine ⟨_,rfl,?_⟩;have HO484:=Aside0.mk (Kd.R_lower (Kd.R_new' (Kd.R_new' (Kd.R_new' (Kd.R_new' (Kd.R_new' ho0 (Kd.R_lt (rr_ HO467))) (Kd.R_lt (rr_ HO471))) (Kd.R_lt (rr_ HO475))) (Kd.R_lt (rr_ HO478))) (Kd.R_lt (rr_ HO481))) (below_size (bl_ HB)));replace HO467:=Aside0.mk (Kd.R_elder' (rr_ HO467) (Kd.R_base ho0) hb);replace HO471:=Aside0.mk (Kd.R_elder' (rr_ HO471) (Kd.R_base ho0) hb);replace HO475:=Aside0.mk (Kd.R_elder' (rr_ HO475) (Kd.R_base ho0) hb);replace HO478:=Aside0.mk (Kd.R_elder' (rr_ HO478) (Kd.R_base ho0) hb);replace HO481:=Aside0.mk (Kd.R_elder' (rr_ HO481) (Kd.R_base ho0) hb);replace BK464:=kb_ BK464 hb;replace HB:=bs_ HB hb;(try clear hb);(try clear hb2);(try clear hk);(try clear hi);(try clear ho0);obtain ⟨Ao31,co31,eo31⟩:=Kd.R_slice HO484.out;subst eo31;obtain ⟨Ao32,co32,eo32⟩:=Kd.R_slice HO478.out;subst eo32)|((with_reducible refine gate_callee (f:=74) rfl ?_);refine goesM (some 43) Try.func74 #[.slice Ao31 t482.length co31,.int .i64 a3,.slice Ao32 t476.length co32,.int .i64 t468] ?_;(with_reducible refine (r03_Against.calls k _ _ t482 a3 _ _ t476 t468 t485 _ ?side1 ?side2 ?side3 ?side4 A16.out).mono ?_);(case side1=>repeat (first|exact (Kd.R_reads' HO484.out).2.2|(with_reducible first|apply cA|apply cN|apply cD)));(case side2=>exact (Kd.R_reads' HO484.out).2.1);(case side3=>repeat (first|exact (Kd.R_reads' HO478.out).2.2|(with_reducible first|apply cA|apply cN|apply cD)));(case side4=>exact (Kd.R_reads' HO478.out).2.1);rintro e w33 ⟨rfl,hb⟩;refine ⟨_,rfl,?_⟩;replace HO467:=Aside0.mk (Kd.R_below (rr_ HO467) hb);replace HO471:=Aside0.mk (Kd.R_below (rr_ HO471) hb);replace HO475:=Aside0.mk (Kd.R_below (rr_ HO475) hb);replace HO478:=Aside0.mk (Kd.R_below (rr_ HO478) hb);replace HO481:=Aside0.mk (Kd.R_below (rr_ HO481) hb);replace HO484:=Aside0.mk (Kd.R_below (rr_ HO484) hb);replace BK464:=kb_ BK464 hb;replace HB:=bs_ HB hb;(try clear hb);(try clear hb2);(try clear hk);(try clear hi)))
  go_ret
  exact ⟨rf_,bl_ HB⟩

end Go.Proofs.Ytdemanikmaafeaa.Pr
-- written by this session's own program (wip/fprint.py), which widens the kit's print by floats
namespace Go.Proofs.Ytdemanikmaafeaa.Pr
open Go.RowKit Go.Proofs.YtdemanikmaafeaaW.PrintWords Go.Proofs.YtdemanikmaafeaaW.PrintLast Go.Proofs.YtdemanikmaafeaaW.PrintMore
attribute [local go_sem] max2_int min2_int max_two min_two max_three min_three max_four min_four   -- for this text's walks alone
set_option linter.unusedVariables false
set_option linter.unusedSimpArgs false

def r03_Size_Nearby.f (k : Nat) (a0_0 : Int) (a0_1 : Int) (a0_2 : Int) (a1 : Bool) (l2 : List Int) (a3 : Int) (a4 : Int) : Option (Int) := (r03_Size_below.f k a0_0 a0_1 a0_2 l2 a3).bind fun t487 => ((r03_Size_Number.f k a0_0 a0_1 a0_2 t487).bind fun bt488 => ((r03_Against.f k bt488.1 bt488.2 l2 a3).bind fun t492 => (if t492 = 0 then (some t487) else ((r03_Size_half.f k a0_0 a0_1 a0_2 t487 l2 a3).bind fun t493 => (if a4 = 0 then (if t493 > 0 then (some (IntKind.u64.wrap (t487 + 1))) else (if t493 = 0 then (if (Int.tmod t487 2) = 1 then (some (IntKind.u64.wrap (t487 + 1))) else (some t487)) else (some t487))) else (if a4 = 2 then (if a1 = true then (some t487) else (some (IntKind.u64.wrap (t487 + 1)))) else (if a4 = 3 then (if a1 = true then (some (IntKind.u64.wrap (t487 + 1))) else (some t487)) else (if a4 = 4 then (if t493 ≥ 0 then (some (IntKind.u64.wrap (t487 + 1))) else (some t487)) else (some t487)))))))))
theorem r03_Size_Nearby.mono : ∀ a0 a1 a2 a3 a4 a5 a6 k, LeO (r03_Size_Nearby.f k a0 a1 a2 a3 a4 a5 a6) (r03_Size_Nearby.f (k + 1) a0 a1 a2 a3 a4 a5 a6) := by
 intro a0 a1 a2 a3 a4 a5 a6 k
 unfold r03_Size_Nearby.f
 repeat' first
   | (with_reducible exact r03_Against.mono _ _ _ _ _)
   | (with_reducible exact r03_Size_Number.mono _ _ _ _ _)
   | (with_reducible exact r03_Size_below.mono _ _ _ _ _ _)
   | (with_reducible exact r03_Size_half.mono _ _ _ _ _ _ _)
   | (with_reducible exact LeO.refl _)
   | (with_reducible exact LeO.none _)
   | (with_reducible refine LeO.ite ?_ ?_)
   | (with_reducible refine LeO.bind ?_ (fun _ => ?_))
   | exact r03_Against.mono _ _ _ _ _
   | exact r03_Size_Number.mono _ _ _ _ _
   | exact r03_Size_below.mono _ _ _ _ _ _
   | exact r03_Size_half.mono _ _ _ _ _ _ _
   | exact LeO.none _
   | refine LeO.ite ?_ ?_
   | refine LeO.bind ?_ (fun _ => ?_)
set_option maxHeartbeats 3000000 in
set_option maxRecDepth 100000 in
theorem r03_Size_Nearby.calls (k : Nat) (a0_0 : Int) (a0_1 : Int) (a0_2 : Int) (a1 : Bool) (A2 : Option Addr) (c2 : Nat) (l2 : List Int) (a3 : Int) (a4 : Int) (r : Int) (w : World) (hr2 : Kd.C (Kd.int .u32) w A2 l2.length l2) (hc2 : l2.length ≤ c2) (h : r03_Size_Nearby.f k a0_0 a0_1 a0_2 a1 l2 a3 a4 = some r) :
  Calls Try.prog 81 #[.agg #[.int .i64 a0_0,.int .i64 a0_1,.int .u64 a0_2],.bool a1,.slice A2 l2.length c2,.int .i64 a3,.int .i64 a4] w fun e w'=>e = .returned (.int .u64 r) ∧ Below w.heap.size w w':=by
 have hu83:=Try.underlying83
 have HR2:=Aside0.mk hr2
 have HC2:=Aside0.mk hc2
 clear hr2 hc2
 have HB:=Aside0.mk (Below.refl w.heap.size w)
 have H : ((r03_Size_below.f k a0_0 a0_1 a0_2 l2 a3).bind fun t487=>((r03_Size_Number.f k a0_0 a0_1 a0_2 t487).bind fun bt488=>((r03_Against.f k bt488.1 bt488.2 l2 a3).bind fun t492=>(if t492 = 0 then (some t487) else ((r03_Size_half.f k a0_0 a0_1 a0_2 t487 l2 a3).bind fun t493=>(if a4 = 0 then (if t493 > 0 then (some (IntKind.u64.wrap (t487 + 1))) else (if t493 = 0 then (if (Int.tmod t487 2) = 1 then (some (IntKind.u64.wrap (t487 + 1))) else (some t487)) else (some t487))) else (if a4 = 2 then (if a1 = true then (some t487) else (some (IntKind.u64.wrap (t487 + 1)))) else (if a4 = 3 then (if a1 = true then (some (IntKind.u64.wrap (t487 + 1))) else (some t487)) else (if a4 = 4 then (if t493 ≥ 0 then (some (IntKind.u64.wrap (t487 + 1))) else (some t487)) else (some t487)))))))))) = some r:=h
 clear h
 obtain ⟨t487,A6,H⟩:=ob_ H
 try dsimp only at H
 obtain ⟨⟨t488,t491⟩,A7,H⟩:=ob_ H
 try dsimp only at H
 obtain ⟨t492,A8,H⟩:=ob_ H
 try dsimp only at H
 by_cases c9 : t492 = 0
 ·rw [if_pos c9] at H
  have c9b0 : (t492 == 0) = true:=beq_iff_eq.mpr c9
  have c9b1 : (t492 != 0) = false:=bne_eq_false_iff_eq.mpr c9
  clear c9
  obtain rfl:=Option.some.inj H
  go_enter Try.func81,Try.ntmps81
  go_wp2_with (first|((with_reducible refine gate_dst (N:=5) rfl ?_);refine box_ev (N:=5) (cs:=#[.int .i64 a0_0,.int .i64 a0_1,.int .u64 a0_2]) (t:=83) ?_;intro gb486 hg w10 hbox hb;have BK486:=Aside0.mk (hbox);have GW486:=ge_ HB hg;have GE486:=ge_ HB hg;replace HB:=bs_ HB hb;clear hb hbox hg;have hcz11_0:=bc_ BK486 0;have hcz11_1:=bc_ BK486 1;have hcz11_2:=bc_ BK486 2;have hfz11_0:=bz_ BK486 0;have hfz11_1:=bz_ BK486 1;have hfz11_2:=bz_ BK486 2)|((with_reducible refine gate_callee (f:=85) rfl ?_);refine goesM (some 19) Try.func85 #[.agg #[.int .i64 a0_0,.int .i64 a0_1,.int .u64 a0_2],.slice A2 l2.length c2,.int .i64 a3] ?_;(with_reducible refine (r03_Size_below.calls k a0_0 a0_1 a0_2 _ _ l2 a3 t487 _ ?side1 ?side2 A6.out).mono ?_);(case side1=>repeat (first|exact (Kd.C_below HR2.out HB.out)|(with_reducible first|apply cA|apply cN|apply cD)));(case side2=>exact HC2.out);rintro e w12 ⟨rfl,hb⟩;refine ⟨_,rfl,?_⟩;replace BK486:=kb_ BK486 hb;replace HB:=bs_ HB hb;(try clear hb);(try clear hb2);(try clear hk);(try clear hi);have hcz13_0:=bc_ BK486 0;have hcz13_1:=bc_ BK486 1;have hcz13_2:=bc_ BK486 2;have hfz13_0:=bz_ BK486 0;have hfz13_1:=bz_ BK486 1;have hfz13_2:=bz_ BK486 2)|((with_reducible refine gate_callee (f:=82) rfl ?_);refine goesM (some 23) Try.func82 #[.agg #[.int .i64 a0_0,.int .i64 a0_1,.int .u64 a0_2],.int .u64 t487] ?_;(with_reducible refine (r03_Size_Number.calls k a0_0 a0_1 a0_2 t487 t488 t491 _ A7.out).mono ?_);rintro e w14 ⟨v489,rfl,ho0,hb⟩;refine ⟨_,rfl,?_⟩;have HO490:=Aside0.mk (Kd.R_lower ho0 (below_size (bl_ HB)));replace BK486:=kb_ BK486 hb;replace HB:=bs_ HB hb;(try clear hb);(try clear hb2);(try clear hk);(try clear hi);(try clear ho0);obtain ⟨Ao15,co15,eo15⟩:=Kd.R_slice HO490.out;subst eo15)|((with_reducible refine gate_callee (f:=74) rfl ?_);refine goesM (some 30) Try.func74 #[.slice Ao15 t488.length co15,.int .i64 t491,.slice A2 l2.length c2,.int .i64 a3] ?_;(with_reducible refine (r03_Against.calls k _ _ t488 t491 _ _ l2 a3 t492 _ ?side1 ?side2 ?side3 ?side4 A8.out).mono ?_);(case side1=>repeat (first|exact (Kd.R_reads' HO490.out).2.2|(with_reducible first|apply cA|apply cN|apply cD)));(case side2=>exact (Kd.R_reads' HO490.out).2.1);(case side3=>repeat (first|exact (Kd.C_below HR2.out HB.out)|(with_reducible first|apply cA|apply cN|apply cD)));(case side4=>exact HC2.out);rintro e w16 ⟨rfl,hb⟩;refine ⟨_,rfl,?_⟩;replace HO490:=Aside0.mk (Kd.R_below (rr_ HO490) hb);replace BK486:=kb_ BK486 hb;replace HB:=bs_ HB hb;(try clear hb);(try clear hb2);(try clear hk);(try clear hi)))
  go_ret
  exact ⟨rf_,bl_ HB⟩
 ·rw [if_neg c9] at H
  have c9b0 : (t492 == 0) = false:=beq_eq_false_iff_ne.mpr c9
  have c9b1 : (t492 != 0) = true:=bne_iff_ne.mpr c9
  obtain ⟨t493,A17,H⟩:=ob_ H
  try dsimp only at H
  by_cases c18 : a4 = 0
  ·rw [if_pos c18] at H
   have c18b0 : (a4 == 0) = true:=beq_iff_eq.mpr c18
   have c18b1 : (a4 != 0) = false:=bne_eq_false_iff_eq.mpr c18
   clear c18
   by_cases c19 : t493 > 0
   ·rw [if_pos c19] at H
    have c19b0 : decide (0 < t493) = true:=decide_eq_true c19
    clear c19
    obtain rfl:=Option.some.inj H
    go_enter Try.func81,Try.ntmps81
    go_wp2_with (first|((with_reducible refine gate_dst (N:=5) rfl ?_);refine box_ev (N:=5) (cs:=#[.int .i64 a0_0,.int .i64 a0_1,.int .u64 a0_2]) (t:=83) ?_;intro gb486 hg w20 hbox hb;have BK486:=Aside0.mk (hbox);have GW486:=ge_ HB hg;have GE486:=ge_ HB hg;replace HB:=bs_ HB hb;clear hb hbox hg;have hcz21_0:=bc_ BK486 0;have hcz21_1:=bc_ BK486 1;have hcz21_2:=bc_ BK486 2;have hfz21_0:=bz_ BK486 0;have hfz21_1:=bz_ BK486 1;have hfz21_2:=bz_ BK486 2)|((with_reducible refine gate_callee (f:=85) rfl ?_);refine goesM (some 19) Try.func85 #[.agg #[.int .i64 a0_0,.int .i64 a0_1,.int .u64 a0_2],.slice A2 l2.length c2,.int .i64 a3] ?_;(with_reducible refine (r03_Size_below.calls k a0_0 a0_1 a0_2 _ _ l2 a3 t487 _ ?side1 ?side2 A6.out).mono ?_);(case side1=>repeat (first|exact (Kd.C_below HR2.out HB.out)|(with_reducible first|apply cA|apply cN|apply cD)));(case side2=>exact HC2.out);rintro e w22 ⟨rfl,hb⟩;refine ⟨_,rfl,?_⟩;replace BK486:=kb_ BK486 hb;replace HB:=bs_ HB hb;(try clear hb);(try clear hb2);(try clear hk);(try clear hi);have hcz23_0:=bc_ BK486 0;have hcz23_1:=bc_ BK486 1;have hcz23_2:=bc_ BK486 2;have hfz23_0:=bz_ BK486 0;have hfz23_1:=bz_ BK486 1;have hfz23_2:=bz_ BK486 2)|((with_reducible refine gate_callee (f:=82) rfl ?_);refine goesM (some 23) Try.func82 #[.agg #[.int .i64 a0_0,.int .i64 a0_1,.int .u64 a0_2],.int .u64 t487] ?_;(with_reducible refine (r03_Size_Number.calls k a0_0 a0_1 a0_2 t487 t488 t491 _ A7.out).mono ?_);rintro e w24 ⟨v489,rfl,ho0,hb⟩;refine ⟨_,rfl,?_⟩;have HO490:=Aside0.mk (Kd.R_lower ho0 (below_size (bl_ HB)));replace BK486:=kb_ BK486 hb;replace HB:=bs_ HB hb;(try clear hb);(try clear hb2);(try clear hk);(try clear hi);(try clear ho0);obtain ⟨Ao25,co25,eo25⟩:=Kd.R_slice HO490.out;subst eo25)|((with_reducible refine gate_callee (f:=74) rfl ?_);refine goesM (some 30) Try.func74 #[.slice Ao25 t488.length co25,.int .i64 t491,.slice A2 l2.length c2,.int .i64 a3] ?_;(with_reducible refine (r03_Against.calls k _ _ t488 t491 _ _ l2 a3 t492 _ ?side1 ?side2 ?side3 ?side4 A8.out).mono ?_);(case side1=>repeat (first|exact (Kd.R_reads' HO490.out).2.2|(with_reducible first|apply cA|apply cN|apply cD)));(case side2=>exact (Kd.R_reads' HO490.out).2.1);(case side3=>repeat (first|exact (Kd.C_below HR2.out HB.out)|(with_reducible first|apply cA|apply cN|apply cD)));(case side4=>exact HC2.out);rintro e w26 ⟨rfl,hb⟩;refine ⟨_,rfl,?_⟩;replace HO490:=Aside0.mk (Kd.R_below (rr_ HO490) hb);replace BK486:=kb_ BK486 hb;replace HB:=bs_ HB hb;(try clear hb);(try clear hb2);(try clear hk);(try clear hi);have hcz27_0:=bc_ BK486 0;have hcz27_1:=bc_ BK486 1;have hcz27_2:=bc_ BK486 2;have hfz27_0:=bz_ BK486 0;have hfz27_1:=bz_ BK486 1;have hfz27_2:=bz_ BK486 2)|((with_reducible refine gate_callee (f:=86) rfl ?_);refine goesM (some 37) Try.func86 #[.agg #[.int .i64 a0_0,.int .i64 a0_1,.int .u64 a0_2],.int .u64 t487,.slice A2 l2.length c2,.int .i64 a3] ?_;(with_reducible refine (r03_Size_half.calls k a0_0 a0_1 a0_2 t487 _ _ l2 a3 t493 _ ?side1 ?side2 A17.out).mono ?_);(case side1=>repeat (first|exact (Kd.C_below HR2.out HB.out)|(with_reducible first|apply cA|apply cN|apply cD)));(case side2=>exact HC2.out);rintro e w28 ⟨rfl,hb⟩;refine ⟨_,rfl,?_⟩;replace HO490:=Aside0.mk (Kd.R_below (rr_ HO490) hb);replace BK486:=kb_ BK486 hb;replace HB:=bs_ HB hb;(try clear hb);(try clear hb2);(try clear hk);(try clear hi)))
    go_ret
    exact ⟨rf_,bl_ HB⟩
   ·rw [if_neg c19] at H
    have c19b0 : decide (0 < t493) = false:=decide_eq_false c19
    clear c19
    by_cases c29 : t493 = 0
    ·rw [if_pos c29] at H
     have c29b0 : (t493 == 0) = true:=beq_iff_eq.mpr c29
     have c29b1 : (t493 != 0) = false:=bne_eq_false_iff_eq.mpr c29
     clear c29
     by_cases c30 : (Int.tmod t487 2) = 1
     ·rw [if_pos c30] at H
      have c30b0 : ((Int.tmod t487 2) == 1) = true:=beq_iff_eq.mpr c30
      have c30b1 : ((Int.tmod t487 2) != 1) = false:=bne_eq_false_iff_eq.mpr c30
      clear c30
      obtain rfl:=Option.some.inj H
      go_enter Try.func81,Try.ntmps81
      go_wp2_with (first|((with_reducible refine gate_dst (N:=5) rfl ?_);refine box_ev (N:=5) (cs:=#[.int .i64 a0_0,.int .i64 a0_1,.int .u64 a0_2]) (t:=83) ?_;intro gb486 hg w31 hbox hb;have BK486:=Aside0.mk (hbox);have GW486:=ge_ HB hg;have GE486:=ge_ HB hg;replace HB:=bs_ HB hb;clear hb hbox hg;have hcz32_0:=bc_ BK486 0;have hcz32_1:=bc_ BK486 1;have hcz32_2:=bc_ BK486 2;have hfz32_0:=bz_ BK486 0;have hfz32_1:=bz_ BK486 1;have hfz32_2:=bz_ BK486 2)|((with_reducible refine gate_callee (f:=85) rfl ?_);refine goesM (some 19) Try.func85 #[.agg #[.int .i64 a0_0,.int .i64 a0_1,.int .u64 a0_2],.slice A2 l2.length c2,.int .i64 a3] ?_;(with_reducible refine (r03_Size_below.calls k a0_0 a0_1 a0_2 _ _ l2 a3 t487 _ ?side1 ?side2 A6.out).mono ?_);(case side1=>repeat (first|exact (Kd.C_below HR2.out HB.out)|(with_reducible first|apply cA|apply cN|apply cD)));(case side2=>exact HC2.out);rintro e w33 ⟨rfl,hb⟩;refine ⟨_,rfl,?_⟩;replace BK486:=kb_ BK486 hb;replace HB:=bs_ HB hb;(try clear hb);(try clear hb2);(try clear hk);(try clear hi);have hcz34_0:=bc_ BK486 0;have hcz34_1:=bc_ BK486 1;have hcz34_2:=bc_ BK486 2;have hfz34_0:=bz_ BK486 0;have hfz34_1:=bz_ BK486 1;have hfz34_2:=bz_ BK486 2)|((with_reducible refine gate_callee (f:=82) rfl ?_);refine goesM (some 23) Try.func82 #[.agg #[.int .i64 a0_0,.int .i64 a0_1,.int .u64 a0_2],.int .u64 t487] ?_;(with_reducible refine (r03_Size_Number.calls k a0_0 a0_1 a0_2 t487 t488 t491 _ A7.out).mono ?_);rintro e w35 ⟨v489,rfl,ho0,hb⟩;refine ⟨_,rfl,?_⟩;have HO490:=Aside0.mk (Kd.R_lower ho0 (below_size (bl_ HB)));replace BK486:=kb_ BK486 hb;replace HB:=bs_ HB hb;(try clear hb);(try clear hb2);(try clear hk);(try clear hi);(try clear ho0);obtain ⟨Ao36,co36,eo36⟩:=Kd.R_slice HO490.out;subst eo36)|((with_reducible refine gate_callee (f:=74) rfl ?_);refine goesM (some 30) Try.func74 #[.slice Ao36 t488.length co36,.int .i64 t491,.slice A2 l2.length c2,.int .i64 a3] ?_;(with_reducible refine (r03_Against.calls k _ _ t488 t491 _ _ l2 a3 t492 _ ?side1 ?side2 ?side3 ?side4 A8.out).mono ?_);(case side1=>repeat (first|exact (Kd.R_reads' HO490.out).2.2|(with_reducible first|apply cA|apply cN|apply cD)));(case side2=>exact (Kd.R_reads' HO490.out).2.1);(case side3=>repeat (first|exact (Kd.C_below HR2.out HB.out)|(with_reducible first|apply cA|apply cN|apply cD)));(case side4=>exact HC2.out);rintro e w37 ⟨rfl,hb⟩;refine ⟨_,rfl,?_⟩;replace HO490:=Aside0.mk (Kd.R_below (rr_ HO490) hb);replace BK486:=kb_ BK486 hb;replace HB:=bs_ HB hb;(try clear hb);(try clear hb2);(try clear hk);(try clear hi);have hcz38_0:=bc_ BK486 0;have hcz38_1:=bc_ BK486 1;have hcz38_2:=bc_ BK486 2;have hfz38_0:=bz_ BK486 0;have hfz38_1:=bz_ BK486 1;have hfz38_2:=bz_ BK486 2)|((with_reducible refine gate_callee (f:=86) rfl ?_);refine goesM (some 37) Try.func86 #[.agg #[.int .i64 a0_0,.int .i64 a0_1,.int .u64 a0_2],.int .u64 t487,.slice A2 l2.length c2,.int .i64 a3] ?_;(with_reducible refine (r03_Size_half.calls k a0_0 a0_1 a0_2 t487 _ _ l2 a3 t493 _ ?side1 ?side2 A17.out).mono ?_);(case side1=>repeat (first|exact (Kd.C_below HR2.out HB.out)|(with_reducible first|apply cA|apply cN|apply cD)));(case side2=>exact HC2.out);rintro e w39 ⟨rfl,hb⟩;refine ⟨_,rfl,?_⟩;replace HO490:=Aside0.mk (Kd.R_below (rr_ HO490) hb);replace BK486:=kb_ BK486 hb;replace HB:=bs_ HB hb;(try clear hb);(try clear hb2);(try clear hk);(try clear hi)))
      go_ret
      exact ⟨rf_,bl_ HB⟩
     ·rw [if_neg c30] at H
      have c30b0 : ((Int.tmod t487 2) == 1) = false:=beq_eq_false_iff_ne.mpr c30
      have c30b1 : ((Int.tmod t487 2) != 1) = true:=bne_iff_ne.mpr c30
      obtain rfl:=Option.some.inj H
      go_enter Try.func81,Try.ntmps81
      go_wp2_with (first|((with_reducible refine gate_dst (N:=5) rfl ?_);refine box_ev (N:=5) (cs:=#[.int .i64 a0_0,.int .i64 a0_1,.int .u64 a0_2]) (t:=83) ?_;intro gb486 hg w40 hbox hb;have BK486:=Aside0.mk (hbox);have GW486:=ge_ HB hg;have GE486:=ge_ HB hg;replace HB:=bs_ HB hb;clear hb hbox hg;have hcz41_0:=bc_ BK486 0;have hcz41_1:=bc_ BK486 1;have hcz41_2:=bc_ BK486 2;have hfz41_0:=bz_ BK486 0;have hfz41_1:=bz_ BK486 1;have hfz41_2:=bz_ BK486 2)|((with_reducible refine gate_callee (f:=85) rfl ?_);refine goesM (some 19) Try.func85 #[.agg #[.int .i64 a0_0,.int .i64 a0_1,.int .u64 a0_2],.slice A2 l2.length c2,.int .i64 a3] ?_;(with_reducible refine (r03_Size_below.calls k a0_0 a0_1 a0_2 _ _ l2 a3 t487 _ ?side1 ?side2 A6.out).mono ?_);(case side1=>repeat (first|exact (Kd.C_below HR2.out HB.out)|(with_reducible first|apply cA|apply cN|apply cD)));(case side2=>exact HC2.out);rintro e w42 ⟨rfl,hb⟩;refine ⟨_,rfl,?_⟩;replace BK486:=kb_ BK486 hb;replace HB:=bs_ HB hb;(try clear hb);(try clear hb2);(try clear hk);(try clear hi);have hcz43_0:=bc_ BK486 0;have hcz43_1:=bc_ BK486 1;have hcz43_2:=bc_ BK486 2;have hfz43_0:=bz_ BK486 0;have hfz43_1:=bz_ BK486 1;have hfz43_2:=bz_ BK486 2)|((with_reducible refine gate_callee (f:=82) rfl ?_);refine goesM (some 23) Try.func82 #[.agg #[.int .i64 a0_0,.int .i64 a0_1,.int .u64 a0_2],.int .u64 t487] ?_;(with_reducible refine (r03_Size_Number.calls k a0_0 a0_1 a0_2 t487 t488 t491 _ A7.out).mono ?_);rintro e w44 ⟨v489,rfl,ho0,hb⟩;refine ⟨_,rfl,?_⟩;have HO490:=Aside0.mk (Kd.R_lower ho0 (below_size (bl_ HB)));replace BK486:=kb_ BK486 hb;replace HB:=bs_ HB hb;(try clear hb);(try clear hb2);(try clear hk);(try clear hi);(try clear ho0);obtain ⟨Ao45,co45,eo45⟩:=Kd.R_slice HO490.out;subst eo45)|((with_reducible refine gate_callee (f:=74) rfl ?_);refine goesM (some 30) Try.func74 #[.slice Ao45 t488.length co45,.int .i64 t491,.slice A2 l2.length c2,.int .i64 a3] ?_;(with_reducible refine (r03_Against.calls k _ _ t488 t491 _ _ l2 a3 t492 _ ?side1 ?side2 ?side3 ?side4 A8.out).mono ?_);(case side1=>repeat (first|exact (Kd.R_reads' HO490.out).2.2|(with_reducible first|apply cA|apply cN|apply cD)));(case side2=>exact (Kd.R_reads' HO490.out).2.1);(case side3=>repeat (first|exact (Kd.C_below HR2.out HB.out)|(with_reducible first|apply cA|apply cN|apply cD)));(case side4=>exact HC2.out);rintro e w46 ⟨rfl,hb⟩;refine ⟨_,rfl,?_⟩;replace HO490:=Aside0.mk (Kd.R_below (rr_ HO490) hb);replace BK486:=kb_ BK486 hb;replace HB:=bs_ HB hb;(try clear hb);(try clear hb2);(try clear hk);(try clear hi);have hcz47_0:=bc_ BK486 0;have hcz47_1:=bc_ BK486 1;have hcz47_2:=bc_ BK486 2;have hfz47_0:=bz_ BK486 0;have hfz47_1:=bz_ BK486 1;have hfz47_2:=bz_ BK486 2)|((with_reducible refine gate_callee (f:=86) rfl ?_);refine goesM (some 37) Try.func86 #[.agg #[.int .i64 a0_0,.int .i64 a0_1,.int .u64 a0_2],.int .u64 t487,.slice A2 l2.length c2,.int .i64 a3] ?_;(with_reducible refine (r03_Size_half.calls k a0_0 a0_1 a0_2 t487 _ _ l2 a3 t493 _ ?side1 ?side2 A17.out).mono ?_);(case side1=>repeat (first|exact (Kd.C_below HR2.out HB.out)|(with_reducible first|apply cA|apply cN|apply cD)));(case side2=>exact HC2.out);rintro e w48 ⟨rfl,hb⟩;refine ⟨_,rfl,?_⟩;replace HO490:=Aside0.mk (Kd.R_below (rr_ HO490) hb);replace BK486:=kb_ BK486 hb;replace HB:=bs_ HB hb;(try clear hb);(try clear hb2);(try clear hk);(try clear hi)))
      go_ret
      exact ⟨rf_,bl_ HB⟩
    ·rw [if_neg c29] at H
     have c29b0 : (t493 == 0) = false:=beq_eq_false_iff_ne.mpr c29
     have c29b1 : (t493 != 0) = true:=bne_iff_ne.mpr c29
     obtain rfl:=Option.some.inj H
     go_enter Try.func81,Try.ntmps81
     go_wp2_with (first|((with_reducible refine gate_dst (N:=5) rfl ?_);refine box_ev (N:=5) (cs:=#[.int .i64 a0_0,.int .i64 a0_1,.int .u64 a0_2]) (t:=83) ?_;intro gb486 hg w49 hbox hb;have BK486:=Aside0.mk (hbox);have GW486:=ge_ HB hg;have GE486:=ge_ HB hg;replace HB:=bs_ HB hb;clear hb hbox hg;have hcz50_0:=bc_ BK486 0;have hcz50_1:=bc_ BK486 1;have hcz50_2:=bc_ BK486 2;have hfz50_0:=bz_ BK486 0;have hfz50_1:=bz_ BK486 1;have hfz50_2:=bz_ BK486 2)|((with_reducible refine gate_callee (f:=85) rfl ?_);refine goesM (some 19) Try.func85 #[.agg #[.int .i64 a0_0,.int .i64 a0_1,.int .u64 a0_2],.slice A2 l2.length c2,.int .i64 a3] ?_;(with_reducible refine (r03_Size_below.calls k a0_0 a0_1 a0_2 _ _ l2 a3 t487 _ ?side1 ?side2 A6.out).mono ?_);(case side1=>repeat (first|exact (Kd.C_below HR2.out HB.out)|(with_reducible first|apply cA|apply cN|apply cD)));(case side2=>exact HC2.out);rintro e w51 ⟨rfl,hb⟩;refine ⟨_,rfl,?_⟩;replace BK486:=kb_ BK486 hb;replace HB:=bs_ HB hb;(try clear hb);(try clear hb2);(try clear hk);(try clear hi);have hcz52_0:=bc_ BK486 0;have hcz52_1:=bc_ BK486 1;have hcz52_2:=bc_ BK486 2;have hfz52_0:=bz_ BK486 0;have hfz52_1:=bz_ BK486 1;have hfz52_2:=bz_ BK486 2)|((with_reducible refine gate_callee (f:=82) rfl ?_);refine goesM (some 23) Try.func82 #[.agg #[.int .i64 a0_0,.int .i64 a0_1,.int .u64 a0_2],.int .u64 t487] ?_;(with_reducible refine (r03_Size_Number.calls k a0_0 a0_1 a0_2 t487 t488 t491 _ A7.out).mono ?_);rintro e w53 ⟨v489,rfl,ho0,hb⟩;refine ⟨_,rfl,?_⟩;have HO490:=Aside0.mk (Kd.R_lower ho0 (below_size (bl_ HB)));replace BK486:=kb_ BK486 hb;replace HB:=bs_ HB hb;(try clear hb);(try clear hb2);(try clear hk);(try clear hi);(try clear ho0);obtain ⟨Ao54,co54,eo54⟩:=Kd.R_slice HO490.out;subst eo54)|((with_reducible refine gate_callee (f:=74) rfl ?_);refine goesM (some 30) Try.func74 #[.slice Ao54 t488.length co54,.int .i64 t491,.slice A2 l2.length c2,.int .i64 a3] ?_;(with_reducible refine (r03_Against.calls k _ _ t488 t491 _ _ l2 a3 t492 _ ?side1 ?side2 ?side3 ?side4 A8.out).mono ?_);(case side1=>repeat (first|exact (Kd.R_reads' HO490.out).2.2|(with_reducible first|apply cA|apply cN|apply cD)));(case side2=>exact (Kd.R_reads' HO490.out).2.1);(case side3=>repeat (first|exact (Kd.C_below HR2.out HB.out)|(with_reducible first|apply cA|apply cN|apply cD)));(case side4=>exact HC2.out);rintro e w55 ⟨rfl,hb⟩;refine ⟨_,rfl,?_⟩;replace HO490:=Aside0.mk (Kd.R_below (rr_ HO490) hb);replace BK486:=kb_ BK486 hb;replace HB:=bs_ HB hb;(try clear hb);(try clear hb2);(try clear hk);(try clear hi);have hcz56_0:=bc_ BK486 0;have hcz56_1:=bc_ BK486 1;have hcz56_2:=bc_ BK486 2;have hfz56_0:=bz_ BK486 0;have hfz56_1:=bz_ BK486 1;have hfz56_2:=bz_ BK486 2)|((with_reducible refine gate_callee (f:=86) rfl ?_);refine goesM (some 37) Try.func86 #[.agg #[.int .i64 a0_0,.int .i64 a0_1,.int .u64 a0_2],.int .u64 t487,.slice A2 l2.length c2,.int .i64 a3] ?_;(with_reducible refine (r03_Size_half.calls k a0_0 a0_1 a0_2 t487 _ _ l2 a3 t493 _ ?side1 ?side2 A17.out).mono ?_);(case side1=>repeat (first|exact (Kd.C_below HR2.out HB.out)|(with_reducible first|apply cA|apply cN|apply cD)));(case side2=>exact HC2.out);rintro e w57 ⟨rfl,hb⟩;refine ⟨_,rfl,?_⟩;replace HO490:=Aside0.mk (Kd.R_below (rr_ HO490) hb);replace BK486:=kb_ BK486 hb;replace HB:=bs_ HB hb;(try clear hb);(try clear hb2);(try clear hk);(try clear hi)))
     go_ret
     exact ⟨rf_,bl_ HB⟩
  ·rw [if_neg c18] at H
   have c18b0 : (a4 == 0) = false:=beq_eq_false_iff_ne.mpr c18
   have c18b1 : (a4 != 0) = true:=bne_iff_ne.mpr c18
   by_cases c58 : a4 = 2
   ·rw [if_pos c58] at H
    have c58b0 : (a4 == 2) = true:=beq_iff_eq.mpr c58
    have c58b1 : (a4 != 2) = false:=bne_eq_false_iff_eq.mpr c58
    clear c58
    by_cases c59 : a1 = true
    ·subst c59
     have H1 : (some t487) = some r:=by rw [if_pos rfl] at H;exact H
     clear H
     have H:=H1
     clear H1
     obtain rfl:=Option.some.inj H
     go_enter Try.func81,Try.ntmps81
     go_wp2_with (first|((with_reducible refine gate_dst (N:=5) rfl ?_);refine box_ev (N:=5) (cs:=#[.int .i64 a0_0,.int .i64 a0_1,.int .u64 a0_2]) (t:=83) ?_;intro gb486 hg w60 hbox hb;have BK486:=Aside0.mk (hbox);have GW486:=ge_ HB hg;have GE486:=ge_ HB hg;replace HB:=bs_ HB hb;clear hb hbox hg;have hcz61_0:=bc_ BK486 0;have hcz61_1:=bc_ BK486 1;have hcz61_2:=bc_ BK486 2;have hfz61_0:=bz_ BK486 0;have hfz61_1:=bz_ BK486 1;have hfz61_2:=bz_ BK486 2)|((with_reducible refine gate_callee (f:=85) rfl ?_);refine goesM (some 19) Try.func85 #[.agg #[.int .i64 a0_0,.int .i64 a0_1,.int .u64 a0_2],.slice A2 l2.length c2,.int .i64 a3] ?_;(with_reducible refine (r03_Size_below.calls k a0_0 a0_1 a0_2 _ _ l2 a3 t487 _ ?side1 ?side2 A6.out).mono ?_);(case side1=>repeat (first|exact (Kd.C_below HR2.out HB.out)|(with_reducible first|apply cA|apply cN|apply cD)));(case side2=>exact HC2.out);rintro e w62 ⟨rfl,hb⟩;refine ⟨_,rfl,?_⟩;replace BK486:=kb_ BK486 hb;replace HB:=bs_ HB hb;(try clear hb);(try clear hb2);(try clear hk);(try clear hi);have hcz63_0:=bc_ BK486 0;have hcz63_1:=bc_ BK486 1;have hcz63_2:=bc_ BK486 2;have hfz63_0:=bz_ BK486 0;have hfz63_1:=bz_ BK486 1;have hfz63_2:=bz_ BK486 2)|((with_reducible refine gate_callee (f:=82) rfl ?_);refine goesM (some 23) Try.func82 #[.agg #[.int .i64 a0_0,.int .i64 a0_1,.int .u64 a0_2],.int .u64 t487] ?_;(with_reducible refine (r03_Size_Number.calls k a0_0 a0_1 a0_2 t487 t488 t491 _ A7.out).mono ?_);rintro e w64 ⟨v489,rfl,ho0,hb⟩;refine ⟨_,rfl,?_⟩;have HO490:=Aside0.mk (Kd.R_lower ho0 (below_size (bl_ HB)));replace BK486:=kb_ BK486 hb;replace HB:=bs_ HB hb;(try clear hb);(try clear hb2);(try clear hk);(try clear hi);(try clear ho0);obtain ⟨Ao65,co65,eo65⟩:=Kd.R_slice HO490.out;subst eo65)|((with_reducible refine gate_callee (f:=74) rfl ?_);refine goesM (some 30) Try.func74 #[.slice Ao65 t488.length co65,.int .i64 t491,.slice A2 l2.length c2,.int .i64 a3] ?_;(with_reducible refine (r03_Against.calls k _ _ t488 t491 _ _ l2 a3 t492 _ ?side1 ?side2 ?side3 ?side4 A8.out).mono ?_);(case side1=>repeat (first|exact (Kd.R_reads' HO490.out).2.2|(with_reducible first|apply cA|apply cN|apply cD)));(case side2=>exact (Kd.R_reads' HO490.out).2.1);(case side3=>repeat (first|exact (Kd.C_below HR2.out HB.out)|(with_reducible first|apply cA|apply cN|apply cD)));(case side4=>exact HC2.out);rintro e w66 ⟨rfl,hb⟩;refine ⟨_,rfl,?_⟩;replace HO490:=Aside0.mk (Kd.R_below (rr_ HO490) hb);replace BK486:=kb_ BK486 hb;replace HB:=bs_ HB hb;(try clear hb);(try clear hb2);(try clear hk);(try clear hi);have hcz67_0:=bc_ BK486 0;have hcz67_1:=bc_ BK486 1;have hcz67_2:=bc_ BK486 2;have hfz67_0:=bz_ BK486 0;have hfz67_1:=bz_ BK486 1;have hfz67_2:=bz_ BK486 2)|((with_reducible refine gate_callee (f:=86) rfl ?_);refine goesM (some 37) Try.func86 #[.agg #[.int .i64 a0_0,.int .i64 a0_1,.int .u64 a0_2],.int .u64 t487,.slice A2 l2.length c2,.int .i64 a3] ?_;(with_reducible refine (r03_Size_half.calls k a0_0 a0_1 a0_2 t487 _ _ l2 a3 t493 _ ?side1 ?side2 A17.out).mono ?_);(case side1=>repeat (first|exact (Kd.C_below HR2.out HB.out)|(with_reducible first|apply cA|apply cN|apply cD)));(case side2=>exact HC2.out);rintro e w68 ⟨rfl,hb⟩;refine ⟨_,rfl,?_⟩;replace HO490:=Aside0.mk (Kd.R_below (rr_ HO490) hb);replace BK486:=kb_ BK486 hb;replace HB:=bs_ HB hb;(try clear hb);(try clear hb2);(try clear hk);(try clear hi)))
     go_ret
     exact ⟨rf_,bl_ HB⟩
    ·replace c59:=Bool.eq_false_iff.mpr c59
     subst c59
     have H1 : (some (IntKind.u64.wrap (t487 + 1))) = some r:=by rw [if_neg (show ¬ (false = true) by decide)] at H;exact H
     clear H
     have H:=H1
     clear H1
     obtain rfl:=Option.some.inj H
     go_enter Try.func81,Try.ntmps81
     go_wp2_with (first|((with_reducible refine gate_dst (N:=5) rfl ?_);refine box_ev (N:=5) (cs:=#[.int .i64 a0_0,.int .i64 a0_1,.int .u64 a0_2]) (t:=83) ?_;intro gb486 hg w69 hbox hb;have BK486:=Aside0.mk (hbox);have GW486:=ge_ HB hg;have GE486:=ge_ HB hg;replace HB:=bs_ HB hb;clear hb hbox hg;have hcz70_0:=bc_ BK486 0;have hcz70_1:=bc_ BK486 1;have hcz70_2:=bc_ BK486 2;have hfz70_0:=bz_ BK486 0;have hfz70_1:=bz_ BK486 1;have hfz70_2:=bz_ BK486 2)|((with_reducible refine gate_callee (f:=85) rfl ?_);refine goesM (some 19) Try.func85 #[.agg #[.int .i64 a0_0,.int .i64 a0_1,.int .u64 a0_2],.slice A2 l2.length c2,.int .i64 a3] ?_;(with_reducible refine (r03_Size_below.calls k a0_0 a0_1 a0_2 _ _ l2 a3 t487 _ ?side1 ?side2 A6.out).mono ?_);(case side1=>repeat (first|exact (Kd.C_below HR2.out HB.out)|(with_reducible first|apply cA|apply cN|apply cD)));(case side2=>exact HC2.out);rintro e w71 ⟨rfl,hb⟩;refine ⟨_,rfl,?_⟩;replace BK486:=kb_ BK486 hb;replace HB:=bs_ HB hb;(try clear hb);(try clear hb2);(try clear hk);(try clear hi);have hcz72_0:=bc_ BK486 0;have hcz72_1:=bc_ BK486 1;have hcz72_2:=bc_ BK486 2;have hfz72_0:=bz_ BK486 0;have hfz72_1:=bz_ BK486 1;have hfz72_2:=bz_ BK486 2)|((with_reducible refine gate_callee (f:=82) rfl ?_);refine goesM (some 23) Try.func82 #[.agg #[.int .i64 a0_0,.int .i64 a0_1,.int .u64 a0_2],.int .u64 t487] ?_;(with_reducible refine (r03_Size_Number.calls k a0_0 a0_1 a0_2 t487 t488 t491 _ A7.out).mono ?_);rintro e w73 ⟨v489,rfl,ho0,hb⟩;refine ⟨_,rfl,?_⟩;have HO490:=Aside0.mk (Kd.R_lower ho0 (below_size (bl_ HB)));replace BK486:=kb_ BK486 hb;replace HB:=bs_ HB hb;(try clear hb);(try clear hb2);(try clear hk);(try clear hi);(try clear ho0);obtain ⟨Ao74,co74,eo74⟩:=Kd.R_slice HO490.out;subst eo74)|((with_reducible refine gate_callee (f:=74) rfl ?_);refine goesM (some 30) Try.func74 #[.slice Ao74 t488.length co74,.int .i64 t491,.slice A2 l2.length c2,.int .i64 a3] ?_;(with_reducible refine (r03_Against.calls k _ _ t488 t491 _ _ l2 a3 t492 _ ?side1 ?side2 ?side3 ?side4 A8.out).mono ?_);(case side1=>repeat (first|exact (Kd.R_reads' HO490.out).2.2|(with_reducible first|apply cA|apply cN|apply cD)));(case side2=>exact (Kd.R_reads' HO490.out).2.1);(case side3=>repeat (first|exact (Kd.C_below HR2.out HB.out)|(with_reducible first|apply cA|apply cN|apply cD)));(case side4=>exact HC2.out);rintro e w75 ⟨rfl,hb⟩;refine ⟨_,rfl,?_⟩;replace HO490:=Aside0.mk (Kd.R_below (rr_ HO490) hb);replace BK486:=kb_ BK486 hb;replace HB:=bs_ HB hb;(try clear hb);(try clear hb2);(try clear hk);(try clear hi);have hcz76_0:=bc_ BK486 0;have hcz76_1:=bc_ BK486 1;have hcz76_2:=bc_ BK486 2;have hfz76_0:=bz_ BK486 0;have hfz76_1:=bz_ BK486 1;have hfz76_2:=bz_ BK486 2)|((with_reducible refine gate_callee (f:=86) rfl ?_);refine goesM (some 37) Try.func86 #[.agg #[.int .i64 a0_0,.int .i64 a0_1,.int .u64 a0_2],.int .u64 t487,.slice A2 l2.length c2,.int .i64 a3] ?_;(with_reducible refine (r03_Size_half.calls k a0_0 a0_1 a0_2 t487 _ _ l2 a3 t493 _ ?side1 ?side2 A17.out).mono ?_);(case side1=>repeat (first|exact (Kd.C_below HR2.out HB.out)|(with_reducible first|apply cA|apply cN|apply cD)));(case side2=>exact HC2.out);rintro e w77 ⟨rfl,hb⟩;refine ⟨_,rfl,?_⟩;replace HO490:=Aside0.mk (Kd.R_below (rr_ HO490) hb);replace BK486:=kb_ BK486 hb;replace HB:=bs_ HB hb;(try clear hb);(try clear hb2);(try clear hk);(try clear hi)))
     go_ret
     exact ⟨rf_,bl_ HB⟩
   ·rw [if_neg c58] at H
    have c58b0 : (a4 == 2) = false:=beq_eq_false_iff_ne.mpr c58
    have c58b1 : (a4 != 2) = true:=bne_iff_ne.mpr c58
    by_cases c78 : a4 = 3
    ·rw [if_pos c78] at H
     have c78b0 : (a4 == 3) = true:=beq_iff_eq.mpr c78
     have c78b1 : (a4 != 3) = false:=bne_eq_false_iff_eq.mpr c78
     clear c78
     by_cases c79 : a1 = true
     ·subst c79
      have H1 : (some (IntKind.u64.wrap (t487 + 1))) = some r:=by rw [if_pos rfl] at H;exact H
      clear H
      have H:=H1
      clear H1
      obtain rfl:=Option.some.inj H
      go_enter Try.func81,Try.ntmps81
      go_wp2_with (first|((with_reducible refine gate_dst (N:=5) rfl ?_);refine box_ev (N:=5) (cs:=#[.int .i64 a0_0,.int .i64 a0_1,.int .u64 a0_2]) (t:=83) ?_;intro gb486 hg w80 hbox hb;have BK486:=Aside0.mk (hbox);have GW486:=ge_ HB hg;have GE486:=ge_ HB hg;replace HB:=bs_ HB hb;clear hb hbox hg;have hcz81_0:=bc_ BK486 0;have hcz81_1:=bc_ BK486 1;have hcz81_2:=bc_ BK486 2;have hfz81_0:=bz_ BK486 0;have hfz81_1:=bz_ BK486 1;have hfz81_2:=bz_ BK486 2)|((with_reducible refine gate_callee (f:=85) rfl ?_);refine goesM (some 19) Try.func85 #[.agg #[.int .i64 a0_0,.int .i64 a0_1,.int .u64 a0_2],.slice A2 l2.length c2,.int .i64 a3] ?_;(with_reducible refine (r03_Size_below.calls k a0_0 a0_1 a0_2 _ _ l2 a3 t487 _ ?side1 ?side2 A6.out).mono ?_);(case side1=>repeat (first|exact (Kd.C_below HR2.out HB.out)|(with_reducible first|apply cA|apply cN|apply cD)));(case side2=>exact HC2.out);rintro e w82 ⟨rfl,hb⟩;refine ⟨_,rfl,?_⟩;replace BK486:=kb_ BK486 hb;replace HB:=bs_ HB hb;(try clear hb);(try clear hb2);(try clear hk);(try clear hi);have hcz83_0:=bc_ BK486 0;have hcz83_1:=bc_ BK486 1;have hcz83_2:=bc_ BK486 2;have hfz83_0:=bz_ BK486 0;have hfz83_1:=bz_ BK486 1;have hfz83_2:=bz_ BK486 2)|((with_reducible refine gate_callee (f:=82) rfl ?_);refine goesM (some 23) Try.func82 #[.agg #[.int .i64 a0_0,.int .i64 a0_1,.int .u64 a0_2],.int .u64 t487] ?_;(with_reducible refine (r03_Size_Number.calls k a0_0 a0_1 a0_2 t487 t488 t491 _ A7.out).mono ?_);rintro e w84 ⟨v489,rfl,ho0,hb⟩;refine ⟨_,rfl,?_⟩;have HO490:=Aside0.mk (Kd.R_lower ho0 (below_size (bl_ HB)));replace BK486:=kb_ BK486 hb;replace HB:=bs_ HB hb;(try clear hb);(try clear hb2);(try clear hk);(try clear hi);(try clear ho0);obtain ⟨Ao85,co85,eo85⟩:=Kd.R_slice HO490.out;subst eo85)|((with_reducible refine gate_callee (f:=74) rfl ?_);refine goesM (some 30) Try.func74 #[.slice Ao85 t488.length co85,.int .i64 t491,.slice A2 l2.length c2,.int .i64 a3] ?_;(with_reducible refine (r03_Against.calls k _ _ t488 t491 _ _ l2 a3 t492 _ ?side1 ?side2 ?side3 ?side4 A8.out).mono ?_);(case side1=>repeat (first|exact (Kd.R_reads' HO490.out).2.2|(with_reducible first|apply cA|apply cN|apply cD)));(case side2=>exact (Kd.R_reads' HO490.out).2.1);(case side3=>repeat (first|exact (Kd.C_below HR2.out HB.out)|(with_reducible first|apply cA|apply cN|apply cD)));(case side4=>exact HC2.out);rintro e w86 ⟨rfl,hb⟩;refine ⟨_,rfl,?_⟩;replace HO490:=Aside0.mk (Kd.R_below (rr_ HO490) hb);replace BK486:=kb_ BK486 hb;replace HB:=bs_ HB hb;(try clear hb);(try clear hb2);(try clear hk);(try clear hi);have hcz87_0:=bc_ BK486 0;have hcz87_1:=bc_ BK486 1;have hcz87_2:=bc_ BK486 2;have hfz87_0:=bz_ BK486 0;have hfz87_1:=bz_ BK486 1;have hfz87_2:=bz_ BK486 2)|((with_reducible refine gate_callee (f:=86) rfl ?_);refine goesM (some 37) Try.func86 #[.agg #[.int .i64 a0_0,.int .i64 a0_1,.int .u64 a0_2],.int .u64 t487,.slice A2 l2.length c2,.int .i64 a3] ?_;(with_reducible refine (r03_Size_half.calls k a0_0 a0_1 a0_2 t487 _ _ l2 a3 t493 _ ?side1 ?side2 A17.out).mono ?_);(case side1=>repeat (first|exact (Kd.C_below HR2.out HB.out)|(with_reducible first|apply cA|apply cN|apply cD)));(case side2=>exact HC2.out);rintro e w88 ⟨rfl,hb⟩;refine ⟨_,rfl,?_⟩;replace HO490:=Aside0.mk (Kd.R_below (rr_ HO490) hb);replace BK486:=kb_ BK486 hb;replace HB:=bs_ HB hb;(try clear hb);(try clear hb2);(try clear hk);(try clear hi)))
      go_ret
      exact ⟨rf_,bl_ HB⟩
     ·replace c79:=Bool.eq_false_iff.mpr c79
      subst c79
      have H1 : (some t487) = some r:=by rw [if_neg (show ¬ (false = true) by decide)] at H;exact H
      clear H
      have H:=H1
      clear H1
      obtain rfl:=Option.some.inj H
      go_enter Try.func81,Try.ntmps81
      go_wp2_with (first|((with_reducible refine gate_dst (N:=5) rfl ?_);refine box_ev (N:=5) (cs:=#[.int .i64 a0_0,.int .i64 a0_1,.int .u64 a0_2]) (t:=83) ?_;intro gb486 hg w89 hbox hb;have BK486:=Aside0.mk (hbox);have GW486:=ge_ HB hg;have GE486:=ge_ HB hg;replace HB:=bs_ HB hb;clear hb hbox hg;have hcz90_0:=bc_ BK486 0;have hcz90_1:=bc_ BK486 1;have hcz90_2:=bc_ BK486 2;have hfz90_0:=bz_ BK486 0;have hfz90_1:=bz_ BK486 1;have hfz90_2:=bz_ BK486 2)|((with_reducible refine gate_callee (f:=85) rfl ?_);refine goesM (some 19) Try.func85 #[.agg #[.int .i64 a0_0,.int .i64 a0_1,.int .u64 a0_2],.slice A2 l2.length c2,.int .i64 a3] ?_;(with_reducible refine (r03_Size_below.calls k a0_0 a0_1 a0_2 _ _ l2 a3 t487 _ ?side1 ?side2 A6.out).mono ?_);(case side1=>repeat (first|exact (Kd.C_below HR2.out HB.out)|(with_reducible first|apply cA|apply cN|apply cD)));(case side2=>exact HC2.out);rintro e w91 ⟨rfl,hb⟩;refine ⟨_,rfl,?_⟩;replace BK486:=kb_ BK486 hb;replace HB:=bs_ HB hb;(try clear hb);(try clear hb2);(try clear hk);(try clear hi);have hcz92_0:=bc_ BK486 0;have hcz92_1:=bc_ BK486 1;have hcz92_2:=bc_ BK486 2;have hfz92_0:=bz_ BK486 0;have hfz92_1:=bz_ BK486 1;have hfz92_2:=bz_ BK486 2)|((with_reducible refine gate_callee (f:=82) rfl ?_);refine goesM (some 23) Try.func82 #[.agg #[.int .i64 a0_0,.int .i64 a0_1,.int .u64 a0_2],.int .u64 t487] ?_;(with_reducible refine (r03_Size_Number.calls k a0_0 a0_1 a0_2 t487 t488 t491 _ A7.out).mono ?_);rintro e w93 ⟨v489,rfl,ho0,hb⟩;refine ⟨_,rfl,?_⟩;have HO490:=Aside0.mk (Kd.R_lower ho0 (below_size (bl_ HB)));replace BK486:=kb_ BK486 hb;replace HB:=bs_ HB hb;(try clear hb);(try clear hb2);(try clear hk);(try clear hi);(try clear ho0);obtain ⟨Ao94,co94,eo94⟩:=Kd.R_slice HO490.out;subst eo94)|((with_reducible refine gate_callee (f:=74) rfl ?_);refine goesM (some 30) Try.func74 #[.slice Ao94 t488.length co94,.int .i64 t491,.slice A2 l2.length c2,.int .i64 a3] ?_;(with_reducible refine (r03_Against.calls k _ _ t488 t491 _ _ l2 a3 t492 _ ?side1 ?side2 ?side3 ?side4 A8.out).mono ?_);(case side1=>repeat (first|exact (Kd.R_reads' HO490.out).2.2|(with_reducible first|apply cA|apply cN|apply cD)));(case side2=>exact (Kd.R_reads' HO490.out).2.1);(case side3=>repeat (first|exact (Kd.C_below HR2.out HB.out)|(with_reducible first|apply cA|apply cN|apply cD)));(case side4=>exact HC2.out);rintro e w95 ⟨rfl,hb⟩;refine ⟨_,rfl,?_⟩;replace HO490:=Aside0.mk (Kd.R_below (rr_ HO490) hb);replace BK486:=kb_ BK486 hb;replace HB:=bs_ HB hb;(try clear hb);(try clear hb2);(try clear hk);(try clear hi);have hcz96_0:=bc_ BK486 0;have hcz96_1:=bc_ BK486 1;have hcz96_2:=bc_ BK486 2;have hfz96_0:=bz_ BK486 0;have hfz96_1:=bz_ BK486 1;have hfz96_2:=bz_ BK486 2)|((with_reducible refine gate_callee (f:=86) rfl ?_);refine goesM (some 37) Try.func86 #[.agg #[.int .i64 a0_0,.int .i64 a0_1,.int .u64 a0_2],.int .u64 t487,.slice A2 l2.length c2,.int .i64 a3] ?_;(with_reducible refine (r03_Size_half.calls k a0_0 a0_1 a0_2 t487 _ _ l2 a3 t493 _ ?side1 ?side2 A17.out).mono ?_);(case side1=>repeat (first|exact (Kd.C_below HR2.out HB.out)|(with_reducible first|apply cA|apply cN|apply cD)));(case side2=>exact HC2.out);rintro e w97 ⟨rfl,hb⟩;refine ⟨_,rfl,?_⟩;replace HO490:=Aside0.mk (Kd.R_below (rr_ HO490) hb);replace BK486:=kb_ BK486 hb;replace HB:=bs_ HB hb;(try clear hb);(try clear hb2);(try clear hk);(try clear hi)))
      go_ret
      exact ⟨rf_,bl_ HB⟩
    ·rw [if_neg c78] at H
     have c78b0 : (a4 == 3) = false:=beq_eq_false_iff_ne.mpr c78
     have c78b1 : (a4 != 3) = true:=bne_iff_ne.mpr c78
     by_cases c98 : a4 = 4
     ·rw [if_pos c98] at H
      have c98b0 : (a4 == 4) = true:=beq_iff_eq.mpr c98
      have c98b1 : (a4 != 4) = false:=bne_eq_false_iff_eq.mpr c98
      clear c98
      by_cases c99 : t493 ≥ 0
      ·rw [if_pos c99] at H
       have c99b0 : decide (0 ≤ t493) = true:=decide_eq_true c99
       clear c99
       obtain rfl:=Option.some.inj H
       go_enter Try.func81,Try.ntmps81
       go_wp2_with (first|((with_reducible refine gate_dst (N:=5) rfl ?_);refine box_ev (N:=5) (cs:=#[.int .i64 a0_0,.int .i64 a0_1,.int .u64 a0_2]) (t:=83) ?_;intro gb486 hg w100 hbox hb;have BK486:=Aside0.mk (hbox);have GW486:=ge_ HB hg;have GE486:=ge_ HB hg;replace HB:=bs_ HB hb;clear hb hbox hg;have hcz101_0:=bc_ BK486 0;have hcz101_1:=bc_ BK486 1;have hcz101_2:=bc_ BK486 2;have hfz101_0:=bz_ BK486 0;have hfz101_1:=bz_ BK486 1;have hfz101_2:=bz_ BK486 2)|((with_reducible refine gate_callee (f:=85) rfl ?_);refine goesM (some 19) Try.func85 #[.agg #[.int .i64 a0_0,.int .i64 a0_1,.int .u64 a0_2],.slice A2 l2.length c2,.int .i64 a3] ?_;(with_reducible refine (r03_Size_below.calls k a0_0 a0_1 a0_2 _ _ l2 a3 t487 _ ?side1 ?side2 A6.out).mono ?_);(case side1=>repeat (first|exact (Kd.C_below HR2.out HB.out)|(with_reducible first|apply cA|apply cN|apply cD)));(case side2=>exact HC2.out);rintro e w102 ⟨rfl,hb⟩;refine ⟨_,rfl,?_⟩;replace BK486:=kb_ BK486 hb;replace HB:=bs_ HB hb;(try clear hb);(try clear hb2);(try clear hk);(try clear hi);have hcz103_0:=bc_ BK486 0;have hcz103_1:=bc_ BK486 1;have hcz103_2:=bc_ BK486 2;have hfz103_0:=bz_ BK486 0;have hfz103_1:=bz_ BK486 1;have hfz103_2:=bz_ BK486 2)|((with_reducible refine gate_callee (f:=82) rfl ?_);refine goesM (some 23) Try.func82 #[.agg #[.int .i64 a0_0,.int .i64 a0_1,.int .u64 a0_2],.int .u64 t487] ?_;(with_reducible refine (r03_Size_Number.calls k a0_0 a0_1 a0_2 t487 t488 t491 _ A7.out).mono ?_);rintro e w104 ⟨v489,rfl,ho0,hb⟩;refine ⟨_,rfl,?_⟩;have HO490:=Aside0.mk (Kd.R_lower ho0 (below_size (bl_ HB)));replace BK486:=kb_ BK486 hb;replace HB:=bs_ HB hb;(try clear hb);(try clear hb2);(try clear hk);(try clear hi);(try clear ho0);obtain ⟨Ao105,co105,eo105⟩:=Kd.R_slice HO490.out;subst eo105)|((with_reducible refine gate_callee (f:=74) rfl ?_);refine goesM (some 30) Try.func74 #[.slice Ao105 t488.length co105,.int .i64 t491,.slice A2 l2.length c2,.int .i64 a3] ?_;(with_reducible refine (r03_Against.calls k _ _ t488 t491 _ _ l2 a3 t492 _ ?side1 ?side2 ?side3 ?side4 A8.out).mono ?_);(case side1=>repeat (first|exact (Kd.R_reads' HO490.out).2.2|(with_reducible first|apply cA|apply cN|apply cD)));(case side2=>exact (Kd.R_reads' HO490.out).2.1);(case side3=>repeat (first|exact (Kd.C_below HR2.out HB.out)|(with_reducible first|apply cA|apply cN|apply cD)));(case side4=>exact HC2.out);rintro e w106 ⟨rfl,hb⟩;refine ⟨_,rfl,?_⟩;replace HO490:=Aside0.mk (Kd.R_below (rr_ HO490) hb);replace BK486:=kb_ BK486 hb;replace HB:=bs_ HB hb;(try clear hb);(try clear hb2);(try clear hk);(try clear hi);have hcz107_0:=bc_ BK486 0;have hcz107_1:=bc_ BK486 1;have hcz107_2:=bc_ BK486 2;have hfz107_0:=bz_ BK486 0;have hfz107_1:=bz_ BK486 1;have hfz107_2:=bz_ BK486 2)|((with_reducible refine gate_callee (f:=86) rfl ?_);refine goesM (some 37) Try.func86 #[.agg #[.int .i64 a0_0,.int .i64 a0_1,.int .u64 a0_2],.int .u64 t487,.slice A2 l2.length c2,.int .i64 a3] ?_;(with_reducible refine (r03_Size_half.calls k a0_0 a0_1 a0_2 t487 _ _ l2 a3 t493 _ ?side1 ?side2 A17.out).mono ?_);(case side1=>repeat (first|exact (Kd.C_below HR2.out HB.out)|(with_reducible first|apply cA|apply cN|apply cD)));(case side2=>exact HC2.out);rintro e w108 ⟨rfl,hb⟩;refine ⟨_,rfl,?_⟩;replace HO490:=Aside0.mk (Kd.R_below (rr_ HO490) hb);replace BK486:=kb_ BK486 hb;replace HB:=bs_ HB hb;(try clear hb);(try clear hb2);(try clear hk);(try clear hi)))
       go_ret
       exact ⟨rf_,bl_ HB⟩
      ·rw [if_neg c99] at H
       have c99b0 : decide (0 ≤ t493) = false:=decide_eq_false c99
       clear c99
       obtain rfl:=Option.some.inj H
       go_enter Try.func81,Try.ntmps81
       go_wp2_with (first|((with_reducible refine gate_dst (N:=5) rfl ?_);refine box_ev (N:=5) (cs:=#[.int .i64 a0_0,.int .i64 a0_1,.int .u64 a0_2]) (t:=83) ?_;intro gb486 hg w109 hbox hb;have BK486:=Aside0.mk (hbox);have GW486:=ge_ HB hg;have GE486:=ge_ HB hg;replace HB:=bs_ HB hb;clear hb hbox hg;have hcz110_0:=bc_ BK486 0;have hcz110_1:=bc_ BK486 1;have hcz110_2:=bc_ BK486 2;have hfz110_0:=bz_ BK486 0;have hfz110_1:=bz_ BK486 1;have hfz110_2:=bz_ BK486 2)|((with_reducible refine gate_callee (f:=85) rfl ?_);refine goesM (some 19) Try.func85 #[.agg #[.int .i64 a0_0,.int .i64 a0_1,.int .u64 a0_2],.slice A2 l2.length c2,.int .i64 a3] ?_;(with_reducible refine (r03_Size_below.calls k a0_0 a0_1 a0_2 _ _ l2 a3 t487 _ ?side1 ?side2 A6.out).mono ?_);(case side1=>repeat (first|exact (Kd.C_below HR2.out HB.out)|(with_reducible first|apply cA|apply cN|apply cD)));(case side2=>exact HC2.out);rintro e w111 ⟨rfl,hb⟩;refine ⟨_,rfl,?_⟩;replace BK486:=kb_ BK486 hb;replace HB:=bs_ HB hb;(try clear hb);(try clear hb2);(try clear hk);(try clear hi);have hcz112_0:=bc_ BK486 0;have hcz112_1:=bc_ BK486 1;have hcz112_2:=bc_ BK486 2;have hfz112_0:=bz_ BK486 0;have hfz112_1:=bz_ BK486 1;have hfz112_2:=bz_ BK486 2)|((with_reducible refine gate_callee (f:=82) rfl ?_);refine goesM (some 23) Try.func82 #[.agg #[.int .i64 a0_0,.int .i64 a0_1,.int .u64 a0_2],.int .u64 t487] ?_;(with_reducible refine (r03_Size_Number.calls k a0_0 a0_1 a0_2 t487 t488 t491 _ A7.out).mono ?_);rintro e w113 ⟨v489,rfl,ho0,hb⟩;refine ⟨_,rfl,?_⟩;have HO490:=Aside0.mk (Kd.R_lower ho0 (below_size (bl_ HB)));replace BK486:=kb_ BK486 hb;replace HB:=bs_ HB hb;(try clear hb);(try clear hb2);(try clear hk);(try clear hi);(try clear ho0);obtain ⟨Ao114,co114,eo114⟩:=Kd.R_slice HO490.out;subst eo114)|((with_reducible refine gate_callee (f:=74) rfl ?_);refine goesM (some 30) Try.func74 #[.slice Ao114 t488.length co114,.int .i64 t491,.slice A2 l2.length c2,.int .i64 a3] ?_;(with_reducible refine (r03_Against.calls k _ _ t488 t491 _ _ l2 a3 t492 _ ?side1 ?side2 ?side3 ?side4 A8.out).mono ?_);(case side1=>repeat (first|exact (Kd.R_reads' HO490.out).2.2|(with_reducible first|apply cA|apply cN|apply cD)));(case side2=>exact (Kd.R_reads' HO490.out).2.1);(case side3=>repeat (first|exact (Kd.C_below HR2.out HB.out)|(with_reducible first|apply cA|apply cN|apply cD)));(case side4=>exact HC2.out);rintro e w115 ⟨rfl,hb⟩;refine ⟨_,rfl,?_⟩;replace HO490:=Aside0.mk (Kd.R_below (rr_ HO490) hb);replace BK486:=kb_ BK486 hb;replace HB:=bs_ HB hb;(try clear hb);(try clear hb2);(try clear hk);(try clear hi);have hcz116_0:=bc_ BK486 0;have hcz116_1:=bc_ BK486 1;have hcz116_2:=bc_ BK486 2;have hfz116_0:=bz_ BK486 0;have hfz116_1:=bz_ BK486 1;have hfz116_2:=bz_ BK486 2)|((with_reducible refine gate_callee (f:=86) rfl ?_);refine goesM (some 37) Try.func86 #[.agg #[.int .i64 a0_0,.int .i64 a0_1,.int .u64 a0_2],.int .u64 t487,.slice A2 l2.length c2,.int .i64 a3] ?_;(with_reducible refine (r03_Size_half.calls k a0_0 a0_1 a0_2 t487 _ _ l2 a3 t493 _ ?side1 ?side2 A17.out).mono ?_);(case side1=>repeat (first|exact (Kd.C_below HR2.out HB.out)|(with_reducible first|apply cA|apply cN|apply cD)));(case side2=>exact HC2.out);rintro e w117 ⟨rfl,hb⟩;refine ⟨_,rfl,?_⟩;replace HO490:=Aside0.mk (Kd.R_below (rr_ HO490) hb);replace BK486:=kb_ BK486 hb;replace HB:=bs_ HB hb;(try clear hb);(try clear hb2);(try clear hk);(try clear hi)))
       go_ret
       exact ⟨rf_,bl_ HB⟩
     ·rw [if_neg c98] at H
      have c98b0 : (a4 == 4) = false:=beq_eq_false_iff_ne.mpr c98
      have c98b1 : (a4 != 4) = true:=bne_iff_ne.mpr c98
      obtain rfl:=Option.some.inj H
      go_enter Try.func81,Try.ntmps81
      go_wp2_with (first|((with_reducible refine gate_dst (N:=5) rfl ?_);refine box_ev (N:=5) (cs:=#[.int .i64 a0_0,.int .i64 a0_1,.int .u64 a0_2]) (t:=83) ?_;intro gb486 hg w118 hbox hb;have BK486:=Aside0.mk (hbox);have GW486:=ge_ HB hg;have GE486:=ge_ HB hg;replace HB:=bs_ HB hb;clear hb hbox hg;have hcz119_0:=bc_ BK486 0;have hcz119_1:=bc_ BK486 1;have hcz119_2:=bc_ BK486 2;have hfz119_0:=bz_ BK486 0;have hfz119_1:=bz_ BK486 1;have hfz119_2:=bz_ BK486 2)|((with_reducible refine gate_callee (f:=85) rfl ?_);refine goesM (some 19) Try.func85 #[.agg #[.int .i64 a0_0,.int .i64 a0_1,.int .u64 a0_2],.slice A2 l2.length c2,.int .i64 a3] ?_;(with_reducible refine (r03_Size_below.calls k a0_0 a0_1 a0_2 _ _ l2 a3 t487 _ ?side1 ?side2 A6.out).mono ?_);(case side1=>repeat (first|exact (Kd.C_below HR2.out HB.out)|(with_reducible first|apply cA|apply cN|apply cD)));(case side2=>exact HC2.out);rintro e w120 ⟨rfl,hb⟩;refine ⟨_,rfl,?_⟩;replace BK486:=kb_ BK486 hb;replace HB:=bs_ HB hb;(try clear hb);(try clear hb2);(try clear hk);(try clear hi);have hcz121_0:=bc_ BK486 0;have hcz121_1:=bc_ BK486 1;have hcz121_2:=bc_ BK486 2;have hfz121_0:=bz_ BK486 0;have hfz121_1:=bz_ BK486 1;have hfz121_2:=bz_ BK486 2)|((with_reducible refine gate_callee (f:=82) rfl ?_);refine goesM (some 23) Try.func82 #[.agg #[.int .i64 a0_0,.int .i64 a0_1,.int .u64 a0_2],.int .u64 t487] ?_;(with_reducible refine (r03_Size_Number.calls k a0_0 a0_1 a0_2 t487 t488 t491 _ A7.out).mono ?_);rintro e w122 ⟨v489,rfl,ho0,hb⟩;refine ⟨_,rfl,?_⟩;have HO490:=Aside0.mk (Kd.R_lower ho0 (below_size (bl_ HB)));replace BK486:=kb_ BK486 hb;replace HB:=bs_ HB hb;(try clear hb);(try clear hb2);(try clear hk);(try clear hi);(try clear ho0);obtain ⟨Ao123,co123,eo123⟩:=Kd.R_slice HO490.out;subst eo123)|((with_reducible refine gate_callee (f:=74) rfl ?_);refine goesM (some 30) Try.func74 #[.slice Ao123 t488.length co123,.int .i64 t491,.slice A2 l2.length c2,.int .i64 a3] ?_;(with_reducible refine (r03_Against.calls k _ _ t488 t491 _ _ l2 a3 t492 _ ?side1 ?side2 ?side3 ?side4 A8.out).mono ?_);(case side1=>repeat (first|exact (Kd.R_reads' HO490.out).2.2|(with_reducible first|apply cA|apply cN|apply cD)));(case side2=>exact (Kd.R_reads' HO490.out).2.1);(case side3=>repeat (first|exact (Kd.C_below HR2.out HB.out)|(with_reducible first|apply cA|apply cN|apply cD)));(case side4=>exact HC2.out);rintro e w124 ⟨rfl,hb⟩;refine ⟨_,rfl,?_⟩;replace HO490:=Aside0.mk (Kd.R_below (rr_ HO490) hb);replace BK486:=kb_ BK486 hb;replace HB:=bs_ HB hb;(try clear hb);(try clear hb2);(try clear hk);(try clear hi);have hcz125_0:=bc_ BK486 0;have hcz125_1:=bc_ BK486 1;have hcz125_2:=bc_ BK486 2;have hfz125_0:=bz_ BK486 0;have hfz125_1:=bz_ BK486 1;have hfz125_2:=bz_ BK486 2)|((with_reducible refine gate_callee (f:=86) rfl ?_);refine goesM (some 37) Try.func86 #[.agg #[.int .i64 a0_0,.int .i64 a0_1,.int .u64 a0_2],.int .u64 t487,.slice A2 l2.length c2,.int .i64 a3] ?_;(with_reducible refine (r03_Size_half.calls k a0_0 a0_1 a0_2 t487 _ _ l2 a3 t493 _ ?side1 ?side2 A17.out).mono ?_);(case side1=>repeat (first|exact (Kd.C_below HR2.out HB.out)|(with_reducible first|apply cA|apply cN|apply cD)));(case side2=>exact HC2.out);rintro e w126 ⟨rfl,hb⟩;refine ⟨_,rfl,?_⟩;replace HO490:=Aside0.mk (Kd.R_below (rr_ HO490) hb);replace BK486:=kb_ BK486 hb;replace HB:=bs_ HB hb;(try clear hb);(try clear hb2);(try clear hk);(try clear hi)))
      go_ret
      exact ⟨rf_,bl_ HB⟩

end Go.Proofs.Ytdemanikmaafeaa.Pr
-- written by this session's own program (wip/fprint.py), which widens the kit's print by floats
namespace Go.Proofs.Ytdemanikmaafeaa.Pr
open Go.RowKit Go.Proofs.YtdemanikmaafeaaW.PrintWords Go.Proofs.YtdemanikmaafeaaW.PrintLast Go.Proofs.YtdemanikmaafeaaW.PrintMore
attribute [local go_sem] max2_int min2_int max_two min_two max_three min_three max_four min_four   -- for this text's walks alone
set_option linter.unusedVariables false
set_option linter.unusedSimpArgs false

def r03_Round.j0 : Nat → Int → Bool → Bool → List Int → Int → Option (Nat × Int)
 | 0, _, _, _, _, _ => none
 | k + 1, x1, x14, x495000, x495001, x495002 => if x14 = true then (some (0, 1)) else ((r03_Made.f k x495000 x495001 x495002).bind fun bt495 => (if bt495.2.2.2 = true then ((r03_Of64.f).bind fun bt502 => ((r03_Size_Nearby.f k bt502.1 bt502.2.1 bt502.2.2 bt495.1 bt495.2.1 bt495.2.2.1 x1).bind fun t505 => (if bt495.1 = true then (some ((IntKind.u64.wrap (t505 + 9223372036854775808) : Int).toNat, 0)) else (some ((t505 : Int).toNat, 0))))) else (some (0, 2))))
def r03_Round.f (k : Nat) (a0_0 : Bool) (l0_1 : List Int) (a0_2 : Int) (a1 : Int) : Option (Nat × Int) := if a1 < 0 then (r03_Round.j0 k a1 true a0_0 l0_1 a0_2) else (r03_Round.j0 k a1 (decide (a1 > 4)) a0_0 l0_1 a0_2)
theorem r03_Round.mono_l : ∀ k, (∀ y0 y1 y2 y3 y4, LeO (r03_Round.j0 k y0 y1 y2 y3 y4) (r03_Round.j0 (k + 1) y0 y1 y2 y3 y4))
 | 0 => fun _ _ _ _ _ r h => by simp [r03_Round.j0] at h
 | k + 1 => by
  have ih0:=r03_Round.mono_l k
  ·intro y0 y1 y2 y3 y4
   unfold r03_Round.j0
   repeat' first
   | (with_reducible exact ih0 _ _ _ _ _)
   | (with_reducible exact r03_Made.mono _ _ _ _)
   | (with_reducible exact r03_Size_Nearby.mono _ _ _ _ _ _ _ _)
   | (with_reducible exact LeO.refl _)
   | (with_reducible exact LeO.none _)
   | (with_reducible refine LeO.ite ?_ ?_)
   | (with_reducible refine LeO.bind ?_ (fun _ => ?_))
   | exact ih0 _ _ _ _ _
   | exact r03_Made.mono _ _ _ _
   | exact r03_Size_Nearby.mono _ _ _ _ _ _ _ _
   | exact LeO.none _
   | refine LeO.ite ?_ ?_
   | refine LeO.bind ?_ (fun _ => ?_)
theorem r03_Round.mono : ∀ a0 a1 a2 a3 k, LeO (r03_Round.f k a0 a1 a2 a3) (r03_Round.f (k + 1) a0 a1 a2 a3) := by
 intro a0 a1 a2 a3 k
 have ih0:=r03_Round.mono_l k
 unfold r03_Round.f
 repeat' first
   | (with_reducible exact ih0 _ _ _ _ _)
   | (with_reducible exact r03_Made.mono _ _ _ _)
   | (with_reducible exact r03_Size_Nearby.mono _ _ _ _ _ _ _ _)
   | (with_reducible exact LeO.refl _)
   | (with_reducible exact LeO.none _)
   | (with_reducible refine LeO.ite ?_ ?_)
   | (with_reducible refine LeO.bind ?_ (fun _ => ?_))
   | exact ih0 _ _ _ _ _
   | exact r03_Made.mono _ _ _ _
   | exact r03_Size_Nearby.mono _ _ _ _ _ _ _ _
   | exact LeO.none _
   | refine LeO.ite ?_ ?_
   | refine LeO.bind ?_ (fun _ => ?_)
def r03_Round.T6 : Bool × List (List Nat × List Nat) := (true, [([], []), ([], []), ([1], [1]), ([], []), ([3], [3]), ([], []), ([5], [5]), ([], []), ([0, 2, 4, 6, 7, 0], [0, 2, 4, 6, 7]), ([8, 8, 0, 1, 2, 3, 4, 5, 6, 7, 8], [8])])
def r03_Round.B6 : List Nat := [0, 0, 2, 0, 8, 0, 32, 0, 255, 511]
theorem r03_Round.tab6 : rtab .any (opsOf Try.f70 6) = r03_Round.T6 := by kernel_rfl
theorem r03_Round.bits6 : waitsOk r03_Round.T6.2 r03_Round.B6 = true := by kernel_rfl
set_option maxHeartbeats 3000000 in
set_option maxRecDepth 100000 in
theorem r03_Round.calls (k : Nat) (a0_0 : Bool) (A0_1 : Option Addr) (c0_1 : Nat) (l0_1 : List Int) (a0_2 : Int) (a1 : Int) (r1 : Nat) (r2 : Int) (w : World) (hr0_1 : Kd.C (Kd.int .u32) w A0_1 l0_1.length l0_1) (hc0_1 : l0_1.length ≤ c0_1) (h : r03_Round.f k a0_0 l0_1 a0_2 a1 = some (r1, r2)) :
  Calls Try.prog 70 #[.agg #[.bool a0_0,.slice A0_1 l0_1.length c0_1,.int .i64 a0_2],.int .i64 a1] w fun e w'=>e = .returned (.tuple #[.float .f64 r1,.int .i64 r2]) ∧ Below w.heap.size w w':=by
 have hu43:=Try.underlying43
 have HR0_1:=Aside0.mk hr0_1
 have HC0_1:=Aside0.mk hc0_1
 clear hr0_1 hc0_1
 have HB:=Aside0.mk (Below.refl w.heap.size w)
 have H : (if a1 < 0 then (r03_Round.j0 k a1 true a0_0 l0_1 a0_2) else (r03_Round.j0 k a1 (decide (a1 > 4)) a0_0 l0_1 a0_2)) = some (r1,r2):=h
 clear h
 have HC3:=Aside0.mk H
 clear H
 go_enter Try.func70,Try.ntmps70
 go_upto_region 1 with (first|((with_reducible refine gate_dst (N:=2) rfl ?_);refine box_ev (N:=2) (cs:=#[.bool a0_0,.slice A0_1 l0_1.length c0_1,.int .i64 a0_2]) (t:=43) ?_;intro gb494 hg w4 hbox hb;have BK494:=Aside0.mk (hbox);have GW494:=ge_ HB hg;have GE494:=ge_ HB hg;replace HB:=bs_ HB hb;clear hb hbox hg))
 (try simp only [Act.put,List.setIfInBounds_toArray,List.set_cons_zero,List.set_cons_succ])
 go_cut [14] (fun v14 wc=>∃ (kq : Nat) (x14_2 : Bool),v14 = .bool x14_2 ∧ Aside0 (r03_Round.j0 kq a1 x14_2 a0_0 l0_1 a0_2 = some (r1,r2)) ∧ Aside0 (kq ≤ k) ∧ Aside0 (wc.heap[gb494]? = some (.cells #[.bool a0_0,(.slice A0_1 l0_1.length c0_1),.int .i64 a0_2] 43 (0,0))) ∧ Aside0 (Below w.heap.size w wc))
 case first =>
  have H:=HC3.out
  clear HC3
  by_cases c5 : a1 < 0
  ·rw [if_pos c5] at H
   have c5b0 : decide (a1 < 0) = true:=decide_eq_true c5
   clear c5
   (first|rw [c5b0]|(simp only [i64_w,i32_w];rw [c5b0])|skip)
   have H':=Aside0.mk H
   clear H
   go_wp2
   go_meet
   case rel=>exact ⟨_,(true),(by first|rfl|(simp;done)|(simp [*];done)),H',⟨by first|omega|exact Nat.le_refl _⟩,⟨bk_ BK494⟩,⟨bl_ HB⟩⟩
  ·rw [if_neg c5] at H
   have c5b0 : decide (a1 < 0) = false:=decide_eq_false c5
   clear c5
   (first|rw [c5b0]|(simp only [i64_w,i32_w];rw [c5b0])|skip)
   have H':=Aside0.mk H
   clear H
   go_wp2
   go_meet
   case rel=>exact ⟨_,(decide (a1 > 4)),(by first|rfl|(simp;done)|(simp [*];done)),H',⟨by first|omega|exact Nat.le_refl _⟩,⟨bk_ BK494⟩,⟨bl_ HB⟩⟩
 case rest =>
  clear HC3
  try clear p2
  try clear c5
  try clear c5b0
  obtain ⟨kq,x14_2,rfl,HA,HJ2,BK494,HB⟩:=hcut
  cases kq with
  | zero => exact absurd HA.out (by simp [r03_Round.j0])
  | succ kj2 =>
   have H:=HA.out
   clear HA
   simp only [r03_Round.j0] at H
   by_cases c6 : x14_2 = true
   ·subst c6
    have H1 : (some (0,1)) = some (r1,r2):=by rw [if_pos rfl] at H;exact H
    clear H
    have H:=H1
    clear H1
    simp only [Option.some.injEq,Prod.mk.injEq] at H
    obtain ⟨rfl,rfl⟩:=H
    go_wp2
    go_ret2
    exact ⟨rf_,bl_ HB⟩
   ·replace c6:=Bool.eq_false_iff.mpr c6
    subst c6
    have H1 : ((r03_Made.f kj2 a0_0 l0_1 a0_2).bind fun bt495=>(if bt495.2.2.2 = true then ((r03_Of64.f).bind fun bt502=>((r03_Size_Nearby.f kj2 bt502.1 bt502.2.1 bt502.2.2 bt495.1 bt495.2.1 bt495.2.2.1 a1).bind fun t505=>(if bt495.1 = true then (some ((IntKind.u64.wrap (t505 + 9223372036854775808) : Int).toNat,0)) else (some ((t505 : Int).toNat,0))))) else (some (0,2)))) = some (r1,r2):=by rw [if_neg (show ¬ (false = true) by decide)] at H;exact H
    clear H
    have H:=H1
    clear H1
    obtain ⟨⟨t495,t496,t499,t500⟩,A7,H⟩:=ob_ H
    try dsimp only at H
    by_cases c8 : t500 = true
    ·subst c8
     have H1 : ((r03_Of64.f).bind fun bt502=>((r03_Size_Nearby.f kj2 bt502.1 bt502.2.1 bt502.2.2 t495 t496 t499 a1).bind fun t505=>(if t495 = true then (some ((IntKind.u64.wrap (t505 + 9223372036854775808) : Int).toNat,0)) else (some ((t505 : Int).toNat,0))))) = some (r1,r2):=by rw [if_pos rfl] at H;exact H
     clear H
     have H:=H1
     clear H1
     obtain ⟨⟨t502,t503,t504⟩,A9,H⟩:=ob_ H
     try dsimp only at H
     obtain ⟨t505,A10,H⟩:=ob_ H
     try dsimp only at H
     by_cases c11 : t495 = true
     ·subst c11
      have H1 : (some ((IntKind.u64.wrap (t505 + 9223372036854775808) : Int).toNat,0)) = some (r1,r2):=by rw [if_pos rfl] at H;exact H
      clear H
      have H:=H1
      clear H1
      simp only [Option.some.injEq,Prod.mk.injEq] at H
      obtain ⟨rfl,rfl⟩:=H
      have hcz12_0:=bc_ BK494 0
      have hcz12_1:=bc_ BK494 1
      have hcz12_2:=bc_ BK494 2
      have hfz12_0:=bz_ BK494 0
      have hfz12_1:=bz_ BK494 1
      have hfz12_2:=bz_ BK494 2
      try go_wp2_with (first|((with_reducible refine gate_callee (f:=57) rfl ?_);refine goesM (some 17) Try.func57 #[.agg #[.bool a0_0,.slice A0_1 l0_1.length c0_1,.int .i64 a0_2]] ?_;(with_reducible refine (r03_Made.calls kj2 a0_0 _ _ l0_1 a0_2 true t496 t499 true _ ?side1 ?side2 A7.out).mono ?_);(case side1=>repeat (first|exact (Kd.C_below HR0_1.out HB.out)|(with_reducible first|apply cA|apply cN|apply cD)));(case side2=>exact HC0_1.out);rintro e w13 ⟨v497,rfl,ho0,hb⟩;refine ⟨_,rfl,?_⟩;have HO498:=Aside0.mk (Kd.R_lower ho0 (below_size (bl_ HB)));replace BK494:=kb_ BK494 hb;replace HB:=bs_ HB hb;(try clear hb);(try clear hb2);(try clear hk);(try clear hi);(try clear ho0))|((with_reducible refine gate_dst (N:=6) rfl ?_);refine box_ev (N:=6) (cs:=#[.bool false,.slice none 0 0,.int .i64 0]) (t:=43) ?_;intro gb501 hg w14 hbox hb;replace HO498:=Aside0.mk (Kd.R_below (rr_ HO498) hb);have BK501:=Aside0.mk (hbox);have GW501:=ge_ HB hg;have GE501:=ge_ HB hg;replace HB:=bs_ HB hb;have NB494_501:=nlt_ BK494 hg;have NB501_494:=ngt_ BK494 hg;replace BK494:=kb_ BK494 hb;clear hb hbox hg;have hnb15:=NB501_494.out;have hnc15:=NB494_501.out;have hcz16_0:=bc_ BK501 0;have hcz16_1:=bc_ BK501 1;have hcz16_2:=bc_ BK501 2;have hfz16_0:=bz_ BK501 0;have hfz16_1:=bz_ BK501 1;have hfz16_2:=bz_ BK501 2;obtain ⟨Ao17,co17,eo17⟩:=Kd.R_slice HO498.out;subst eo17))
      have n0_ : Aside0 (Kd.R (Kd.int .u32) 72 (((w14.setCell ⟨gb501,0,none⟩ (.bool true)).setCell ⟨gb501,1,none⟩ (.slice Ao17 t496.length co17)).setCell ⟨gb501,2,none⟩ (.int .i64 t499)) w.heap.size (fun _=>True) (.slice Ao17 t496.length co17) t496):=⟨by (with_reducible repeat (first|apply rA|apply rN|apply rD));exact Kd.R_mono (Kd.R_far (p:=⟨gb501,2,none⟩) (Kd.R_far (p:=⟨gb501,1,none⟩) (Kd.R_far (p:=⟨gb501,0,none⟩) (Kd.R_types HO498.out BK501.out (by decide)) (fun _ hk=>hk.2) (.bool true)) (fun _ hk=>hk.2) (.slice Ao17 t496.length co17)) (fun _ hk=>hk.2) (.int .i64 t499)) (fun _ hk=>trivial)⟩
      have n1_ : Aside0 ((((w14.setCell ⟨gb501,0,none⟩ (.bool true)).setCell ⟨gb501,1,none⟩ (.slice Ao17 t496.length co17)).setCell ⟨gb501,2,none⟩ (.int .i64 t499)).heap[gb494]? = some (.cells #[.bool a0_0,.slice A0_1 l0_1.length c0_1,.int .i64 a0_2] 43 (0,0))):=⟨by (with_reducible repeat (first|apply bN|apply bD|apply bA));refine blk_far ?_ NB494_501.out _;(with_reducible repeat (first|apply bN|apply bD|apply bA));refine blk_far ?_ NB494_501.out _;(with_reducible repeat (first|apply bN|apply bD|apply bA));refine blk_far ?_ NB494_501.out _;exact bk_ BK494⟩
      have n2_ : Aside0 ((((w14.setCell ⟨gb501,0,none⟩ (.bool true)).setCell ⟨gb501,1,none⟩ (.slice Ao17 t496.length co17)).setCell ⟨gb501,2,none⟩ (.int .i64 t499)).heap[gb501]? = some (.cells #[.bool true,.slice Ao17 t496.length co17,.int .i64 t499] 43 (0,0))):=⟨by (with_reducible repeat (first|apply bN|apply bD|apply bA));refine blk_put (cs:=#[.bool true,.slice Ao17 t496.length co17,.int .i64 0]) ?_ 2 _ rfl;(with_reducible repeat (first|apply bN|apply bD|apply bA));refine blk_put (cs:=#[.bool true,.slice none 0 0,.int .i64 0]) ?_ 1 _ rfl;(with_reducible repeat (first|apply bN|apply bD|apply bA));refine blk_put (cs:=#[.bool false,.slice none 0 0,.int .i64 0]) ?_ 0 _ rfl;exact bk_ BK501⟩
      have n3_ : Aside0 (Below w.heap.size w (((w14.setCell ⟨gb501,0,none⟩ (.bool true)).setCell ⟨gb501,1,none⟩ (.slice Ao17 t496.length co17)).setCell ⟨gb501,2,none⟩ (.int .i64 t499))):=⟨bl_ HB⟩
      (try clear HO498)
      (try clear BK494)
      (try clear BK501)
      (try clear HB)
      generalize (((w14.setCell ⟨gb501,0,none⟩ (.bool true)).setCell ⟨gb501,1,none⟩ (.slice Ao17 t496.length co17)).setCell ⟨gb501,2,none⟩ (.int .i64 t499)) = w18 at n0_ n1_ n2_ n3_ ⊢
      have HO498:=n0_
      have BK494:=n1_
      have BK501:=n2_
      have HB:=n3_
      clear n0_ n1_ n2_ n3_
      have n0_:=Aside0.mk (Kd.R_drew HO498.out)
      have n1_:=Aside0.mk (blk_drew BK494.out)
      have n2_:=Aside0.mk (blk_drew BK501.out)
      have n3_:=Aside0.mk (below_drew1 HB.out)
      clear HO498
      clear BK494
      clear BK501
      clear HB
      have HO498:=n0_
      have BK494:=n1_
      have BK501:=n2_
      have HB:=n3_
      clear n0_ n1_ n2_ n3_
      refine start_ (n:=10) (S:=fun w'=>w'.cell? ⟨gb501,0,none⟩ = some (.bool true) ∧ w'.cell? ⟨gb501,1,none⟩ = some (.slice Ao17 t496.length co17) ∧ w'.cell? ⟨gb501,2,none⟩ = some (.int .i64 t499)) (ds:=[]) #[false,false,false,false,false,false,false,false,false,false] (by kernel_rfl) rfl rfl ⟨(bc_ BK501 0),(bc_ BK501 1),(bc_ BK501 2)⟩ (fun hHeld=>?_);refine with_tabW r03_Round.tab6 r03_Round.bits6 (fun HT_ HW_=>?_)
      generalize w18.drew = w19 at HO498 BK494 BK501 HB hHeld ⊢
      refine pure_ (i:=1) (N:=some 23) (v:=?_) (a':=?_) #[false,true,false,false,false,false,false,false,false,false] rfl rfl (any_of HT_.out (by kernel_rfl)) (fun _ _ _ h=>h) (Or.inl ⟨by rfl,?_⟩) ?_ ?_
      rotate_left
      ·intro w'
       go_simp
       with_reducible rfl
      rotate_left
      ·exact nf_
      refine pure_ (i:=3) (N:=some 25) (v:=?_) (a':=?_) #[false,true,false,true,false,false,false,false,false,false] rfl rfl (any_of HT_.out (by kernel_rfl)) (fun _ _ _ h=>h) (Or.inl ⟨by rfl,?_⟩) ?_ ?_
      rotate_left
      ·intro w'
       go_simp
       with_reducible rfl
      rotate_left
      ·exact nf_
      refine pure_ (i:=5) (N:=some 27) (v:=?_) (a':=?_) #[false,true,false,true,false,true,false,false,false,false] rfl rfl (any_of HT_.out (by kernel_rfl)) (fun _ _ _ h=>h) (Or.inl ⟨by rfl,?_⟩) ?_ ?_
      rotate_left
      ·intro w'
       go_simp
       with_reducible rfl
      rotate_left
      ·exact nf_
      refine pure_ (i:=7) (N:=some 29) (v:=?_) (a':=?_) #[false,true,false,true,false,true,false,true,false,false] rfl rfl (any_of HT_.out (by kernel_rfl)) (fun _ _ _ h=>h) (Or.inl ⟨by rfl,?_⟩) ?_ ?_
      rotate_left
      ·intro w'
       go_simp
       with_reducible rfl
      rotate_left
      ·exact nf_
      refine take_ (i:=2) (N:=some 24) (v:=?_) (a':=?_) #[false,true,true,true,false,true,false,true,false,false] rfl rfl (take_ofW HT_.out HW_.out (by kernel_rfl)) (fun _ _ _ h=>h) (Or.inl ⟨by rfl,?_⟩) hHeld ?_ ?_
      rotate_left
      ·rintro w' ⟨s0,s1,s2⟩
       go_simp
       with_reducible rfl
      rotate_left
      ·exact nf_
      refine take_ (i:=4) (N:=some 26) (v:=?_) (a':=?_) #[false,true,true,true,true,true,false,true,false,false] rfl rfl (take_ofW HT_.out HW_.out (by kernel_rfl)) (fun _ _ _ h=>h) (Or.inl ⟨by rfl,?_⟩) hHeld ?_ ?_
      rotate_left
      ·rintro w' ⟨s0,s1,s2⟩
       go_simp
       with_reducible rfl
      rotate_left
      ·exact nf_
      refine take_ (i:=6) (N:=some 28) (v:=?_) (a':=?_) #[false,true,true,true,true,true,true,true,false,false] rfl rfl (take_ofW HT_.out HW_.out (by kernel_rfl)) (fun _ _ _ h=>h) (Or.inl ⟨by rfl,?_⟩) hHeld ?_ ?_
      rotate_left
      ·rintro w' ⟨s0,s1,s2⟩
       go_simp
       with_reducible rfl
      rotate_left
      ·exact nf_
      refine one_ (i:=0) (N:=some 22) #[true,true,true,true,true,true,true,true,false,false] rfl rfl (one_of HT_.out (by kernel_rfl)) (by decide) (fun K hK=>?_)
      refine goes_ Try.func71 (by kernel_rfl) rfl #[] (by rfl) rfl rfl (by (try simp only [List.map_toArray,List.map_cons,List.map_nil]);first|done|rfl|(simp only [List.length_drop,List.length_take];rfl)) ?_
      with_reducible refine (r03_Of64.calls  t502 t503 t504 _ A9.out).mono ?_
      rintro e w20 ⟨rfl,hb⟩
      refine ⟨_,rfl,?_⟩
      have n0_:=Aside0.mk (Kd.R_below (rr_ HO498) hb)
      have n1_:=kb_ BK494 hb
      have n2_:=kb_ BK501 hb
      have n3_:=bs_ HB hb
      clear HO498
      clear BK494
      clear BK501
      clear HB
      have HO498:=n0_
      have BK494:=n1_
      have BK501:=n2_
      have HB:=n3_
      clear n0_ n1_ n2_ n3_
      (try clear hb)
      (try clear hb2)
      (try clear hk)
      (try clear hi)
      refine hK.out _ _ ⟨(bc_ BK501 0),(bc_ BK501 1),(bc_ BK501 2)⟩ (fun hHeld=>?_)
      clear hK K
      refine norm_ (a':=?_) ?_ ?_
      rotate_left
      ·show Act.put _ (some 22) _ = _
       simp only [Act.put,List.setIfInBounds_toArray,List.set_cons_zero,List.set_cons_succ,i64_w,i32_w]
       rfl
      refine one_ (i:=8) (N:=some 30) #[true,true,true,true,true,true,true,true,true,false] rfl rfl (one_of HT_.out (by kernel_rfl)) (by decide) (fun K hK=>?_)
      refine goes_ Try.func81 (by kernel_rfl) rfl #[.agg #[.int .i64 t502,.int .i64 t503,.int .u64 t504],.bool true,.slice Ao17 t496.length co17,.int .i64 t499,.int .i64 a1] (by rfl) rfl rfl (by (try simp only [List.map_toArray,List.map_cons,List.map_nil]);first|done|rfl|(simp only [List.length_drop,List.length_take];rfl)) ?_
      with_reducible refine (r03_Size_Nearby.calls kj2 t502 t503 t504 true _ _ t496 t499 a1 t505 _ ?side1 ?side2 A10.out).mono ?_
      (case side1=>repeat (first|exact (Kd.R_reads' HO498.out).2.2|(with_reducible first|apply cA|apply cN|apply cD)))
      (case side2=>exact (Kd.R_reads' HO498.out).2.1)
      rintro e w21 ⟨rfl,hb⟩
      refine ⟨_,rfl,?_⟩
      have n0_:=Aside0.mk (Kd.R_below (rr_ HO498) hb)
      have n1_:=kb_ BK494 hb
      have n2_:=kb_ BK501 hb
      have n3_:=bs_ HB hb
      clear HO498
      clear BK494
      clear BK501
      clear HB
      have HO498:=n0_
      have BK494:=n1_
      have BK501:=n2_
      have HB:=n3_
      clear n0_ n1_ n2_ n3_
      (try clear hb)
      (try clear hb2)
      (try clear hk)
      (try clear hi)
      refine hK.out _ _ ⟨(bc_ BK501 0),(bc_ BK501 1),(bc_ BK501 2)⟩ (fun hHeld=>?_)
      clear hK K
      refine norm_ (a':=?_) ?_ ?_
      rotate_left
      ·show Act.put _ (some 30) _ = _
       simp only [Act.put,List.setIfInBounds_toArray,List.set_cons_zero,List.set_cons_succ,i64_w,i32_w]
       rfl
      refine pure_ (i:=9) (N:=some 8) (v:=?_) (a':=?_) #[true,true,true,true,true,true,true,true,true,true] rfl rfl (any_of HT_.out (by kernel_rfl)) (fun _ _ _ h=>h) (Or.inl ⟨by rfl,?_⟩) ?_ ?_
      rotate_left
      ·intro w'
       go_simp
       with_reducible rfl
      rotate_left
      ·exact nf_
      refine done_ (done_of HT_.out (by kernel_rfl)) ?_
      have hcz22_0:=bc_ BK501 0
      have hcz22_1:=bc_ BK501 1
      have hcz22_2:=bc_ BK501 2
      have hfz22_0:=bz_ BK501 0
      have hfz22_1:=bz_ BK501 1
      have hfz22_2:=bz_ BK501 2
      try go_wp2
      go_ret2
      exact ⟨rf_,bl_ HB⟩
     ·replace c11:=Bool.eq_false_iff.mpr c11
      subst c11
      have H1 : (some ((t505 : Int).toNat,0)) = some (r1,r2):=by rw [if_neg (show ¬ (false = true) by decide)] at H;exact H
      clear H
      have H:=H1
      clear H1
      simp only [Option.some.injEq,Prod.mk.injEq] at H
      obtain ⟨rfl,rfl⟩:=H
      have hcz23_0:=bc_ BK494 0
      have hcz23_1:=bc_ BK494 1
      have hcz23_2:=bc_ BK494 2
      have hfz23_0:=bz_ BK494 0
      have hfz23_1:=bz_ BK494 1
      have hfz23_2:=bz_ BK494 2
      try go_wp2_with (first|((with_reducible refine gate_callee (f:=57) rfl ?_);refine goesM (some 17) Try.func57 #[.agg #[.bool a0_0,.slice A0_1 l0_1.length c0_1,.int .i64 a0_2]] ?_;(with_reducible refine (r03_Made.calls kj2 a0_0 _ _ l0_1 a0_2 false t496 t499 true _ ?side1 ?side2 A7.out).mono ?_);(case side1=>repeat (first|exact (Kd.C_below HR0_1.out HB.out)|(with_reducible first|apply cA|apply cN|apply cD)));(case side2=>exact HC0_1.out);rintro e w24 ⟨v497,rfl,ho0,hb⟩;refine ⟨_,rfl,?_⟩;have HO498:=Aside0.mk (Kd.R_lower ho0 (below_size (bl_ HB)));replace BK494:=kb_ BK494 hb;replace HB:=bs_ HB hb;(try clear hb);(try clear hb2);(try clear hk);(try clear hi);(try clear ho0))|((with_reducible refine gate_dst (N:=6) rfl ?_);refine box_ev (N:=6) (cs:=#[.bool false,.slice none 0 0,.int .i64 0]) (t:=43) ?_;intro gb501 hg w25 hbox hb;replace HO498:=Aside0.mk (Kd.R_below (rr_ HO498) hb);have BK501:=Aside0.mk (hbox);have GW501:=ge_ HB hg;have GE501:=ge_ HB hg;replace HB:=bs_ HB hb;have NB494_501:=nlt_ BK494 hg;have NB501_494:=ngt_ BK494 hg;replace BK494:=kb_ BK494 hb;clear hb hbox hg;have hnb26:=NB501_494.out;have hnc26:=NB494_501.out;have hcz27_0:=bc_ BK501 0;have hcz27_1:=bc_ BK501 1;have hcz27_2:=bc_ BK501 2;have hfz27_0:=bz_ BK501 0;have hfz27_1:=bz_ BK501 1;have hfz27_2:=bz_ BK501 2;obtain ⟨Ao28,co28,eo28⟩:=Kd.R_slice HO498.out;subst eo28))
      have n0_ : Aside0 (Kd.R (Kd.int .u32) 72 (((w25.setCell ⟨gb501,0,none⟩ (.bool false)).setCell ⟨gb501,1,none⟩ (.slice Ao28 t496.length co28)).setCell ⟨gb501,2,none⟩ (.int .i64 t499)) w.heap.size (fun _=>True) (.slice Ao28 t496.length co28) t496):=⟨by (with_reducible repeat (first|apply rA|apply rN|apply rD));exact Kd.R_mono (Kd.R_far (p:=⟨gb501,2,none⟩) (Kd.R_far (p:=⟨gb501,1,none⟩) (Kd.R_far (p:=⟨gb501,0,none⟩) (Kd.R_types HO498.out BK501.out (by decide)) (fun _ hk=>hk.2) (.bool false)) (fun _ hk=>hk.2) (.slice Ao28 t496.length co28)) (fun _ hk=>hk.2) (.int .i64 t499)) (fun _ hk=>trivial)⟩
      have n1_ : Aside0 ((((w25.setCell ⟨gb501,0,none⟩ (.bool false)).setCell ⟨gb501,1,none⟩ (.slice Ao28 t496.length co28)).setCell ⟨gb501,2,none⟩ (.int .i64 t499)).heap[gb494]? = some (.cells #[.bool a0_0,.slice A0_1 l0_1.length c0_1,.int .i64 a0_2] 43 (0,0))):=⟨by (with_reducible repeat (first|apply bN|apply bD|apply bA));refine blk_far ?_ NB494_501.out _;(with_reducible repeat (first|apply bN|apply bD|apply bA));refine blk_far ?_ NB494_501.out _;(with_reducible repeat (first|apply bN|apply bD|apply bA));refine blk_far ?_ NB494_501.out _;exact bk_ BK494⟩
      have n2_ : Aside0 ((((w25.setCell ⟨gb501,0,none⟩ (.bool false)).setCell ⟨gb501,1,none⟩ (.slice Ao28 t496.length co28)).setCell ⟨gb501,2,none⟩ (.int .i64 t499)).heap[gb501]? = some (.cells #[.bool false,.slice Ao28 t496.length co28,.int .i64 t499] 43 (0,0))):=⟨by (with_reducible repeat (first|apply bN|apply bD|apply bA));refine blk_put (cs:=#[.bool false,.slice Ao28 t496.length co28,.int .i64 0]) ?_ 2 _ rfl;(with_reducible repeat (first|apply bN|apply bD|apply bA));refine blk_put (cs:=#[.bool false,.slice none 0 0,.int .i64 0]) ?_ 1 _ rfl;(with_reducible repeat (first|apply bN|apply bD|apply bA));refine blk_put (cs:=#[.bool false,.slice none 0 0,.int .i64 0]) ?_ 0 _ rfl;exact bk_ BK501⟩
      have n3_ : Aside0 (Below w.heap.size w (((w25.setCell ⟨gb501,0,none⟩ (.bool false)).setCell ⟨gb501,1,none⟩ (.slice Ao28 t496.length co28)).setCell ⟨gb501,2,none⟩ (.int .i64 t499))):=⟨bl_ HB⟩
      (try clear HO498)
      (try clear BK494)
      (try clear BK501)
      (try clear HB)
      generalize (((w25.setCell ⟨gb501,0,none⟩ (.bool false)).setCell ⟨gb501,1,none⟩ (.slice Ao28 t496.length co28)).setCell ⟨gb501,2,none⟩ (.int .i64 t499)) = w29 at n0_ n1_ n2_ n3_ ⊢
      have HO498:=n0_
      have BK494:=n1_
      have BK501:=n2_
      have HB:=n3_
      clear n0_ n1_ n2_ n3_
      have n0_:=Aside0.mk (Kd.R_drew HO498.out)
      have n1_:=Aside0.mk (blk_drew BK494.out)
      have n2_:=Aside0.mk (blk_drew BK501.out)
      have n3_:=Aside0.mk (below_drew1 HB.out)
      clear HO498
      clear BK494
      clear BK501
      clear HB
      have HO498:=n0_
      have BK494:=n1_
      have BK501:=n2_
      have HB:=n3_
      clear n0_ n1_ n2_ n3_
      refine start_ (n:=10) (S:=fun w'=>w'.cell? ⟨gb501,0,none⟩ = some (.bool false) ∧ w'.cell? ⟨gb501,1,none⟩ = some (.slice Ao28 t496.length co28) ∧ w'.cell? ⟨gb501,2,none⟩ = some (.int .i64 t499)) (ds:=[]) #[false,false,false,false,false,false,false,false,false,false] (by kernel_rfl) rfl rfl ⟨(bc_ BK501 0),(bc_ BK501 1),(bc_ BK501 2)⟩ (fun hHeld=>?_);refine with_tabW r03_Round.tab6 r03_Round.bits6 (fun HT_ HW_=>?_)
      generalize w29.drew = w30 at HO498 BK494 BK501 HB hHeld ⊢
      refine pure_ (i:=1) (N:=some 23) (v:=?_) (a':=?_) #[false,true,false,false,false,false,false,false,false,false] rfl rfl (any_of HT_.out (by kernel_rfl)) (fun _ _ _ h=>h) (Or.inl ⟨by rfl,?_⟩) ?_ ?_
      rotate_left
      ·intro w'
       go_simp
       with_reducible rfl
      rotate_left
      ·exact nf_
      refine pure_ (i:=3) (N:=some 25) (v:=?_) (a':=?_) #[false,true,false,true,false,false,false,false,false,false] rfl rfl (any_of HT_.out (by kernel_rfl)) (fun _ _ _ h=>h) (Or.inl ⟨by rfl,?_⟩) ?_ ?_
      rotate_left
      ·intro w'
       go_simp
       with_reducible rfl
      rotate_left
      ·exact nf_
      refine pure_ (i:=5) (N:=some 27) (v:=?_) (a':=?_) #[false,true,false,true,false,true,false,false,false,false] rfl rfl (any_of HT_.out (by kernel_rfl)) (fun _ _ _ h=>h) (Or.inl ⟨by rfl,?_⟩) ?_ ?_
      rotate_left
      ·intro w'
       go_simp
       with_reducible rfl
      rotate_left
      ·exact nf_
      refine pure_ (i:=7) (N:=some 29) (v:=?_) (a':=?_) #[false,true,false,true,false,true,false,true,false,false] rfl rfl (any_of HT_.out (by kernel_rfl)) (fun _ _ _ h=>h) (Or.inl ⟨by rfl,?_⟩) ?_ ?_
      rotate_left
      ·intro w'
       go_simp
       with_reducible rfl
      rotate_left
      ·exact nf_
      refine take_ (i:=2) (N:=some 24) (v:=?_) (a':=?_) #[false,true,true,true,false,true,false,true,false,false] rfl rfl (take_ofW HT_.out HW_.out (by kernel_rfl)) (fun _ _ _ h=>h) (Or.inl ⟨by rfl,?_⟩) hHeld ?_ ?_
      rotate_left
      ·rintro w' ⟨s0,s1,s2⟩
       go_simp
       with_reducible rfl
      rotate_left
      ·exact nf_
      refine take_ (i:=4) (N:=some 26) (v:=?_) (a':=?_) #[false,true,true,true,true,true,false,true,false,false] rfl rfl (take_ofW HT_.out HW_.out (by kernel_rfl)) (fun _ _ _ h=>h) (Or.inl ⟨by rfl,?_⟩) hHeld ?_ ?_
      rotate_left
      ·rintro w' ⟨s0,s1,s2⟩
       go_simp
       with_reducible rfl
      rotate_left
      ·exact nf_
      refine take_ (i:=6) (N:=some 28) (v:=?_) (a':=?_) #[false,true,true,true,true,true,true,true,false,false] rfl rfl (take_ofW HT_.out HW_.out (by kernel_rfl)) (fun _ _ _ h=>h) (Or.inl ⟨by rfl,?_⟩) hHeld ?_ ?_
      rotate_left
      ·rintro w' ⟨s0,s1,s2⟩
       go_simp
       with_reducible rfl
      rotate_left
      ·exact nf_
      refine one_ (i:=0) (N:=some 22) #[true,true,true,true,true,true,true,true,false,false] rfl rfl (one_of HT_.out (by kernel_rfl)) (by decide) (fun K hK=>?_)
      refine goes_ Try.func71 (by kernel_rfl) rfl #[] (by rfl) rfl rfl (by (try simp only [List.map_toArray,List.map_cons,List.map_nil]);first|done|rfl|(simp only [List.length_drop,List.length_take];rfl)) ?_
      with_reducible refine (r03_Of64.calls  t502 t503 t504 _ A9.out).mono ?_
      rintro e w31 ⟨rfl,hb⟩
      refine ⟨_,rfl,?_⟩
      have n0_:=Aside0.mk (Kd.R_below (rr_ HO498) hb)
      have n1_:=kb_ BK494 hb
      have n2_:=kb_ BK501 hb
      have n3_:=bs_ HB hb
      clear HO498
      clear BK494
      clear BK501
      clear HB
      have HO498:=n0_
      have BK494:=n1_
      have BK501:=n2_
      have HB:=n3_
      clear n0_ n1_ n2_ n3_
      (try clear hb)
      (try clear hb2)
      (try clear hk)
      (try clear hi)
      refine hK.out _ _ ⟨(bc_ BK501 0),(bc_ BK501 1),(bc_ BK501 2)⟩ (fun hHeld=>?_)
      clear hK K
      refine norm_ (a':=?_) ?_ ?_
      rotate_left
      ·show Act.put _ (some 22) _ = _
       simp only [Act.put,List.setIfInBounds_toArray,List.set_cons_zero,List.set_cons_succ,i64_w,i32_w]
       rfl
      refine one_ (i:=8) (N:=some 30) #[true,true,true,true,true,true,true,true,true,false] rfl rfl (one_of HT_.out (by kernel_rfl)) (by decide) (fun K hK=>?_)
      refine goes_ Try.func81 (by kernel_rfl) rfl #[.agg #[.int .i64 t502,.int .i64 t503,.int .u64 t504],.bool false,.slice Ao28 t496.length co28,.int .i64 t499,.int .i64 a1] (by rfl) rfl rfl (by (try simp only [List.map_toArray,List.map_cons,List.map_nil]);first|done|rfl|(simp only [List.length_drop,List.length_take];rfl)) ?_
      with_reducible refine (r03_Size_Nearby.calls kj2 t502 t503 t504 false _ _ t496 t499 a1 t505 _ ?side1 ?side2 A10.out).mono ?_
      (case side1=>repeat (first|exact (Kd.R_reads' HO498.out).2.2|(with_reducible first|apply cA|apply cN|apply cD)))
      (case side2=>exact (Kd.R_reads' HO498.out).2.1)
      rintro e w32 ⟨rfl,hb⟩
      refine ⟨_,rfl,?_⟩
      have n0_:=Aside0.mk (Kd.R_below (rr_ HO498) hb)
      have n1_:=kb_ BK494 hb
      have n2_:=kb_ BK501 hb
      have n3_:=bs_ HB hb
      clear HO498
      clear BK494
      clear BK501
      clear HB
      have HO498:=n0_
      have BK494:=n1_
      have BK501:=n2_
      have HB:=n3_
      clear n0_ n1_ n2_ n3_
      (try clear hb)
      (try clear hb2)
      (try clear hk)
      (try clear hi)
      refine hK.out _ _ ⟨(bc_ BK501 0),(bc_ BK501 1),(bc_ BK501 2)⟩ (fun hHeld=>?_)
      clear hK K
      refine norm_ (a':=?_) ?_ ?_
      rotate_left
      ·show Act.put _ (some 30) _ = _
       simp only [Act.put,List.setIfInBounds_toArray,List.set_cons_zero,List.set_cons_succ,i64_w,i32_w]
       rfl
      refine pure_ (i:=9) (N:=some 8) (v:=?_) (a':=?_) #[true,true,true,true,true,true,true,true,true,true] rfl rfl (any_of HT_.out (by kernel_rfl)) (fun _ _ _ h=>h) (Or.inl ⟨by rfl,?_⟩) ?_ ?_
      rotate_left
      ·intro w'
       go_simp
       with_reducible rfl
      rotate_left
      ·exact nf_
      refine done_ (done_of HT_.out (by kernel_rfl)) ?_
      have hcz33_0:=bc_ BK501 0
      have hcz33_1:=bc_ BK501 1
      have hcz33_2:=bc_ BK501 2
      have hfz33_0:=bz_ BK501 0
      have hfz33_1:=bz_ BK501 1
      have hfz33_2:=bz_ BK501 2
      try go_wp2
      go_ret2
      exact ⟨rf_,bl_ HB⟩
    ·replace c8:=Bool.eq_false_iff.mpr c8
     subst c8
     have H1 : (some (0,2)) = some (r1,r2):=by rw [if_neg (show ¬ (false = true) by decide)] at H;exact H
     clear H
     have H:=H1
     clear H1
     simp only [Option.some.injEq,Prod.mk.injEq] at H
     obtain ⟨rfl,rfl⟩:=H
     have hcz34_0:=bc_ BK494 0
     have hcz34_1:=bc_ BK494 1
     have hcz34_2:=bc_ BK494 2
     have hfz34_0:=bz_ BK494 0
     have hfz34_1:=bz_ BK494 1
     have hfz34_2:=bz_ BK494 2
     go_wp2_with (first|((with_reducible refine gate_callee (f:=57) rfl ?_);refine goesM (some 17) Try.func57 #[.agg #[.bool a0_0,.slice A0_1 l0_1.length c0_1,.int .i64 a0_2]] ?_;(with_reducible refine (r03_Made.calls kj2 a0_0 _ _ l0_1 a0_2 t495 t496 t499 false _ ?side1 ?side2 A7.out).mono ?_);(case side1=>repeat (first|exact (Kd.C_below HR0_1.out HB.out)|(with_reducible first|apply cA|apply cN|apply cD)));(case side2=>exact HC0_1.out);rintro e w35 ⟨v497,rfl,ho0,hb⟩;refine ⟨_,rfl,?_⟩;have HO498:=Aside0.mk (Kd.R_lower ho0 (below_size (bl_ HB)));replace BK494:=kb_ BK494 hb;replace HB:=bs_ HB hb;(try clear hb);(try clear hb2);(try clear hk);(try clear hi);(try clear ho0))|((with_reducible refine gate_dst (N:=6) rfl ?_);refine box_ev (N:=6) (cs:=#[.bool false,.slice none 0 0,.int .i64 0]) (t:=43) ?_;intro gb501 hg w36 hbox hb;replace HO498:=Aside0.mk (Kd.R_below (rr_ HO498) hb);have BK501:=Aside0.mk (hbox);have GW501:=ge_ HB hg;have GE501:=ge_ HB hg;replace HB:=bs_ HB hb;have NB494_501:=nlt_ BK494 hg;have NB501_494:=ngt_ BK494 hg;replace BK494:=kb_ BK494 hb;clear hb hbox hg;have hnb37:=NB501_494.out;have hnc37:=NB494_501.out;have hcz38_0:=bc_ BK501 0;have hcz38_1:=bc_ BK501 1;have hcz38_2:=bc_ BK501 2;have hfz38_0:=bz_ BK501 0;have hfz38_1:=bz_ BK501 1;have hfz38_2:=bz_ BK501 2;obtain ⟨Ao39,co39,eo39⟩:=Kd.R_slice HO498.out;subst eo39))
     go_ret2
     exact ⟨rf_,bl_ HB⟩

end Go.Proofs.Ytdemanikmaafeaa.Pr
-- written by this session's own program (wip/fprint.py), which widens the kit's print by floats
namespace Go.Proofs.Ytdemanikmaafeaa.Pr
open Go.RowKit Go.Proofs.YtdemanikmaafeaaW.PrintWords Go.Proofs.YtdemanikmaafeaaW.PrintLast Go.Proofs.YtdemanikmaafeaaW.PrintMore
attribute [local go_sem] max2_int min2_int max_two min_two max_three min_three max_four min_four   -- for this text's walks alone
set_option linter.unusedVariables false
set_option linter.unusedSimpArgs false

def r05_Plus.j0 : Nat → Nat → Nat → Bool → Bool → Bool → Option (Nat)
 | 0, _, _, _, _, _ => none
 | k + 1, x0, x1, x7, x8, x25 => if x25 = true then ((r05_Odd.f).bind fun t512 => (some t512)) else (if x7 = true then (some x0) else (if x8 = true then (some x1) else ((r03_Of.f k x0).bind fun bt513 => ((r03_Of.f k x1).bind fun bt520 => ((r03_Add.f k bt513.1 bt513.2.1 bt513.2.2.1 bt520.1 bt520.2.1 bt520.2.2.1).bind fun bt527 => (if (bt527.2.1.length : Int) = 0 then ((r05_Neg.f x0).bind fun t534 => (if t534 = true then ((r05_Neg.f x1).bind fun t535 => ((r05_signed.f 0 t535).bind fun t536 => (some t536))) else ((r05_signed.f 0 false).bind fun t537 => (some t537)))) else ((r03_Round.f k bt527.1 bt527.2.1 bt527.2.2.1 0).bind fun bt538 => (some bt538.1))))))))
def r05_Plus.f (k : Nat) (a0 : Nat) (a1 : Nat) : Option (Nat) := (r05_IsOdd.f a0).bind fun t506 => ((r05_IsOdd.f a1).bind fun t507 => ((r05_IsEndless.f a0).bind fun t508 => ((r05_IsEndless.f a1).bind fun t509 => (if t506 = true then (r05_Plus.j0 k a0 a1 t508 t509 true) else (if t507 = true then (r05_Plus.j0 k a0 a1 t508 t509 true) else (if t508 = true then (if t509 = true then ((r05_Neg.f a0).bind fun t510 => ((r05_Neg.f a1).bind fun t511 => (r05_Plus.j0 k a0 a1 t508 t509 (t510 != t511)))) else (r05_Plus.j0 k a0 a1 t508 t509 false)) else (r05_Plus.j0 k a0 a1 t508 t509 false)))))))
theorem r05_Plus.mono_l : ∀ k, (∀ y0 y1 y2 y3 y4, LeO (r05_Plus.j0 k y0 y1 y2 y3 y4) (r05_Plus.j0 (k + 1) y0 y1 y2 y3 y4))
 | 0 => fun _ _ _ _ _ r h => by simp [r05_Plus.j0] at h
 | k + 1 => by
  have ih0:=r05_Plus.mono_l k
  ·intro y0 y1 y2 y3 y4
   unfold r05_Plus.j0
   repeat' first
   | (with_reducible exact ih0 _ _ _ _ _)
   | (with_reducible exact r03_Add.mono _ _ _ _ _ _ _)
   | (with_reducible exact r03_Of.mono _ _)
   | (with_reducible exact r03_Round.mono _ _ _ _ _)
   | (with_reducible exact LeO.refl _)
   | (with_reducible exact LeO.none _)
   | (with_reducible refine LeO.ite ?_ ?_)
   | (with_reducible refine LeO.bind ?_ (fun _ => ?_))
   | exact ih0 _ _ _ _ _
   | exact r03_Add.mono _ _ _ _ _ _ _
   | exact r03_Of.mono _ _
   | exact r03_Round.mono _ _ _ _ _
   | exact LeO.none _
   | refine LeO.ite ?_ ?_
   | refine LeO.bind ?_ (fun _ => ?_)
theorem r05_Plus.mono : ∀ a0 a1 k, LeO (r05_Plus.f k a0 a1) (r05_Plus.f (k + 1) a0 a1) := by
 intro a0 a1 k
 have ih0:=r05_Plus.mono_l k
 unfold r05_Plus.f
 repeat' first
   | (with_reducible exact ih0 _ _ _ _ _)
   | (with_reducible exact r03_Add.mono _ _ _ _ _ _ _)
   | (with_reducible exact r03_Of.mono _ _)
   | (with_reducible exact r03_Round.mono _ _ _ _ _)
   | (with_reducible exact LeO.refl _)
   | (with_reducible exact LeO.none _)
   | (with_reducible refine LeO.ite ?_ ?_)
   | (with_reducible refine LeO.bind ?_ (fun _ => ?_))
   | exact ih0 _ _ _ _ _
   | exact r03_Add.mono _ _ _ _ _ _ _
   | exact r03_Of.mono _ _
   | exact r03_Round.mono _ _ _ _ _
   | exact LeO.none _
   | refine LeO.ite ?_ ?_
   | refine LeO.bind ?_ (fun _ => ?_)
set_option maxHeartbeats 3000000 in
set_option maxRecDepth 100000 in
theorem r05_Plus.calls (k : Nat) (a0 : Nat) (a1 : Nat) (r : Nat) (w : World) (h : r05_Plus.f k a0 a1 = some r) :
  Calls Try.prog 43 #[.float .f64 a0,.float .f64 a1] w fun e w'=>e = .returned (.float .f64 r) ∧ Below w.heap.size w w':=by
 have hu43:=Try.underlying43
 have HB:=Aside0.mk (Below.refl w.heap.size w)
 have H : ((r05_IsOdd.f a0).bind fun t506=>((r05_IsOdd.f a1).bind fun t507=>((r05_IsEndless.f a0).bind fun t508=>((r05_IsEndless.f a1).bind fun t509=>(if t506 = true then (r05_Plus.j0 k a0 a1 t508 t509 true) else (if t507 = true then (r05_Plus.j0 k a0 a1 t508 t509 true) else (if t508 = true then (if t509 = true then ((r05_Neg.f a0).bind fun t510=>((r05_Neg.f a1).bind fun t511=>(r05_Plus.j0 k a0 a1 t508 t509 (t510 != t511)))) else (r05_Plus.j0 k a0 a1 t508 t509 false)) else (r05_Plus.j0 k a0 a1 t508 t509 false)))))))) = some r:=h
 clear h
 obtain ⟨t506,A3,H⟩:=ob_ H
 try dsimp only at H
 obtain ⟨t507,A4,H⟩:=ob_ H
 try dsimp only at H
 obtain ⟨t508,A5,H⟩:=ob_ H
 try dsimp only at H
 obtain ⟨t509,A6,H⟩:=ob_ H
 try dsimp only at H
 have HC7:=Aside0.mk H
 clear H
 go_enter Try.func43,Try.ntmps43
 go_upto_region 5 with (first|((with_reducible refine gate_callee (f:=66) rfl ?_);refine goesM (some 18) Try.func66 #[.float .f64 a0] ?_;(with_reducible refine (r05_IsOdd.calls a0 t506 _ A3.out).mono ?_);rintro e w' ⟨rfl,⟨nd,rfl⟩⟩;refine ⟨_,rfl,?_⟩)|((with_reducible refine gate_callee (f:=66) rfl ?_);refine goesM (some 20) Try.func66 #[.float .f64 a1] ?_;(with_reducible refine (r05_IsOdd.calls a1 t507 _ A4.out).mono ?_);rintro e w' ⟨rfl,⟨nd,rfl⟩⟩;refine ⟨_,rfl,?_⟩)|((with_reducible refine gate_callee (f:=67) rfl ?_);refine goesM (some 22) Try.func67 #[.float .f64 a0] ?_;(with_reducible refine (r05_IsEndless.calls a0 t508 _ A5.out).mono ?_);rintro e w' ⟨rfl,⟨nd,rfl⟩⟩;refine ⟨_,rfl,?_⟩)|((with_reducible refine gate_callee (f:=67) rfl ?_);refine goesM (some 24) Try.func67 #[.float .f64 a1] ?_;(with_reducible refine (r05_IsEndless.calls a1 t509 _ A6.out).mono ?_);rintro e w' ⟨rfl,⟨nd,rfl⟩⟩;refine ⟨_,rfl,?_⟩))
 (try simp only [Act.put,List.setIfInBounds_toArray,List.set_cons_zero,List.set_cons_succ])
 go_cut [25] (fun v25 wc=>∃ (kq : Nat) (x25_6 : Bool),v25 = .bool x25_6 ∧ Aside0 (r05_Plus.j0 kq a0 a1 t508 t509 x25_6 = some r) ∧ Aside0 (kq ≤ k) ∧ Aside0 (Below w.heap.size w wc))
 case first =>
  have H:=HC7.out
  clear HC7
  by_cases c8 : t506 = true
  ·subst c8
   have H1 : (r05_Plus.j0 k a0 a1 t508 t509 true) = some r:=by rw [if_pos rfl] at H;exact H
   clear H
   have H:=H1
   clear H1
   have H':=Aside0.mk H
   clear H
   go_wp2
   go_meet
   case rel=>exact ⟨_,(true),(by first|rfl|(simp;done)|(simp [*];done)),H',⟨by first|omega|exact Nat.le_refl _⟩,⟨bl_ HB⟩⟩
  ·replace c8:=Bool.eq_false_iff.mpr c8
   subst c8
   have H1 : (if t507 = true then (r05_Plus.j0 k a0 a1 t508 t509 true) else (if t508 = true then (if t509 = true then ((r05_Neg.f a0).bind fun t510=>((r05_Neg.f a1).bind fun t511=>(r05_Plus.j0 k a0 a1 t508 t509 (t510 != t511)))) else (r05_Plus.j0 k a0 a1 t508 t509 false)) else (r05_Plus.j0 k a0 a1 t508 t509 false))) = some r:=by rw [if_neg (show ¬ (false = true) by decide)] at H;exact H
   clear H
   have H:=H1
   clear H1
   by_cases c9 : t507 = true
   ·subst c9
    have H1 : (r05_Plus.j0 k a0 a1 t508 t509 true) = some r:=by rw [if_pos rfl] at H;exact H
    clear H
    have H:=H1
    clear H1
    have H':=Aside0.mk H
    clear H
    go_wp2
    go_meet
    case rel=>exact ⟨_,(true),(by first|rfl|(simp;done)|(simp [*];done)),H',⟨by first|omega|exact Nat.le_refl _⟩,⟨bl_ HB⟩⟩
   ·replace c9:=Bool.eq_false_iff.mpr c9
    subst c9
    have H1 : (if t508 = true then (if t509 = true then ((r05_Neg.f a0).bind fun t510=>((r05_Neg.f a1).bind fun t511=>(r05_Plus.j0 k a0 a1 t508 t509 (t510 != t511)))) else (r05_Plus.j0 k a0 a1 t508 t509 false)) else (r05_Plus.j0 k a0 a1 t508 t509 false)) = some r:=by rw [if_neg (show ¬ (false = true) by decide)] at H;exact H
    clear H
    have H:=H1
    clear H1
    by_cases c10 : t508 = true
    ·subst c10
     have H1 : (if t509 = true then ((r05_Neg.f a0).bind fun t510=>((r05_Neg.f a1).bind fun t511=>(r05_Plus.j0 k a0 a1 true t509 (t510 != t511)))) else (r05_Plus.j0 k a0 a1 true t509 false)) = some r:=by rw [if_pos rfl] at H;exact H
     clear H
     have H:=H1
     clear H1
     by_cases c11 : t509 = true
     ·subst c11
      have H1 : ((r05_Neg.f a0).bind fun t510=>((r05_Neg.f a1).bind fun t511=>(r05_Plus.j0 k a0 a1 true true (t510 != t511)))) = some r:=by rw [if_pos rfl] at H;exact H
      clear H
      have H:=H1
      clear H1
      obtain ⟨t510,A12,H⟩:=ob_ H
      try dsimp only at H
      obtain ⟨t511,A13,H⟩:=ob_ H
      try dsimp only at H
      have H':=Aside0.mk H
      clear H
      go_wp2_with (first|(go_at_call 68;(with_reducible refine (r05_Neg.calls a0 t510 _ A12.out).mono ?_);rintro e w' ⟨rfl,⟨nd,rfl⟩⟩)|(go_at_call 68;(with_reducible refine (r05_Neg.calls a1 t511 _ A13.out).mono ?_);rintro e w' ⟨rfl,⟨nd,rfl⟩⟩))
      go_meet
      case rel=>exact ⟨_,((t510 != t511)),(by first|rfl|(simp;done)|(simp [*];done)),H',⟨by first|omega|exact Nat.le_refl _⟩,⟨bl_ HB⟩⟩
     ·replace c11:=Bool.eq_false_iff.mpr c11
      subst c11
      have H1 : (r05_Plus.j0 k a0 a1 true false false) = some r:=by rw [if_neg (show ¬ (false = true) by decide)] at H;exact H
      clear H
      have H:=H1
      clear H1
      have H':=Aside0.mk H
      clear H
      go_wp2
      go_meet
      case rel=>exact ⟨_,(false),(by first|rfl|(simp;done)|(simp [*];done)),H',⟨by first|omega|exact Nat.le_refl _⟩,⟨bl_ HB⟩⟩
    ·replace c10:=Bool.eq_false_iff.mpr c10
     subst c10
     have H1 : (r05_Plus.j0 k a0 a1 false t509 false) = some r:=by rw [if_neg (show ¬ (false = true) by decide)] at H;exact H
     clear H
     have H:=H1
     clear H1
     have H':=Aside0.mk H
     clear H
     go_wp2
     go_meet
     case rel=>exact ⟨_,(false),(by first|rfl|(simp;done)|(simp [*];done)),H',⟨by first|omega|exact Nat.le_refl _⟩,⟨bl_ HB⟩⟩
 case rest =>
  clear HC7
  try clear c1
  try clear p2
  try clear c4
  try clear c6
  try clear c8
  try clear c9
  try clear c10
  try clear c11
  obtain ⟨kq,x25_6,rfl,HA,HJ6,HB⟩:=hcut
  cases kq with
  | zero => exact absurd HA.out (by simp [r05_Plus.j0])
  | succ kj6 =>
   have H:=HA.out
   clear HA
   simp only [r05_Plus.j0] at H
   by_cases c14 : x25_6 = true
   ·subst c14
    have H1 : ((r05_Odd.f).bind fun t512=>(some t512)) = some r:=by rw [if_pos rfl] at H;exact H
    clear H
    have H:=H1
    clear H1
    obtain ⟨t512,A15,H⟩:=ob_ H
    try dsimp only at H
    obtain rfl:=Option.some.inj H
    go_wp2_with (first|((with_reducible refine gate_callee (f:=9) rfl ?_);refine goesM (some 43) Try.func9 #[] ?_;(with_reducible refine (r05_Odd.calls  t512 _ A15.out).mono ?_);rintro e w' ⟨rfl,⟨nd,rfl⟩⟩;refine ⟨_,rfl,?_⟩))
    go_ret
    exact ⟨rf_,bl_ HB⟩
   ·replace c14:=Bool.eq_false_iff.mpr c14
    subst c14
    have H1 : (if t508 = true then (some a0) else (if t509 = true then (some a1) else ((r03_Of.f kj6 a0).bind fun bt513=>((r03_Of.f kj6 a1).bind fun bt520=>((r03_Add.f kj6 bt513.1 bt513.2.1 bt513.2.2.1 bt520.1 bt520.2.1 bt520.2.2.1).bind fun bt527=>(if (bt527.2.1.length : Int) = 0 then ((r05_Neg.f a0).bind fun t534=>(if t534 = true then ((r05_Neg.f a1).bind fun t535=>((r05_signed.f 0 t535).bind fun t536=>(some t536))) else ((r05_signed.f 0 false).bind fun t537=>(some t537)))) else ((r03_Round.f kj6 bt527.1 bt527.2.1 bt527.2.2.1 0).bind fun bt538=>(some bt538.1)))))))) = some r:=by rw [if_neg (show ¬ (false = true) by decide)] at H;exact H
    clear H
    have H:=H1
    clear H1
    by_cases c16 : t508 = true
    ·subst c16
     have H1 : (some a0) = some r:=by rw [if_pos rfl] at H;exact H
     clear H
     have H:=H1
     clear H1
     obtain rfl:=Option.some.inj H
     go_wp2
     go_ret
     exact ⟨rf_,bl_ HB⟩
    ·replace c16:=Bool.eq_false_iff.mpr c16
     subst c16
     have H1 : (if t509 = true then (some a1) else ((r03_Of.f kj6 a0).bind fun bt513=>((r03_Of.f kj6 a1).bind fun bt520=>((r03_Add.f kj6 bt513.1 bt513.2.1 bt513.2.2.1 bt520.1 bt520.2.1 bt520.2.2.1).bind fun bt527=>(if (bt527.2.1.length : Int) = 0 then ((r05_Neg.f a0).bind fun t534=>(if t534 = true then ((r05_Neg.f a1).bind fun t535=>((r05_signed.f 0 t535).bind fun t536=>(some t536))) else ((r05_signed.f 0 false).bind fun t537=>(some t537)))) else ((r03_Round.f kj6 bt527.1 bt527.2.1 bt527.2.2.1 0).bind fun bt538=>(some bt538.1))))))) = some r:=by rw [if_neg (show ¬ (false = true) by decide)] at H;exact H
     clear H
     have H:=H1
     clear H1
     by_cases c17 : t509 = true
     ·subst c17
      have H1 : (some a1) = some r:=by rw [if_pos rfl] at H;exact H
      clear H
      have H:=H1
      clear H1
      obtain rfl:=Option.some.inj H
      go_wp2
      go_ret
      exact ⟨rf_,bl_ HB⟩
     ·replace c17:=Bool.eq_false_iff.mpr c17
      subst c17
      have H1 : ((r03_Of.f kj6 a0).bind fun bt513=>((r03_Of.f kj6 a1).bind fun bt520=>((r03_Add.f kj6 bt513.1 bt513.2.1 bt513.2.2.1 bt520.1 bt520.2.1 bt520.2.2.1).bind fun bt527=>(if (bt527.2.1.length : Int) = 0 then ((r05_Neg.f a0).bind fun t534=>(if t534 = true then ((r05_Neg.f a1).bind fun t535=>((r05_signed.f 0 t535).bind fun t536=>(some t536))) else ((r05_signed.f 0 false).bind fun t537=>(some t537)))) else ((r03_Round.f kj6 bt527.1 bt527.2.1 bt527.2.2.1 0).bind fun bt538=>(some bt538.1)))))) = some r:=by rw [if_neg (show ¬ (false = true) by decide)] at H;exact H
      clear H
      have H:=H1
      clear H1
      obtain ⟨⟨t513,t514,t517,t518⟩,A18,H⟩:=ob_ H
      try dsimp only at H
      obtain ⟨⟨t520,t521,t524,t525⟩,A19,H⟩:=ob_ H
      try dsimp only at H
      obtain ⟨⟨t527,t528,t531,t532⟩,A20,H⟩:=ob_ H
      try dsimp only at H
      by_cases c21 : (t528.length : Int) = 0
      ·rw [if_pos c21] at H
       have c21b0 : ((t528.length : Int) == 0) = true:=beq_iff_eq.mpr c21
       have c21b1 : ((t528.length : Int) != 0) = false:=bne_eq_false_iff_eq.mpr c21
       clear c21
       obtain ⟨t534,A22,H⟩:=ob_ H
       try dsimp only at H
       by_cases c23 : t534 = true
       ·subst c23
        have H1 : ((r05_Neg.f a1).bind fun t535=>((r05_signed.f 0 t535).bind fun t536=>(some t536))) = some r:=by rw [if_pos rfl] at H;exact H
        clear H
        have H:=H1
        clear H1
        obtain ⟨t535,A24,H⟩:=ob_ H
        try dsimp only at H
        obtain ⟨t536,A25,H⟩:=ob_ H
        try dsimp only at H
        obtain rfl:=Option.some.inj H
        go_wp2_with (first|((with_reducible refine gate_callee (f:=50) rfl ?_);refine goesM (some 52) Try.func50 #[.float .f64 a0] ?_;(with_reducible refine (r03_Of.calls kj6 a0 t513 t514 t517 t518 _ A18.out).mono ?_);rintro e w26 ⟨v515,rfl,ho0,hb⟩;refine ⟨_,rfl,?_⟩;have HO516:=Aside0.mk (Kd.R_lower ho0 (below_size (bl_ HB)));replace HB:=bs_ HB hb;(try clear hb);(try clear hb2);(try clear hk);(try clear hi);(try clear ho0))|((with_reducible refine gate_dst (N:=9) rfl ?_);refine box_ev (N:=9) (cs:=#[.bool false,.slice none 0 0,.int .i64 0]) (t:=43) ?_;intro gb519 hg w27 hbox hb;replace HO516:=Aside0.mk (Kd.R_below (rr_ HO516) hb);have BK519:=Aside0.mk (hbox);have GW519:=ge_ HB hg;have GE519:=ge_ HB hg;replace HB:=bs_ HB hb;clear hb hbox hg;have hcz28_0:=bc_ BK519 0;have hcz28_1:=bc_ BK519 1;have hcz28_2:=bc_ BK519 2;have hfz28_0:=bz_ BK519 0;have hfz28_1:=bz_ BK519 1;have hfz28_2:=bz_ BK519 2;obtain ⟨Ao29,co29,eo29⟩:=Kd.R_slice HO516.out;subst eo29)|((with_reducible refine gate_callee (f:=50) rfl ?_);refine goesM (some 57) Try.func50 #[.float .f64 a1] ?_;(with_reducible refine (r03_Of.calls kj6 a1 t520 t521 t524 t525 _ A19.out).mono ?_);rintro e w30 ⟨v522,rfl,ho0,hb⟩;refine ⟨_,rfl,?_⟩;have HO523:=Aside0.mk (Kd.R_lower (Kd.R_new' ho0 (Kd.R_lt (by (with_reducible repeat (first|apply rA|apply rN|apply rD));exact (Kd.R_mono (Kd.R_far (p:=⟨gb519,2,none⟩) (Kd.R_far (p:=⟨gb519,1,none⟩) (Kd.R_far (p:=⟨gb519,0,none⟩) (Kd.R_types HO516.out BK519.out (by decide)) (fun _ hk=>hk.2) (.bool t513)) (fun _ hk=>hk.2) (.slice Ao29 t514.length co29)) (fun _ hk=>hk.2) (.int .i64 t517)) (fun _ h_=>h_.1))))) (below_size (bl_ HB)));replace HO516:=Aside0.mk (Kd.R_elder' (by (with_reducible repeat (first|apply rA|apply rN|apply rD));exact (Kd.R_mono (Kd.R_far (p:=⟨gb519,2,none⟩) (Kd.R_far (p:=⟨gb519,1,none⟩) (Kd.R_far (p:=⟨gb519,0,none⟩) (Kd.R_types HO516.out BK519.out (by decide)) (fun _ hk=>hk.2) (.bool t513)) (fun _ hk=>hk.2) (.slice Ao29 t514.length co29)) (fun _ hk=>hk.2) (.int .i64 t517)) (fun _ h_=>h_.1))) (Kd.R_base ho0) hb);replace BK519:=Aside0.mk (blk_below (g:=gb519) (o:=.cells #[.bool t513,.slice Ao29 t514.length co29,.int .i64 t517] 43 (0,0)) (by (with_reducible repeat (first|apply bN|apply bD|apply bA));refine blk_put (cs:=#[.bool t513,.slice Ao29 t514.length co29,.int .i64 0]) ?_ 2 _ rfl;(with_reducible repeat (first|apply bN|apply bD|apply bA));refine blk_put (cs:=#[.bool t513,.slice none 0 0,.int .i64 0]) ?_ 1 _ rfl;(with_reducible repeat (first|apply bN|apply bD|apply bA));refine blk_put (cs:=#[.bool false,.slice none 0 0,.int .i64 0]) ?_ 0 _ rfl;exact bk_ BK519) hb);replace HB:=bs_ HB hb;(try clear hb);(try clear hb2);(try clear hk);(try clear hi);(try clear ho0))|((with_reducible refine gate_dst (N:=11) rfl ?_);refine box_ev (N:=11) (cs:=#[.bool false,.slice none 0 0,.int .i64 0]) (t:=43) ?_;intro gb526 hg w31 hbox hb;replace HO516:=Aside0.mk (Kd.R_below (rr_ HO516) hb);replace HO523:=Aside0.mk (Kd.R_below (rr_ HO523) hb);have BK526:=Aside0.mk (hbox);have GW526:=ge_ HB hg;have GE526:=ge_ HB hg;replace HB:=bs_ HB hb;have NB519_526:=nlt_ BK519 hg;have NB526_519:=ngt_ BK519 hg;replace BK519:=kb_ BK519 hb;clear hb hbox hg;have hnb32:=NB526_519.out;have hnc32:=NB519_526.out;have hcz33_0:=bc_ BK526 0;have hcz33_1:=bc_ BK526 1;have hcz33_2:=bc_ BK526 2;have hfz33_0:=bz_ BK526 0;have hfz33_1:=bz_ BK526 1;have hfz33_2:=bz_ BK526 2;obtain ⟨Ao34,co34,eo34⟩:=Kd.R_slice HO523.out;subst eo34;have hcz35_0:=bc_ BK519 0;have hcz35_1:=bc_ BK519 1;have hcz35_2:=bc_ BK519 2;have hfz35_0:=bz_ BK519 0;have hfz35_1:=bz_ BK519 1;have hfz35_2:=bz_ BK519 2)|((with_reducible refine gate_callee (f:=35) rfl ?_);refine goesM (some 63) Try.func35 #[.agg #[.bool t513,.slice Ao29 t514.length co29,.int .i64 t517],.agg #[.bool t520,.slice Ao34 t521.length co34,.int .i64 t524]] ?_;(with_reducible refine (r03_Add.calls kj6 t513 _ _ t514 t517 t520 _ _ t521 t524 t527 t528 t531 t532 _ ?side1 ?side2 ?side3 ?side4 A20.out).mono ?_);(case side1=>refine (Kd.R_reads' (e:=72) (base:=w.heap.size) (ok:=fun k_=>(True ∧ some k_ ≠ (.slice Ao34 t521.length co34 : Value).ownBlock)) (n:=t514.length) (c:=co29) ?_).2.2;exact (by (with_reducible repeat (first|apply rA|apply rN|apply rD));exact (Kd.R_mono (Kd.R_far (p:=⟨gb526,2,none⟩) (Kd.R_far (p:=⟨gb526,1,none⟩) (Kd.R_far (p:=⟨gb526,0,none⟩) (Kd.R_types HO516.out BK526.out (by decide)) (fun _ hk=>hk.2) (.bool t520)) (fun _ hk=>hk.2) (.slice Ao34 t521.length co34)) (fun _ hk=>hk.2) (.int .i64 t524)) (fun _ h_=>h_.1))));(case side2=>exact (Kd.R_reads' HO516.out).2.1);(case side3=>refine (Kd.R_reads' (e:=72) (base:=w.heap.size) (ok:=fun k_=>(True ∧ some k_ ≠ (.slice Ao29 t514.length co29 : Value).ownBlock)) (n:=t521.length) (c:=co34) ?_).2.2;exact (by (with_reducible repeat (first|apply rA|apply rN|apply rD));exact (Kd.R_mono (Kd.R_far (p:=⟨gb526,2,none⟩) (Kd.R_far (p:=⟨gb526,1,none⟩) (Kd.R_far (p:=⟨gb526,0,none⟩) (Kd.R_types HO523.out BK526.out (by decide)) (fun _ hk=>hk.2) (.bool t520)) (fun _ hk=>hk.2) (.slice Ao34 t521.length co34)) (fun _ hk=>hk.2) (.int .i64 t524)) (fun _ h_=>h_.1))));(case side4=>exact (Kd.R_reads' HO523.out).2.1);rintro e w36 ⟨v529,rfl,ho0,hb⟩;refine ⟨_,rfl,?_⟩;have HO530:=Aside0.mk (Kd.R_lower (Kd.R_new' (Kd.R_new' ho0 (Kd.R_lt (by (with_reducible repeat (first|apply rA|apply rN|apply rD));exact (Kd.R_mono (Kd.R_far (p:=⟨gb526,2,none⟩) (Kd.R_far (p:=⟨gb526,1,none⟩) (Kd.R_far (p:=⟨gb526,0,none⟩) (Kd.R_types HO516.out BK526.out (by decide)) (fun _ hk=>hk.2) (.bool t520)) (fun _ hk=>hk.2) (.slice Ao34 t521.length co34)) (fun _ hk=>hk.2) (.int .i64 t524)) (fun _ h_=>h_.1))))) (Kd.R_lt (by (with_reducible repeat (first|apply rA|apply rN|apply rD));exact (Kd.R_mono (Kd.R_far (p:=⟨gb526,2,none⟩) (Kd.R_far (p:=⟨gb526,1,none⟩) (Kd.R_far (p:=⟨gb526,0,none⟩) (Kd.R_types HO523.out BK526.out (by decide)) (fun _ hk=>hk.2) (.bool t520)) (fun _ hk=>hk.2) (.slice Ao34 t521.length co34)) (fun _ hk=>hk.2) (.int .i64 t524)) (fun _ h_=>h_.1))))) (below_size (bl_ HB)));replace HO516:=Aside0.mk (Kd.R_elder' (by (with_reducible repeat (first|apply rA|apply rN|apply rD));exact (Kd.R_mono (Kd.R_far (p:=⟨gb526,2,none⟩) (Kd.R_far (p:=⟨gb526,1,none⟩) (Kd.R_far (p:=⟨gb526,0,none⟩) (Kd.R_types HO516.out BK526.out (by decide)) (fun _ hk=>hk.2) (.bool t520)) (fun _ hk=>hk.2) (.slice Ao34 t521.length co34)) (fun _ hk=>hk.2) (.int .i64 t524)) (fun _ h_=>h_.1))) (Kd.R_base ho0) hb);replace HO523:=Aside0.mk (Kd.R_elder' (by (with_reducible repeat (first|apply rA|apply rN|apply rD));exact (Kd.R_mono (Kd.R_far (p:=⟨gb526,2,none⟩) (Kd.R_far (p:=⟨gb526,1,none⟩) (Kd.R_far (p:=⟨gb526,0,none⟩) (Kd.R_types HO523.out BK526.out (by decide)) (fun _ hk=>hk.2) (.bool t520)) (fun _ hk=>hk.2) (.slice Ao34 t521.length co34)) (fun _ hk=>hk.2) (.int .i64 t524)) (fun _ h_=>h_.1))) (Kd.R_base ho0) hb);replace BK519:=Aside0.mk (blk_below (g:=gb519) (o:=.cells #[.bool t513,.slice Ao29 t514.length co29,.int .i64 t517] 43 (0,0)) (by (with_reducible repeat (first|apply bN|apply bD|apply bA));refine blk_far ?_ NB519_526.out _;(with_reducible repeat (first|apply bN|apply bD|apply bA));refine blk_far ?_ NB519_526.out _;(with_reducible repeat (first|apply bN|apply bD|apply bA));refine blk_far ?_ NB519_526.out _;exact bk_ BK519) hb);replace BK526:=Aside0.mk (blk_below (g:=gb526) (o:=.cells #[.bool t520,.slice Ao34 t521.length co34,.int .i64 t524] 43 (0,0)) (by (with_reducible repeat (first|apply bN|apply bD|apply bA));refine blk_put (cs:=#[.bool t520,.slice Ao34 t521.length co34,.int .i64 0]) ?_ 2 _ rfl;(with_reducible repeat (first|apply bN|apply bD|apply bA));refine blk_put (cs:=#[.bool t520,.slice none 0 0,.int .i64 0]) ?_ 1 _ rfl;(with_reducible repeat (first|apply bN|apply bD|apply bA));refine blk_put (cs:=#[.bool false,.slice none 0 0,.int .i64 0]) ?_ 0 _ rfl;exact bk_ BK526) hb);replace HB:=bs_ HB hb;(try clear hb);(try clear hb2);(try clear hk);(try clear hi);(try clear ho0))|((with_reducible refine gate_dst (N:=13) rfl ?_);refine box_ev (N:=13) (cs:=#[.bool false,.slice none 0 0,.int .i64 0]) (t:=43) ?_;intro gb533 hg w37 hbox hb;replace HO516:=Aside0.mk (Kd.R_below (rr_ HO516) hb);replace HO523:=Aside0.mk (Kd.R_below (rr_ HO523) hb);replace HO530:=Aside0.mk (Kd.R_below (rr_ HO530) hb);have BK533:=Aside0.mk (hbox);have GW533:=ge_ HB hg;have GE533:=ge_ HB hg;replace HB:=bs_ HB hb;have NB519_533:=nlt_ BK519 hg;have NB533_519:=ngt_ BK519 hg;replace BK519:=kb_ BK519 hb;have NB526_533:=nlt_ BK526 hg;have NB533_526:=ngt_ BK526 hg;replace BK526:=kb_ BK526 hb;clear hb hbox hg;have hnb38:=NB533_519.out;have hnc38:=NB519_533.out;have hnb39:=NB533_526.out;have hnc39:=NB526_533.out;have hcz40_0:=bc_ BK533 0;have hcz40_1:=bc_ BK533 1;have hcz40_2:=bc_ BK533 2;have hfz40_0:=bz_ BK533 0;have hfz40_1:=bz_ BK533 1;have hfz40_2:=bz_ BK533 2;obtain ⟨Ao41,co41,eo41⟩:=Kd.R_slice HO530.out;subst eo41)|((with_reducible refine gate_callee (f:=68) rfl ?_);refine goesM (some 71) Try.func68 #[.float .f64 a0] ?_;(with_reducible refine (r05_Neg.calls a0 true _ A22.out).mono ?_);rintro e w' ⟨rfl,⟨nd,rfl⟩⟩;refine ⟨_,rfl,?_⟩)|(go_at_call 68;(with_reducible refine (r05_Neg.calls a1 t535 _ A24.out).mono ?_);rintro e w' ⟨rfl,⟨nd,rfl⟩⟩)|((with_reducible refine gate_callee (f:=69) rfl ?_);refine goesM (some 76) Try.func69 #[.int .u64 0,.bool t535] ?_;(with_reducible refine (r05_signed.calls 0 t535 t536 _ A25.out).mono ?_);rintro e w' ⟨rfl,⟨nd,rfl⟩⟩;refine ⟨_,rfl,?_⟩))
        go_ret
        exact ⟨rf_,bl_ HB⟩
       ·replace c23:=Bool.eq_false_iff.mpr c23
        subst c23
        have H1 : ((r05_signed.f 0 false).bind fun t537=>(some t537)) = some r:=by rw [if_neg (show ¬ (false = true) by decide)] at H;exact H
        clear H
        have H:=H1
        clear H1
        obtain ⟨t537,A42,H⟩:=ob_ H
        try dsimp only at H
        obtain rfl:=Option.some.inj H
        go_wp2_with (first|((with_reducible refine gate_callee (f:=50) rfl ?_);refine goesM (some 52) Try.func50 #[.float .f64 a0] ?_;(with_reducible refine (r03_Of.calls kj6 a0 t513 t514 t517 t518 _ A18.out).mono ?_);rintro e w43 ⟨v515,rfl,ho0,hb⟩;refine ⟨_,rfl,?_⟩;have HO516:=Aside0.mk (Kd.R_lower ho0 (below_size (bl_ HB)));replace HB:=bs_ HB hb;(try clear hb);(try clear hb2);(try clear hk);(try clear hi);(try clear ho0))|((with_reducible refine gate_dst (N:=9) rfl ?_);refine box_ev (N:=9) (cs:=#[.bool false,.slice none 0 0,.int .i64 0]) (t:=43) ?_;intro gb519 hg w44 hbox hb;replace HO516:=Aside0.mk (Kd.R_below (rr_ HO516) hb);have BK519:=Aside0.mk (hbox);have GW519:=ge_ HB hg;have GE519:=ge_ HB hg;replace HB:=bs_ HB hb;clear hb hbox hg;have hcz45_0:=bc_ BK519 0;have hcz45_1:=bc_ BK519 1;have hcz45_2:=bc_ BK519 2;have hfz45_0:=bz_ BK519 0;have hfz45_1:=bz_ BK519 1;have hfz45_2:=bz_ BK519 2;obtain ⟨Ao46,co46,eo46⟩:=Kd.R_slice HO516.out;subst eo46)|((with_reducible refine gate_callee (f:=50) rfl ?_);refine goesM (some 57) Try.func50 #[.float .f64 a1] ?_;(with_reducible refine (r03_Of.calls kj6 a1 t520 t521 t524 t525 _ A19.out).mono ?_);rintro e w47 ⟨v522,rfl,ho0,hb⟩;refine ⟨_,rfl,?_⟩;have HO523:=Aside0.mk (Kd.R_lower (Kd.R_new' ho0 (Kd.R_lt (by (with_reducible repeat (first|apply rA|apply rN|apply rD));exact (Kd.R_mono (Kd.R_far (p:=⟨gb519,2,none⟩) (Kd.R_far (p:=⟨gb519,1,none⟩) (Kd.R_far (p:=⟨gb519,0,none⟩) (Kd.R_types HO516.out BK519.out (by decide)) (fun _ hk=>hk.2) (.bool t513)) (fun _ hk=>hk.2) (.slice Ao46 t514.length co46)) (fun _ hk=>hk.2) (.int .i64 t517)) (fun _ h_=>h_.1))))) (below_size (bl_ HB)));replace HO516:=Aside0.mk (Kd.R_elder' (by (with_reducible repeat (first|apply rA|apply rN|apply rD));exact (Kd.R_mono (Kd.R_far (p:=⟨gb519,2,none⟩) (Kd.R_far (p:=⟨gb519,1,none⟩) (Kd.R_far (p:=⟨gb519,0,none⟩) (Kd.R_types HO516.out BK519.out (by decide)) (fun _ hk=>hk.2) (.bool t513)) (fun _ hk=>hk.2) (.slice Ao46 t514.length co46)) (fun _ hk=>hk.2) (.int .i64 t517)) (fun _ h_=>h_.1))) (Kd.R_base ho0) hb);replace BK519:=Aside0.mk (blk_below (g:=gb519) (o:=.cells #[.bool t513,.slice Ao46 t514.length co46,.int .i64 t517] 43 (0,0)) (by (with_reducible repeat (first|apply bN|apply bD|apply bA));refine blk_put (cs:=#[.bool t513,.slice Ao46 t514.length co46,.int .i64 0]) ?_ 2 _ rfl;(with_reducible repeat (first|apply bN|apply bD|apply bA));refine blk_put (cs:=#[.bool t513,.slice none 0 0,.int .i64 0]) ?_ 1 _ rfl;(with_reducible repeat (first|apply bN|apply bD|apply bA));refine blk_put (cs:=#[.bool false,.slice none 0 0,.int .i64 0]) ?_ 0 _ rfl;exact bk_ BK519) hb);replace HB:=bs_ HB hb;(try clear hb);(try clear hb2);(try clear hk);(try clear hi);(try clear ho0))|((with_reducible refine gate_dst (N:=11) rfl ?_);refine box_ev (N:=11) (cs:=#[.bool false,.slice none 0 0,.int .i64 0]) (t:=43) ?_;intro gb526 hg w48 hbox hb;replace HO516:=Aside0.mk (Kd.R_below (rr_ HO516) hb);replace HO523:=Aside0.mk (Kd.R_below (rr_ HO523) hb);have BK526:=Aside0.mk (hbox);have GW526:=ge_ HB hg;have GE526:=ge_ HB hg;replace HB:=bs_ HB hb;have NB519_526:=nlt_ BK519 hg;have NB526_519:=ngt_ BK519 hg;replace BK519:=kb_ BK519 hb;clear hb hbox hg;have hnb49:=NB526_519.out;have hnc49:=NB519_526.out;have hcz50_0:=bc_ BK526 0;have hcz50_1:=bc_ BK526 1;have hcz50_2:=bc_ BK526 2;have hfz50_0:=bz_ BK526 0;have hfz50_1:=bz_ BK526 1;have hfz50_2:=bz_ BK526 2;obtain ⟨Ao51,co51,eo51⟩:=Kd.R_slice HO523.out;subst eo51;have hcz52_0:=bc_ BK519 0;have hcz52_1:=bc_ BK519 1;have hcz52_2:=bc_ BK519 2;have hfz52_0:=bz_ BK519 0;have hfz52_1:=bz_ BK519 1;have hfz52_2:=bz_ BK519 2)|((with_reducible refine gate_callee (f:=35) rfl ?_);refine goesM (some 63) Try.func35 #[.agg #[.bool t513,.slice Ao46 t514.length co46,.int .i64 t517],.agg #[.bool t520,.slice Ao51 t521.length co51,.int .i64 t524]] ?_;(with_reducible refine (r03_Add.calls kj6 t513 _ _ t514 t517 t520 _ _ t521 t524 t527 t528 t531 t532 _ ?side1 ?side2 ?side3 ?side4 A20.out).mono ?_);(case side1=>refine (Kd.R_reads' (e:=72) (base:=w.heap.size) (ok:=fun k_=>(True ∧ some k_ ≠ (.slice Ao51 t521.length co51 : Value).ownBlock)) (n:=t514.length) (c:=co46) ?_).2.2;exact (by (with_reducible repeat (first|apply rA|apply rN|apply rD));exact (Kd.R_mono (Kd.R_far (p:=⟨gb526,2,none⟩) (Kd.R_far (p:=⟨gb526,1,none⟩) (Kd.R_far (p:=⟨gb526,0,none⟩) (Kd.R_types HO516.out BK526.out (by decide)) (fun _ hk=>hk.2) (.bool t520)) (fun _ hk=>hk.2) (.slice Ao51 t521.length co51)) (fun _ hk=>hk.2) (.int .i64 t524)) (fun _ h_=>h_.1))));(case side2=>exact (Kd.R_reads' HO516.out).2.1);(case side3=>refine (Kd.R_reads' (e:=72) (base:=w.heap.size) (ok:=fun k_=>(True ∧ some k_ ≠ (.slice Ao46 t514.length co46 : Value).ownBlock)) (n:=t521.length) (c:=co51) ?_).2.2;exact (by (with_reducible repeat (first|apply rA|apply rN|apply rD));exact (Kd.R_mono (Kd.R_far (p:=⟨gb526,2,none⟩) (Kd.R_far (p:=⟨gb526,1,none⟩) (Kd.R_far (p:=⟨gb526,0,none⟩) (Kd.R_types HO523.out BK526.out (by decide)) (fun _ hk=>hk.2) (.bool t520)) (fun _ hk=>hk.2) (.slice Ao51 t521.length co51)) (fun _ hk=>hk.2) (.int .i64 t524)) (fun _ h_=>h_.1))));(case side4=>exact (Kd.R_reads' HO523.out).2.1);rintro e w53 ⟨v529,rfl,ho0,hb⟩;refine ⟨_,rfl,?_⟩;have HO530:=Aside0.mk (Kd.R_lower (Kd.R_new' (Kd.R_new' ho0 (Kd.R_lt (by (with_reducible repeat (first|apply rA|apply rN|apply rD));exact (Kd.R_mono (Kd.R_far (p:=⟨gb526,2,none⟩) (Kd.R_far (p:=⟨gb526,1,none⟩) (Kd.R_far (p:=⟨gb526,0,none⟩) (Kd.R_types HO516.out BK526.out (by decide)) (fun _ hk=>hk.2) (.bool t520)) (fun _ hk=>hk.2) (.slice Ao51 t521.length co51)) (fun _ hk=>hk.2) (.int .i64 t524)) (fun _ h_=>h_.1))))) (Kd.R_lt (by (with_reducible repeat (first|apply rA|apply rN|apply rD));exact (Kd.R_mono (Kd.R_far (p:=⟨gb526,2,none⟩) (Kd.R_far (p:=⟨gb526,1,none⟩) (Kd.R_far (p:=⟨gb526,0,none⟩) (Kd.R_types HO523.out BK526.out (by decide)) (fun _ hk=>hk.2) (.bool t520)) (fun _ hk=>hk.2) (.slice Ao51 t521.length co51)) (fun _ hk=>hk.2) (.int .i64 t524)) (fun _ h_=>h_.1))))) (below_size (bl_ HB)));replace HO516:=Aside0.mk (Kd.R_elder' (by (with_reducible repeat (first|apply rA|apply rN|apply rD));exact (Kd.R_mono (Kd.R_far (p:=⟨gb526,2,none⟩) (Kd.R_far (p:=⟨gb526,1,none⟩) (Kd.R_far (p:=⟨gb526,0,none⟩) (Kd.R_types HO516.out BK526.out (by decide)) (fun _ hk=>hk.2) (.bool t520)) (fun _ hk=>hk.2) (.slice Ao51 t521.length co51)) (fun _ hk=>hk.2) (.int .i64 t524)) (fun _ h_=>h_.1))) (Kd.R_base ho0) hb);replace HO523:=Aside0.mk (Kd.R_elder' (by (with_reducible repeat (first|apply rA|apply rN|apply rD));exact (Kd.R_mono (Kd.R_far (p:=⟨gb526,2,none⟩) (Kd.R_far (p:=⟨gb526,1,none⟩) (Kd.R_far (p:=⟨gb526,0,none⟩) (Kd.R_types HO523.out BK526.out (by decide)) (fun _ hk=>hk.2) (.bool t520)) (fun _ hk=>hk.2) (.slice Ao51 t521.length co51)) (fun _ hk=>hk.2) (.int .i64 t524)) (fun _ h_=>h_.1))) (Kd.R_base ho0) hb);replace BK519:=Aside0.mk (blk_below (g:=gb519) (o:=.cells #[.bool t513,.slice Ao46 t514.length co46,.int .i64 t517] 43 (0,0)) (by (with_reducible repeat (first|apply bN|apply bD|apply bA));refine blk_far ?_ NB519_526.out _;(with_reducible repeat (first|apply bN|apply bD|apply bA));refine blk_far ?_ NB519_526.out _;(with_reducible repeat (first|apply bN|apply bD|apply bA));refine blk_far ?_ NB519_526.out _;exact bk_ BK519) hb);replace BK526:=Aside0.mk (blk_below (g:=gb526) (o:=.cells #[.bool t520,.slice Ao51 t521.length co51,.int .i64 t524] 43 (0,0)) (by (with_reducible repeat (first|apply bN|apply bD|apply bA));refine blk_put (cs:=#[.bool t520,.slice Ao51 t521.length co51,.int .i64 0]) ?_ 2 _ rfl;(with_reducible repeat (first|apply bN|apply bD|apply bA));refine blk_put (cs:=#[.bool t520,.slice none 0 0,.int .i64 0]) ?_ 1 _ rfl;(with_reducible repeat (first|apply bN|apply bD|apply bA));refine blk_put (cs:=#[.bool false,.slice none 0 0,.int .i64 0]) ?_ 0 _ rfl;exact bk_ BK526) hb);replace HB:=bs_ HB hb;(try clear hb);(try clear hb2);(try clear hk);(try clear hi);(try clear ho0))|((with_reducible refine gate_dst (N:=13) rfl ?_);refine box_ev (N:=13) (cs:=#[.bool false,.slice none 0 0,.int .i64 0]) (t:=43) ?_;intro gb533 hg w54 hbox hb;replace HO516:=Aside0.mk (Kd.R_below (rr_ HO516) hb);replace HO523:=Aside0.mk (Kd.R_below (rr_ HO523) hb);replace HO530:=Aside0.mk (Kd.R_below (rr_ HO530) hb);have BK533:=Aside0.mk (hbox);have GW533:=ge_ HB hg;have GE533:=ge_ HB hg;replace HB:=bs_ HB hb;have NB519_533:=nlt_ BK519 hg;have NB533_519:=ngt_ BK519 hg;replace BK519:=kb_ BK519 hb;have NB526_533:=nlt_ BK526 hg;have NB533_526:=ngt_ BK526 hg;replace BK526:=kb_ BK526 hb;clear hb hbox hg;have hnb55:=NB533_519.out;have hnc55:=NB519_533.out;have hnb56:=NB533_526.out;have hnc56:=NB526_533.out;have hcz57_0:=bc_ BK533 0;have hcz57_1:=bc_ BK533 1;have hcz57_2:=bc_ BK533 2;have hfz57_0:=bz_ BK533 0;have hfz57_1:=bz_ BK533 1;have hfz57_2:=bz_ BK533 2;obtain ⟨Ao58,co58,eo58⟩:=Kd.R_slice HO530.out;subst eo58)|((with_reducible refine gate_callee (f:=68) rfl ?_);refine goesM (some 71) Try.func68 #[.float .f64 a0] ?_;(with_reducible refine (r05_Neg.calls a0 false _ A22.out).mono ?_);rintro e w' ⟨rfl,⟨nd,rfl⟩⟩;refine ⟨_,rfl,?_⟩)|((with_reducible refine gate_callee (f:=69) rfl ?_);refine goesM (some 76) Try.func69 #[.int .u64 0,.bool false] ?_;(with_reducible refine (r05_signed.calls 0 false t537 _ A42.out).mono ?_);rintro e w' ⟨rfl,⟨nd,rfl⟩⟩;refine ⟨_,rfl,?_⟩))
        go_ret
        exact ⟨rf_,bl_ HB⟩
      ·rw [if_neg c21] at H
       have c21b0 : ((t528.length : Int) == 0) = false:=beq_eq_false_iff_ne.mpr c21
       have c21b1 : ((t528.length : Int) != 0) = true:=bne_iff_ne.mpr c21
       have c21b2 : ¬ (t528 = []):=fun h_=>c21 (by rw [h_];rfl)
       obtain ⟨⟨t538,t539⟩,A59,H⟩:=ob_ H
       try dsimp only at H
       obtain rfl:=Option.some.inj H
       go_wp2_with (first|((with_reducible refine gate_callee (f:=50) rfl ?_);refine goesM (some 52) Try.func50 #[.float .f64 a0] ?_;(with_reducible refine (r03_Of.calls kj6 a0 t513 t514 t517 t518 _ A18.out).mono ?_);rintro e w60 ⟨v515,rfl,ho0,hb⟩;refine ⟨_,rfl,?_⟩;have HO516:=Aside0.mk (Kd.R_lower ho0 (below_size (bl_ HB)));replace HB:=bs_ HB hb;(try clear hb);(try clear hb2);(try clear hk);(try clear hi);(try clear ho0))|((with_reducible refine gate_dst (N:=9) rfl ?_);refine box_ev (N:=9) (cs:=#[.bool false,.slice none 0 0,.int .i64 0]) (t:=43) ?_;intro gb519 hg w61 hbox hb;replace HO516:=Aside0.mk (Kd.R_below (rr_ HO516) hb);have BK519:=Aside0.mk (hbox);have GW519:=ge_ HB hg;have GE519:=ge_ HB hg;replace HB:=bs_ HB hb;clear hb hbox hg;have hcz62_0:=bc_ BK519 0;have hcz62_1:=bc_ BK519 1;have hcz62_2:=bc_ BK519 2;have hfz62_0:=bz_ BK519 0;have hfz62_1:=bz_ BK519 1;have hfz62_2:=bz_ BK519 2;obtain ⟨Ao63,co63,eo63⟩:=Kd.R_slice HO516.out;subst eo63)|((with_reducible refine gate_callee (f:=50) rfl ?_);refine goesM (some 57) Try.func50 #[.float .f64 a1] ?_;(with_reducible refine (r03_Of.calls kj6 a1 t520 t521 t524 t525 _ A19.out).mono ?_);rintro e w64 ⟨v522,rfl,ho0,hb⟩;refine ⟨_,rfl,?_⟩;have HO523:=Aside0.mk (Kd.R_lower (Kd.R_new' ho0 (Kd.R_lt (by (with_reducible repeat (first|apply rA|apply rN|apply rD));exact (Kd.R_mono (Kd.R_far (p:=⟨gb519,2,none⟩) (Kd.R_far (p:=⟨gb519,1,none⟩) (Kd.R_far (p:=⟨gb519,0,none⟩) (Kd.R_types HO516.out BK519.out (by decide)) (fun _ hk=>hk.2) (.bool t513)) (fun _ hk=>hk.2) (.slice Ao63 t514.length co63)) (fun _ hk=>hk.2) (.int .i64 t517)) (fun _ h_=>h_.1))))) (below_size (bl_ HB)));replace HO516:=Aside0.mk (Kd.R_elder' (by (with_reducible repeat (first|apply rA|apply rN|apply rD));exact (Kd.R_mono (Kd.R_far (p:=⟨gb519,2,none⟩) (Kd.R_far (p:=⟨gb519,1,none⟩) (Kd.R_far (p:=⟨gb519,0,none⟩) (Kd.R_types HO516.out BK519.out (by decide)) (fun _ hk=>hk.2) (.bool t513)) (fun _ hk=>hk.2) (.slice Ao63 t514.length co63)) (fun _ hk=>hk.2) (.int .i64 t517)) (fun _ h_=>h_.1))) (Kd.R_base ho0) hb);replace BK519:=Aside0.mk (blk_below (g:=gb519) (o:=.cells #[.bool t513,.slice Ao63 t514.length co63,.int .i64 t517] 43 (0,0)) (by (with_reducible repeat (first|apply bN|apply bD|apply bA));refine blk_put (cs:=#[.bool t513,.slice Ao63 t514.length co63,.int .i64 0]) ?_ 2 _ rfl;(with_reducible repeat (first|apply bN|apply bD|apply bA));refine blk_put (cs:=#[.bool t513,.slice none 0 0,.int .i64 0]) ?_ 1 _ rfl;(with_reducible repeat (first|apply bN|apply bD|apply bA));refine blk_put (cs:=#[.bool false,.slice none 0 0,.int .i64 0]) ?_ 0 _ rfl;exact bk_ BK519) hb);replace HB:=bs_ HB hb;(try clear hb);(try clear hb2);(try clear hk);(try clear hi);(try clear ho0))|((with_reducible refine gate_dst (N:=11) rfl ?_);refine box_ev (N:=11) (cs:=#[.bool false,.slice none 0 0,.int .i64 0]) (t:=43) ?_;intro gb526 hg w65 hbox hb;replace HO516:=Aside0.mk (Kd.R_below (rr_ HO516) hb);replace HO523:=Aside0.mk (Kd.R_below (rr_ HO523) hb);have BK526:=Aside0.mk (hbox);have GW526:=ge_ HB hg;have GE526:=ge_ HB hg;replace HB:=bs_ HB hb;have NB519_526:=nlt_ BK519 hg;have NB526_519:=ngt_ BK519 hg;replace BK519:=kb_ BK519 hb;clear hb hbox hg;have hnb66:=NB526_519.out;have hnc66:=NB519_526.out;have hcz67_0:=bc_ BK526 0;have hcz67_1:=bc_ BK526 1;have hcz67_2:=bc_ BK526 2;have hfz67_0:=bz_ BK526 0;have hfz67_1:=bz_ BK526 1;have hfz67_2:=bz_ BK526 2;obtain ⟨Ao68,co68,eo68⟩:=Kd.R_slice HO523.out;subst eo68;have hcz69_0:=bc_ BK519 0;have hcz69_1:=bc_ BK519 1;have hcz69_2:=bc_ BK519 2;have hfz69_0:=bz_ BK519 0;have hfz69_1:=bz_ BK519 1;have hfz69_2:=bz_ BK519 2)|((with_reducible refine gate_callee (f:=35) rfl ?_);refine goesM (some 63) Try.func35 #[.agg #[.bool t513,.slice Ao63 t514.length co63,.int .i64 t517],.agg #[.bool t520,.slice Ao68 t521.length co68,.int .i64 t524]] ?_;(with_reducible refine (r03_Add.calls kj6 t513 _ _ t514 t517 t520 _ _ t521 t524 t527 t528 t531 t532 _ ?side1 ?side2 ?side3 ?side4 A20.out).mono ?_);(case side1=>refine (Kd.R_reads' (e:=72) (base:=w.heap.size) (ok:=fun k_=>(True ∧ some k_ ≠ (.slice Ao68 t521.length co68 : Value).ownBlock)) (n:=t514.length) (c:=co63) ?_).2.2;exact (by (with_reducible repeat (first|apply rA|apply rN|apply rD));exact (Kd.R_mono (Kd.R_far (p:=⟨gb526,2,none⟩) (Kd.R_far (p:=⟨gb526,1,none⟩) (Kd.R_far (p:=⟨gb526,0,none⟩) (Kd.R_types HO516.out BK526.out (by decide)) (fun _ hk=>hk.2) (.bool t520)) (fun _ hk=>hk.2) (.slice Ao68 t521.length co68)) (fun _ hk=>hk.2) (.int .i64 t524)) (fun _ h_=>h_.1))));(case side2=>exact (Kd.R_reads' HO516.out).2.1);(case side3=>refine (Kd.R_reads' (e:=72) (base:=w.heap.size) (ok:=fun k_=>(True ∧ some k_ ≠ (.slice Ao63 t514.length co63 : Value).ownBlock)) (n:=t521.length) (c:=co68) ?_).2.2;exact (by (with_reducible repeat (first|apply rA|apply rN|apply rD));exact (Kd.R_mono (Kd.R_far (p:=⟨gb526,2,none⟩) (Kd.R_far (p:=⟨gb526,1,none⟩) (Kd.R_far (p:=⟨gb526,0,none⟩) (Kd.R_types HO523.out BK526.out (by decide)) (fun _ hk=>hk.2) (.bool t520)) (fun _ hk=>hk.2) (.slice Ao68 t521.length co68)) (fun _ hk=>hk.2) (.int .i64 t524)) (fun _ h_=>h_.1))));(case side4=>exact (Kd.R_reads' HO523.out).2.1);rintro e w70 ⟨v529,rfl,ho0,hb⟩;refine ⟨_,rfl,?_⟩;have HO530:=Aside0.mk (Kd.R_lower (Kd.R_new' (Kd.R_new' ho0 (Kd.R_lt (by (with_reducible repeat (first|apply rA|apply rN|apply rD));exact (Kd.R_mono (Kd.R_far (p:=⟨gb526,2,none⟩) (Kd.R_far (p:=⟨gb526,1,none⟩) (Kd.R_far (p:=⟨gb526,0,none⟩) (Kd.R_types HO516.out BK526.out (by decide)) (fun _ hk=>hk.2) (.bool t520)) (fun _ hk=>hk.2) (.slice Ao68 t521.length co68)) (fun _ hk=>hk.2) (.int .i64 t524)) (fun _ h_=>h_.1))))) (Kd.R_lt (by (with_reducible repeat (first|apply rA|apply rN|apply rD));exact (Kd.R_mono (Kd.R_far (p:=⟨gb526,2,none⟩) (Kd.R_far (p:=⟨gb526,1,none⟩) (Kd.R_far (p:=⟨gb526,0,none⟩) (Kd.R_types HO523.out BK526.out (by decide)) (fun _ hk=>hk.2) (.bool t520)) (fun _ hk=>hk.2) (.slice Ao68 t521.length co68)) (fun _ hk=>hk.2) (.int .i64 t524)) (fun _ h_=>h_.1))))) (below_size (bl_ HB)));replace HO516:=Aside0.mk (Kd.R_elder' (by (with_reducible repeat (first|apply rA|apply rN|apply rD));exact (Kd.R_mono (Kd.R_far (p:=⟨gb526,2,none⟩) (Kd.R_far (p:=⟨gb526,1,none⟩) (Kd.R_far (p:=⟨gb526,0,none⟩) (Kd.R_types HO516.out BK526.out (by decide)) (fun _ hk=>hk.2) (.bool t520)) (fun _ hk=>hk.2) (.slice Ao68 t521.length co68)) (fun _ hk=>hk.2) (.int .i64 t524)) (fun _ h_=>h_.1))) (Kd.R_base ho0) hb);replace HO523:=Aside0.mk (Kd.R_elder' (by (with_reducible repeat (first|apply rA|apply rN|apply rD));exact (Kd.R_mono (Kd.R_far (p:=⟨gb526,2,none⟩) (Kd.R_far (p:=⟨gb526,1,none⟩) (Kd.R_far (p:=⟨gb526,0,none⟩) (Kd.R_types HO523.out BK526.out (by decide)) (fun _ hk=>hk.2) (.bool t520)) (fun _ hk=>hk.2) (.slice Ao68 t521.length co68)) (fun _ hk=>hk.2) (.int .i64 t524)) (fun _ h_=>h_.1))) (Kd.R_base ho0) hb);replace BK519:=Aside0.mk (blk_below (g:=gb519) (o:=.cells #[.bool t513,.slice Ao63 t514.length co63,.int .i64 t517] 43 (0,0)) (by (with_reducible repeat (first|apply bN|apply bD|apply bA));refine blk_far ?_ NB519_526.out _;(with_reducible repeat (first|apply bN|apply bD|apply bA));refine blk_far ?_ NB519_526.out _;(with_reducible repeat (first|apply bN|apply bD|apply bA));refine blk_far ?_ NB519_526.out _;exact bk_ BK519) hb);replace BK526:=Aside0.mk (blk_below (g:=gb526) (o:=.cells #[.bool t520,.slice Ao68 t521.length co68,.int .i64 t524] 43 (0,0)) (by (with_reducible repeat (first|apply bN|apply bD|apply bA));refine blk_put (cs:=#[.bool t520,.slice Ao68 t521.length co68,.int .i64 0]) ?_ 2 _ rfl;(with_reducible repeat (first|apply bN|apply bD|apply bA));refine blk_put (cs:=#[.bool t520,.slice none 0 0,.int .i64 0]) ?_ 1 _ rfl;(with_reducible repeat (first|apply bN|apply bD|apply bA));refine blk_put (cs:=#[.bool false,.slice none 0 0,.int .i64 0]) ?_ 0 _ rfl;exact bk_ BK526) hb);replace HB:=bs_ HB hb;(try clear hb);(try clear hb2);(try clear hk);(try clear hi);(try clear ho0))|((with_reducible refine gate_dst (N:=13) rfl ?_);refine box_ev (N:=13) (cs:=#[.bool false,.slice none 0 0,.int .i64 0]) (t:=43) ?_;intro gb533 hg w71 hbox hb;replace HO516:=Aside0.mk (Kd.R_below (rr_ HO516) hb);replace HO523:=Aside0.mk (Kd.R_below (rr_ HO523) hb);replace HO530:=Aside0.mk (Kd.R_below (rr_ HO530) hb);have BK533:=Aside0.mk (hbox);have GW533:=ge_ HB hg;have GE533:=ge_ HB hg;replace HB:=bs_ HB hb;have NB519_533:=nlt_ BK519 hg;have NB533_519:=ngt_ BK519 hg;replace BK519:=kb_ BK519 hb;have NB526_533:=nlt_ BK526 hg;have NB533_526:=ngt_ BK526 hg;replace BK526:=kb_ BK526 hb;clear hb hbox hg;have hnb72:=NB533_519.out;have hnc72:=NB519_533.out;have hnb73:=NB533_526.out;have hnc73:=NB526_533.out;have hcz74_0:=bc_ BK533 0;have hcz74_1:=bc_ BK533 1;have hcz74_2:=bc_ BK533 2;have hfz74_0:=bz_ BK533 0;have hfz74_1:=bz_ BK533 1;have hfz74_2:=bz_ BK533 2;obtain ⟨Ao75,co75,eo75⟩:=Kd.R_slice HO530.out;subst eo75)|((with_reducible refine gate_callee (f:=70) rfl ?_);refine goesM (some 79) Try.func70 #[.agg #[.bool t527,.slice Ao75 t528.length co75,.int .i64 t531],.int .i64 0] ?_;(with_reducible refine (r03_Round.calls kj6 t527 _ _ t528 t531 0 t538 t539 _ ?side1 ?side2 A59.out).mono ?_);(case side1=>refine (Kd.R_reads' (e:=72) (base:=w.heap.size) (ok:=fun k_=>((True ∧ some k_ ≠ (.slice Ao63 t514.length co63 : Value).ownBlock) ∧ some k_ ≠ (.slice Ao68 t521.length co68 : Value).ownBlock)) (n:=t528.length) (c:=co75) ?_).2.2;exact (by (with_reducible repeat (first|apply rA|apply rN|apply rD));exact (Kd.R_mono (Kd.R_far (p:=⟨gb533,2,none⟩) (Kd.R_far (p:=⟨gb533,1,none⟩) (Kd.R_far (p:=⟨gb533,0,none⟩) (Kd.R_types HO530.out BK533.out (by decide)) (fun _ hk=>hk.2) (.bool t527)) (fun _ hk=>hk.2) (.slice Ao75 t528.length co75)) (fun _ hk=>hk.2) (.int .i64 t531)) (fun _ h_=>h_.1))));(case side2=>exact (Kd.R_reads' HO530.out).2.1);rintro e w76 ⟨rfl,hb⟩;refine ⟨_,rfl,?_⟩;replace HO516:=Aside0.mk (Kd.R_below (by (with_reducible repeat (first|apply rA|apply rN|apply rD));exact (Kd.R_mono (Kd.R_far (p:=⟨gb533,2,none⟩) (Kd.R_far (p:=⟨gb533,1,none⟩) (Kd.R_far (p:=⟨gb533,0,none⟩) (Kd.R_types HO516.out BK533.out (by decide)) (fun _ hk=>hk.2) (.bool t527)) (fun _ hk=>hk.2) (.slice Ao75 t528.length co75)) (fun _ hk=>hk.2) (.int .i64 t531)) (fun _ h_=>h_.1))) hb);replace HO523:=Aside0.mk (Kd.R_below (by (with_reducible repeat (first|apply rA|apply rN|apply rD));exact (Kd.R_mono (Kd.R_far (p:=⟨gb533,2,none⟩) (Kd.R_far (p:=⟨gb533,1,none⟩) (Kd.R_far (p:=⟨gb533,0,none⟩) (Kd.R_types HO523.out BK533.out (by decide)) (fun _ hk=>hk.2) (.bool t527)) (fun _ hk=>hk.2) (.slice Ao75 t528.length co75)) (fun _ hk=>hk.2) (.int .i64 t531)) (fun _ h_=>h_.1))) hb);replace HO530:=Aside0.mk (Kd.R_below (by (with_reducible repeat (first|apply rA|apply rN|apply rD));exact (Kd.R_mono (Kd.R_far (p:=⟨gb533,2,none⟩) (Kd.R_far (p:=⟨gb533,1,none⟩) (Kd.R_far (p:=⟨gb533,0,none⟩) (Kd.R_types HO530.out BK533.out (by decide)) (fun _ hk=>hk.2) (.bool t527)) (fun _ hk=>hk.2) (.slice Ao75 t528.length co75)) (fun _ hk=>hk.2) (.int .i64 t531)) (fun _ h_=>h_.1))) hb);replace BK519:=Aside0.mk (blk_below (g:=gb519) (o:=.cells #[.bool t513,.slice Ao63 t514.length co63,.int .i64 t517] 43 (0,0)) (by (with_reducible repeat (first|apply bN|apply bD|apply bA));refine blk_far ?_ NB519_533.out _;(with_reducible repeat (first|apply bN|apply bD|apply bA));refine blk_far ?_ NB519_533.out _;(with_reducible repeat (first|apply bN|apply bD|apply bA));refine blk_far ?_ NB519_533.out _;exact bk_ BK519) hb);replace BK526:=Aside0.mk (blk_below (g:=gb526) (o:=.cells #[.bool t520,.slice Ao68 t521.length co68,.int .i64 t524] 43 (0,0)) (by (with_reducible repeat (first|apply bN|apply bD|apply bA));refine blk_far ?_ NB526_533.out _;(with_reducible repeat (first|apply bN|apply bD|apply bA));refine blk_far ?_ NB526_533.out _;(with_reducible repeat (first|apply bN|apply bD|apply bA));refine blk_far ?_ NB526_533.out _;exact bk_ BK526) hb);replace BK533:=Aside0.mk (blk_below (g:=gb533) (o:=.cells #[.bool t527,.slice Ao75 t528.length co75,.int .i64 t531] 43 (0,0)) (by (with_reducible repeat (first|apply bN|apply bD|apply bA));refine blk_put (cs:=#[.bool t527,.slice Ao75 t528.length co75,.int .i64 0]) ?_ 2 _ rfl;(with_reducible repeat (first|apply bN|apply bD|apply bA));refine blk_put (cs:=#[.bool t527,.slice none 0 0,.int .i64 0]) ?_ 1 _ rfl;(with_reducible repeat (first|apply bN|apply bD|apply bA));refine blk_put (cs:=#[.bool false,.slice none 0 0,.int .i64 0]) ?_ 0 _ rfl;exact bk_ BK533) hb);replace HB:=bs_ HB hb;(try clear hb);(try clear hb2);(try clear hk);(try clear hi)))
       go_ret
       exact ⟨rf_,bl_ HB⟩

def r05_Minus.f (k : Nat) (a0 : Nat) (a1 : Nat) : Option (Nat) := (r05_Turned.f a1).bind fun t540 => ((r05_Plus.f k a0 t540).bind fun t541 => (some t541))
theorem r05_Minus.mono : ∀ a0 a1 k, LeO (r05_Minus.f k a0 a1) (r05_Minus.f (k + 1) a0 a1) := by
 intro a0 a1 k
 unfold r05_Minus.f
 repeat' first
   | (with_reducible exact r05_Plus.mono _ _ _)
   | (with_reducible exact LeO.refl _)
   | (with_reducible exact LeO.none _)
   | (with_reducible refine LeO.ite ?_ ?_)
   | (with_reducible refine LeO.bind ?_ (fun _ => ?_))
   | exact r05_Plus.mono _ _ _
   | exact LeO.none _
   | refine LeO.ite ?_ ?_
   | refine LeO.bind ?_ (fun _ => ?_)
set_option maxHeartbeats 3000000 in
set_option maxRecDepth 100000 in
theorem r05_Minus.calls (k : Nat) (a0 : Nat) (a1 : Nat) (r : Nat) (w : World) (h : r05_Minus.f k a0 a1 = some r) :
  Calls Try.prog 44 #[.float .f64 a0,.float .f64 a1] w fun e w'=>e = .returned (.float .f64 r) ∧ Below w.heap.size w w':=by
 have HB:=Aside0.mk (Below.refl w.heap.size w)
 have H : ((r05_Turned.f a1).bind fun t540=>((r05_Plus.f k a0 t540).bind fun t541=>(some t541))) = some r:=h
 clear h
 obtain ⟨t540,A3,H⟩:=ob_ H
 try dsimp only at H
 obtain ⟨t541,A4,H⟩:=ob_ H
 try dsimp only at H
 obtain rfl:=Option.some.inj H
 go_enter Try.func44,Try.ntmps44
 go_wp2_with (first|((with_reducible refine gate_callee (f:=10) rfl ?_);refine goesM (some 7) Try.func10 #[.float .f64 a1] ?_;(with_reducible refine (r05_Turned.calls a1 t540 _ A3.out).mono ?_);rintro e w' ⟨rfl,⟨nd,rfl⟩⟩;refine ⟨_,rfl,?_⟩)|((with_reducible refine gate_callee (f:=43) rfl ?_);refine goesM (some 10) Try.func43 #[.float .f64 a0,.float .f64 t540] ?_;(with_reducible refine (r05_Plus.calls k a0 t540 t541 _ A4.out).mono ?_);rintro e w5 ⟨rfl,hb⟩;refine ⟨_,rfl,?_⟩;replace HB:=bs_ HB hb;(try clear hb);(try clear hb2);(try clear hk);(try clear hi)))
 go_ret
 exact ⟨rf_,bl_ HB⟩

end Go.Proofs.Ytdemanikmaafeaa.Pr
-- written by this session's own program (wip/fprint.py), which widens the kit's print by floats
namespace Go.Proofs.Ytdemanikmaafeaa.Pr
open Go.RowKit Go.Proofs.YtdemanikmaafeaaW.PrintWords Go.Proofs.YtdemanikmaafeaaW.PrintLast Go.Proofs.YtdemanikmaafeaaW.PrintMore
attribute [local go_sem] max2_int min2_int max_two min_two max_three min_three max_four min_four   -- for this text's walks alone
set_option linter.unusedVariables false
set_option linter.unusedSimpArgs false

def r05_IsNought.f (a0 : Nat) : Option (Bool) := some ((Go.bits .andNot .u64 (a0 : Int) 9223372036854775808) == 0)
set_option maxHeartbeats 3000000 in
set_option maxRecDepth 100000 in
theorem r05_IsNought.calls (a0 : Nat) (r : Bool) (w : World) (h : r05_IsNought.f a0 = some r) :
  Calls Try.prog 56 #[.float .f64 a0] w fun e w'=>e = .returned (.bool r) ∧ Drawn0 w w':=by
 have H : (some ((Go.bits .andNot .u64 (a0 : Int) 9223372036854775808) == 0)) = some r:=h
 clear h
 obtain rfl:=Option.some.inj H
 go_enter Try.func56,Try.ntmps56
 go_wp2
 go_ret
 exact ⟨by first|rfl|(simp;done)|(simp [*];done),by repeat (first|exact Drawn0.refl _|apply Drawn0.step)⟩

end Go.Proofs.Ytdemanikmaafeaa.Pr
