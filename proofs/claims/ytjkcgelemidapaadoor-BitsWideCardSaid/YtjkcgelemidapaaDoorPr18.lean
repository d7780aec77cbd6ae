-- written by this session's own program (wip/fprint.py), which widens the kit's print by floats
import Derived.Test.YtjkcgelemidapaaDoorPr0
import Derived.Test.YtjkcgelemidapaaDoorPr1
import Derived.Test.YtjkcgelemidapaaDoorPr2
import Derived.Test.YtjkcgelemidapaaDoorPr4
import Derived.Test.YtjkcgelemidapaaDoorPr9
import Derived.Test.YtjkcgelemidapaaDoorPr10
import Derived.Test.YtjkcgelemidapaaDoorPr16
namespace Go.Proofs.YtjkcgelemidapaaDoor.Pr
open Go.RowKit Go.Proofs.YtjkcgelemidapaaDoorW.PrintWords Go.Proofs.YtjkcgelemidapaaDoorW.PrintLast Go.Proofs.YtjkcgelemidapaaDoorW.PrintMore
attribute [local go_sem] max2_int min2_int max_two min_two max_three min_three max_four min_four   -- for this text's walks alone
set_option linter.unusedVariables false
set_option linter.unusedSimpArgs false

attribute [local go_sem high] eqA28
/-! ### bits_Class: function 29 -/
def bits_Class.f (k : Nat) (a0 : Nat) : Option (Int) := (bits_Split.f k a0).bind fun bt225 => (some bt225.2.1)
theorem bits_Class.mono : ∀ a0 k, LeO (bits_Class.f k a0) (bits_Class.f (k + 1) a0) := by
  intro a0 k
  unfold bits_Class.f
  repeat' first
      | (with_reducible exact bits_Split.mono _ _)
      | (with_reducible exact LeO.refl _)
      | (with_reducible exact LeO.none _)
      | (with_reducible refine LeO.ite ?_ ?_)
      | (with_reducible refine LeO.bind ?_ (fun _ => ?_))
      | exact bits_Split.mono _ _
      | exact LeO.none _
      | refine LeO.ite ?_ ?_
      | refine LeO.bind ?_ (fun _ => ?_)
set_option maxHeartbeats 3000000 in
set_option maxRecDepth 100000 in
theorem bits_Class.calls (k : Nat) (a0 : Nat) (r : Int) (w : World) (h : bits_Class.f k a0 = some r) :
    Calls Tryd.prog 29 #[.float .f64 a0] w fun e w' => e = .returned (.int .i64 r) ∧ Below w.heap.size w w' := by
  have hfd28_1 : ∀ (x0 : Bool) (x1 : Int) (x2 : Int) (x3 : Int) (w : World), (Instr.field 28 (.agg #[.bool x0, .int .i64 x1, .int .i64 x2, .int .u64 x3]) 1).run Tryd.prog w = .ok (.int .i64 x1) w := fun x0 x1 x2 x3 _ => by kernel_rfl
  have HB := Aside0.mk (Below.refl w.heap.size w)
  have H : ((bits_Split.f k a0).bind fun bt225 => (some bt225.2.1)) = some r := h
  clear h
  replace H := Option.bind_eq_some_iff.mp H
  obtain ⟨⟨t225, t226, t227, t228⟩, A20, H⟩ := H
  replace H : (some t226) = some r := H
  have A2 := Aside0.mk A20
  clear A20
  obtain rfl := Option.some.inj H
  go_enter Tryd.func29, Tryd.ntmps29
  go_wp2_with (first | ((with_reducible refine gate_callee (f := 20) rfl ?_); refine goesL_ (some 4) rfl rfl Tryd.func20 (by kernel_rfl) rfl #[.float .f64 a0] rfl (by (try simp only [List.map_toArray, List.map_cons, List.map_nil]); first | done | rfl | (simp only [List.length_drop, List.length_take]; rfl)) ?_; (with_reducible refine (bits_Split.calls k a0 t225 t226 t227 t228 _ A2.out).mono ?_); rintro e w3 ⟨rfl, hb⟩; refine ⟨_, rfl, ?_⟩; have n0_ := bs_ HB hb; clear HB; have HB := n0_; clear n0_; (try clear hb); (try clear hb2); (try clear hk); (try clear hi)))
  go_ret
  exact ⟨by first | rfl | (simp [errW_none, errW_some] <;> rfl) | (simp [*, errW_none, errW_some] <;> rfl), by repeat (first | (with_reducible first | exact HB.out | apply below_alloc | apply pw_below_drewN | apply below_drew1) | exact HB.out)⟩

/-! ### steelyardref01_Class: function 30 -/
def steelyardref01_Class.f (a0 : Nat) : Option (Int) := (steelyardref01_Split.f a0).bind fun bt229 => (some bt229.2.1)
set_option maxHeartbeats 3000000 in
set_option maxRecDepth 100000 in
theorem steelyardref01_Class.calls (a0 : Nat) (r : Int) (w : World) (h : steelyardref01_Class.f a0 = some r) :
    Calls Tryd.prog 30 #[.float .f64 a0] w fun e w' => e = .returned (.int .i64 r) ∧ Below w.heap.size w w' := by
  have hfd28_1 : ∀ (x0 : Bool) (x1 : Int) (x2 : Int) (x3 : Int) (w : World), (Instr.field 28 (.agg #[.bool x0, .int .i64 x1, .int .i64 x2, .int .u64 x3]) 1).run Tryd.prog w = .ok (.int .i64 x1) w := fun x0 x1 x2 x3 _ => by kernel_rfl
  have HB := Aside0.mk (Below.refl w.heap.size w)
  have H : ((steelyardref01_Split.f a0).bind fun bt229 => (some bt229.2.1)) = some r := h
  clear h
  replace H := Option.bind_eq_some_iff.mp H
  obtain ⟨⟨t229, t230, t231, t232⟩, A20, H⟩ := H
  replace H : (some t230) = some r := H
  have A2 := Aside0.mk A20
  clear A20
  obtain rfl := Option.some.inj H
  go_enter Tryd.func30, Tryd.ntmps30
  go_wp2_with (first | ((with_reducible refine gate_callee (f := 28) rfl ?_); refine goesL_ (some 4) rfl rfl Tryd.func28 (by kernel_rfl) rfl #[.float .f64 a0] rfl (by (try simp only [List.map_toArray, List.map_cons, List.map_nil]); first | done | rfl | (simp only [List.length_drop, List.length_take]; rfl)) ?_; (with_reducible refine (steelyardref01_Split.calls a0 t229 t230 t231 t232 _ A2.out).mono ?_); rintro e w3 ⟨rfl, hb⟩; refine ⟨_, rfl, ?_⟩; have n0_ := bs_ HB hb; clear HB; have HB := n0_; clear n0_; (try clear hb); (try clear hb2); (try clear hk); (try clear hi)))
  go_ret
  exact ⟨by first | rfl | (simp [errW_none, errW_some] <;> rfl) | (simp [*, errW_none, errW_some] <;> rfl), by repeat (first | (with_reducible first | exact HB.out | apply below_alloc | apply pw_below_drewN | apply below_drew1) | exact HB.out)⟩

/-! ### steelyardref01_Same: function 31 -/
def steelyardref01_Same.f (a0 : Nat) (a1 : Nat) : Option (Bool) := (steelyardref01_Bits.f a0).bind fun t233 => ((steelyardref01_Bits.f a1).bind fun t234 => (some (t233 == t234)))
set_option maxHeartbeats 3000000 in
set_option maxRecDepth 100000 in
theorem steelyardref01_Same.calls (a0 : Nat) (a1 : Nat) (r : Bool) (w : World) (h : steelyardref01_Same.f a0 a1 = some r) :
    Calls Tryd.prog 31 #[.float .f64 a0, .float .f64 a1] w fun e w' => e = .returned (.bool r) ∧ Drawn0 w w' := by
  have H : ((steelyardref01_Bits.f a0).bind fun t233 => ((steelyardref01_Bits.f a1).bind fun t234 => (some (t233 == t234)))) = some r := h
  clear h
  replace H := Option.bind_eq_some_iff.mp H
  obtain ⟨t233, A30, H⟩ := H
  replace H : ((steelyardref01_Bits.f a1).bind fun t234 => (some (t233 == t234))) = some r := H
  have A3 := Aside0.mk A30
  clear A30
  replace H := Option.bind_eq_some_iff.mp H
  obtain ⟨t234, A40, H⟩ := H
  replace H : (some (t233 == t234)) = some r := H
  have A4 := Aside0.mk A40
  clear A40
  obtain rfl := Option.some.inj H
  go_enter Tryd.func31, Tryd.ntmps31
  go_wp2_with (first | ((with_reducible refine gate_callee (f := 61) rfl ?_); refine goesL_ (some 6) rfl rfl Tryd.func61 (by kernel_rfl) rfl #[.float .f64 a0] rfl (by (try simp only [List.map_toArray, List.map_cons, List.map_nil]); first | done | rfl | (simp only [List.length_drop, List.length_take]; rfl)) ?_; (with_reducible refine (steelyardref01_Bits.calls a0 t233 _ A3.out).mono ?_); rintro e w' ⟨rfl, ⟨nd, rfl⟩⟩; refine ⟨_, rfl, ?_⟩) | ((with_reducible refine gate_callee (f := 61) rfl ?_); refine goesL_ (some 8) rfl rfl Tryd.func61 (by kernel_rfl) rfl #[.float .f64 a1] rfl (by (try simp only [List.map_toArray, List.map_cons, List.map_nil]); first | done | rfl | (simp only [List.length_drop, List.length_take]; rfl)) ?_; (with_reducible refine (steelyardref01_Bits.calls a1 t234 _ A4.out).mono ?_); rintro e w' ⟨rfl, ⟨nd, rfl⟩⟩; refine ⟨_, rfl, ?_⟩))
  go_ret
  exact ⟨by first | rfl | (simp; done) | (simp [*]; done), by repeat (first | exact Drawn0.refl _ | apply Drawn0.step)⟩

/-! ### steelyardlaw01_BitsSplits: function 9 -/
def steelyardlaw01_BitsSplits.f (k : Nat) (a0 : Nat) (a1 : Nat) : Option (Bool) := (steelyardlaw01_live.f k).bind fun t235 => (if t235 = true then ((bits_Split.f k a0).bind fun bt236 => ((steelyardref01_Split.f a0).bind fun bt240 => (if (bt236.1 == bt240.1 && (bt236.2.1 == bt240.2.1 && (bt236.2.2.1 == bt240.2.2.1 && (bt236.2.2.2 == bt240.2.2.2)))) = true then ((bits_Split.f k a1).bind fun bt244 => ((steelyardref01_Split.f a1).bind fun bt248 => (if (bt244.1 == bt248.1 && (bt244.2.1 == bt248.2.1 && (bt244.2.2.1 == bt248.2.2.1 && (bt244.2.2.2 == bt248.2.2.2)))) = true then ((bits_Class.f k a0).bind fun t252 => ((steelyardref01_Class.f a0).bind fun t253 => (if t252 = t253 then ((bits_Same.f a0 a1).bind fun t254 => ((steelyardref01_Same.f a0 a1).bind fun t255 => (if (t254 == t255) = true then ((bits_Same.f a0 a0).bind fun t256 => (some t256)) else (none)))) else (none)))) else (none)))) else (none)))) else (none))
theorem steelyardlaw01_BitsSplits.mono : ∀ a0 a1 k, LeO (steelyardlaw01_BitsSplits.f k a0 a1) (steelyardlaw01_BitsSplits.f (k + 1) a0 a1) := by
  intro a0 a1 k
  unfold steelyardlaw01_BitsSplits.f
  repeat' first
      | (with_reducible exact bits_Class.mono _ _)
      | (with_reducible exact bits_Split.mono _ _)
      | (with_reducible exact steelyardlaw01_live.mono _)
      | (with_reducible exact LeO.refl _)
      | (with_reducible exact LeO.none _)
      | (with_reducible refine LeO.ite ?_ ?_)
      | (with_reducible refine LeO.bind ?_ (fun _ => ?_))
      | exact bits_Class.mono _ _
      | exact bits_Split.mono _ _
      | exact steelyardlaw01_live.mono _
      | exact LeO.none _
      | refine LeO.ite ?_ ?_
      | refine LeO.bind ?_ (fun _ => ?_)
set_option maxHeartbeats 3000000 in
set_option maxRecDepth 100000 in
theorem steelyardlaw01_BitsSplits.calls (k : Nat) (a0 : Nat) (a1 : Nat) (r : Bool) (w : World) (hG : GlobLaid w) (h : steelyardlaw01_BitsSplits.f k a0 a1 = some r) :
    Calls Tryd.prog 9 #[.float .f64 a0, .float .f64 a1] w fun e w' => e = .returned (.bool r) ∧ Below w.heap.size w w' := by
  have HG := Aside0.mk hG
  clear hG
  have HB := Aside0.mk (Below.refl w.heap.size w)
  have H : ((steelyardlaw01_live.f k).bind fun t235 => (if t235 = true then ((bits_Split.f k a0).bind fun bt236 => ((steelyardref01_Split.f a0).bind fun bt240 => (if (bt236.1 == bt240.1 && (bt236.2.1 == bt240.2.1 && (bt236.2.2.1 == bt240.2.2.1 && (bt236.2.2.2 == bt240.2.2.2)))) = true then ((bits_Split.f k a1).bind fun bt244 => ((steelyardref01_Split.f a1).bind fun bt248 => (if (bt244.1 == bt248.1 && (bt244.2.1 == bt248.2.1 && (bt244.2.2.1 == bt248.2.2.1 && (bt244.2.2.2 == bt248.2.2.2)))) = true then ((bits_Class.f k a0).bind fun t252 => ((steelyardref01_Class.f a0).bind fun t253 => (if t252 = t253 then ((bits_Same.f a0 a1).bind fun t254 => ((steelyardref01_Same.f a0 a1).bind fun t255 => (if (t254 == t255) = true then ((bits_Same.f a0 a0).bind fun t256 => (some t256)) else (none)))) else (none)))) else (none)))) else (none)))) else (none))) = some r := h
  clear h
  replace H := Option.bind_eq_some_iff.mp H
  obtain ⟨t235, A30, H⟩ := H
  replace H : (if t235 = true then ((bits_Split.f k a0).bind fun bt236 => ((steelyardref01_Split.f a0).bind fun bt240 => (if (bt236.1 == bt240.1 && (bt236.2.1 == bt240.2.1 && (bt236.2.2.1 == bt240.2.2.1 && (bt236.2.2.2 == bt240.2.2.2)))) = true then ((bits_Split.f k a1).bind fun bt244 => ((steelyardref01_Split.f a1).bind fun bt248 => (if (bt244.1 == bt248.1 && (bt244.2.1 == bt248.2.1 && (bt244.2.2.1 == bt248.2.2.1 && (bt244.2.2.2 == bt248.2.2.2)))) = true then ((bits_Class.f k a0).bind fun t252 => ((steelyardref01_Class.f a0).bind fun t253 => (if t252 = t253 then ((bits_Same.f a0 a1).bind fun t254 => ((steelyardref01_Same.f a0 a1).bind fun t255 => (if (t254 == t255) = true then ((bits_Same.f a0 a0).bind fun t256 => (some t256)) else (none)))) else (none)))) else (none)))) else (none)))) else (none)) = some r := H
  have A3 := Aside0.mk A30
  clear A30
  by_cases c4 : t235 = true
  · subst c4
    have H1 : ((bits_Split.f k a0).bind fun bt236 => ((steelyardref01_Split.f a0).bind fun bt240 => (if (bt236.1 == bt240.1 && (bt236.2.1 == bt240.2.1 && (bt236.2.2.1 == bt240.2.2.1 && (bt236.2.2.2 == bt240.2.2.2)))) = true then ((bits_Split.f k a1).bind fun bt244 => ((steelyardref01_Split.f a1).bind fun bt248 => (if (bt244.1 == bt248.1 && (bt244.2.1 == bt248.2.1 && (bt244.2.2.1 == bt248.2.2.1 && (bt244.2.2.2 == bt248.2.2.2)))) = true then ((bits_Class.f k a0).bind fun t252 => ((steelyardref01_Class.f a0).bind fun t253 => (if t252 = t253 then ((bits_Same.f a0 a1).bind fun t254 => ((steelyardref01_Same.f a0 a1).bind fun t255 => (if (t254 == t255) = true then ((bits_Same.f a0 a0).bind fun t256 => (some t256)) else (none)))) else (none)))) else (none)))) else (none)))) = some r := by rw [if_pos rfl] at H; exact H
    clear H
    have H := H1
    clear H1
    replace H := Option.bind_eq_some_iff.mp H
    obtain ⟨⟨t236, t237, t238, t239⟩, A50, H⟩ := H
    replace H : ((steelyardref01_Split.f a0).bind fun bt240 => (if (t236 == bt240.1 && (t237 == bt240.2.1 && (t238 == bt240.2.2.1 && (t239 == bt240.2.2.2)))) = true then ((bits_Split.f k a1).bind fun bt244 => ((steelyardref01_Split.f a1).bind fun bt248 => (if (bt244.1 == bt248.1 && (bt244.2.1 == bt248.2.1 && (bt244.2.2.1 == bt248.2.2.1 && (bt244.2.2.2 == bt248.2.2.2)))) = true then ((bits_Class.f k a0).bind fun t252 => ((steelyardref01_Class.f a0).bind fun t253 => (if t252 = t253 then ((bits_Same.f a0 a1).bind fun t254 => ((steelyardref01_Same.f a0 a1).bind fun t255 => (if (t254 == t255) = true then ((bits_Same.f a0 a0).bind fun t256 => (some t256)) else (none)))) else (none)))) else (none)))) else (none))) = some r := H
    have A5 := Aside0.mk A50
    clear A50
    replace H := Option.bind_eq_some_iff.mp H
    obtain ⟨⟨t240, t241, t242, t243⟩, A60, H⟩ := H
    replace H : (if (t236 == t240 && (t237 == t241 && (t238 == t242 && (t239 == t243)))) = true then ((bits_Split.f k a1).bind fun bt244 => ((steelyardref01_Split.f a1).bind fun bt248 => (if (bt244.1 == bt248.1 && (bt244.2.1 == bt248.2.1 && (bt244.2.2.1 == bt248.2.2.1 && (bt244.2.2.2 == bt248.2.2.2)))) = true then ((bits_Class.f k a0).bind fun t252 => ((steelyardref01_Class.f a0).bind fun t253 => (if t252 = t253 then ((bits_Same.f a0 a1).bind fun t254 => ((steelyardref01_Same.f a0 a1).bind fun t255 => (if (t254 == t255) = true then ((bits_Same.f a0 a0).bind fun t256 => (some t256)) else (none)))) else (none)))) else (none)))) else (none)) = some r := H
    have A6 := Aside0.mk A60
    clear A60
    by_cases c7 : (t236 == t240 && (t237 == t241 && (t238 == t242 && (t239 == t243)))) = true
    · rw [if_pos c7] at H
      have c7b0 : (t236 == t240 && (t237 == t241 && (t238 == t242 && (t239 == t243)))) = true := c7
      (try (have c7b1 : decide (t236 = t240 && (t237 == t241 && (t238 == t242 && (t239 == t243)))) = true := by simpa using c7))
      (try (have c7b2 : (t236 == t240 && (t237 == t241 && (t238 == t242 && (t239 == t243)))) = true := by simpa using c7))
      clear c7
      replace H := Option.bind_eq_some_iff.mp H
      obtain ⟨⟨t244, t245, t246, t247⟩, A80, H⟩ := H
      replace H : ((steelyardref01_Split.f a1).bind fun bt248 => (if (t244 == bt248.1 && (t245 == bt248.2.1 && (t246 == bt248.2.2.1 && (t247 == bt248.2.2.2)))) = true then ((bits_Class.f k a0).bind fun t252 => ((steelyardref01_Class.f a0).bind fun t253 => (if t252 = t253 then ((bits_Same.f a0 a1).bind fun t254 => ((steelyardref01_Same.f a0 a1).bind fun t255 => (if (t254 == t255) = true then ((bits_Same.f a0 a0).bind fun t256 => (some t256)) else (none)))) else (none)))) else (none))) = some r := H
      have A8 := Aside0.mk A80
      clear A80
      replace H := Option.bind_eq_some_iff.mp H
      obtain ⟨⟨t248, t249, t250, t251⟩, A90, H⟩ := H
      replace H : (if (t244 == t248 && (t245 == t249 && (t246 == t250 && (t247 == t251)))) = true then ((bits_Class.f k a0).bind fun t252 => ((steelyardref01_Class.f a0).bind fun t253 => (if t252 = t253 then ((bits_Same.f a0 a1).bind fun t254 => ((steelyardref01_Same.f a0 a1).bind fun t255 => (if (t254 == t255) = true then ((bits_Same.f a0 a0).bind fun t256 => (some t256)) else (none)))) else (none)))) else (none)) = some r := H
      have A9 := Aside0.mk A90
      clear A90
      by_cases c10 : (t244 == t248 && (t245 == t249 && (t246 == t250 && (t247 == t251)))) = true
      · rw [if_pos c10] at H
        have c10b0 : (t244 == t248 && (t245 == t249 && (t246 == t250 && (t247 == t251)))) = true := c10
        (try (have c10b1 : decide (t244 = t248 && (t245 == t249 && (t246 == t250 && (t247 == t251)))) = true := by simpa using c10))
        (try (have c10b2 : (t244 == t248 && (t245 == t249 && (t246 == t250 && (t247 == t251)))) = true := by simpa using c10))
        clear c10
        replace H := Option.bind_eq_some_iff.mp H
        obtain ⟨t252, A110, H⟩ := H
        replace H : ((steelyardref01_Class.f a0).bind fun t253 => (if t252 = t253 then ((bits_Same.f a0 a1).bind fun t254 => ((steelyardref01_Same.f a0 a1).bind fun t255 => (if (t254 == t255) = true then ((bits_Same.f a0 a0).bind fun t256 => (some t256)) else (none)))) else (none))) = some r := H
        have A11 := Aside0.mk A110
        clear A110
        replace H := Option.bind_eq_some_iff.mp H
        obtain ⟨t253, A120, H⟩ := H
        replace H : (if t252 = t253 then ((bits_Same.f a0 a1).bind fun t254 => ((steelyardref01_Same.f a0 a1).bind fun t255 => (if (t254 == t255) = true then ((bits_Same.f a0 a0).bind fun t256 => (some t256)) else (none)))) else (none)) = some r := H
        have A12 := Aside0.mk A120
        clear A120
        by_cases c13 : t252 = t253
        · rw [if_pos c13] at H
          have c13b0 : (t252 == t253) = true := beq_iff_eq.mpr c13
          have c13b1 : (t252 != t253) = false := bne_eq_false_iff_eq.mpr c13
          clear c13
          replace H := Option.bind_eq_some_iff.mp H
          obtain ⟨t254, A140, H⟩ := H
          replace H : ((steelyardref01_Same.f a0 a1).bind fun t255 => (if (t254 == t255) = true then ((bits_Same.f a0 a0).bind fun t256 => (some t256)) else (none))) = some r := H
          have A14 := Aside0.mk A140
          clear A140
          replace H := Option.bind_eq_some_iff.mp H
          obtain ⟨t255, A150, H⟩ := H
          replace H : (if (t254 == t255) = true then ((bits_Same.f a0 a0).bind fun t256 => (some t256)) else (none)) = some r := H
          have A15 := Aside0.mk A150
          clear A150
          by_cases c16 : (t254 == t255) = true
          · rw [if_pos c16] at H
            have c16b0 : (t254 == t255) = true := c16
            (try (have c16b1 : decide (t254 = t255) = true := by simpa using c16))
            (try (have c16b2 : (t254 == t255) = true := by simpa using c16))
            clear c16
            replace H := Option.bind_eq_some_iff.mp H
            obtain ⟨t256, A170, H⟩ := H
            replace H : (some t256) = some r := H
            have A17 := Aside0.mk A170
            clear A170
            obtain rfl := Option.some.inj H
            go_enter Tryd.func9, Tryd.ntmps9
            go_wp2_with (first | ((with_reducible refine gate_callee (f := 14) rfl ?_); refine goesL_ (some 6) rfl rfl Tryd.func14 (by kernel_rfl) rfl #[] rfl (by (try simp only [List.map_toArray, List.map_cons, List.map_nil]); first | done | rfl | (simp only [List.length_drop, List.length_take]; rfl)) ?_; (with_reducible refine (steelyardlaw01_live.calls k  true _ ?side1 A3.out).mono ?_); (case side1 => exact GlobLaid.below HG.out (bl_ HB)); rintro e w18 ⟨rfl, hb⟩; refine ⟨_, rfl, ?_⟩; have n0_ := bs_ HB hb; clear HB; have HB := n0_; clear n0_; (try clear hb); (try clear hb2); (try clear hk); (try clear hi)) | (go_at_call 20; (with_reducible refine (bits_Split.calls k a0 t236 t237 t238 t239 _ A5.out).mono ?_); rintro e w19 ⟨rfl, hb⟩; have n0_ := bs_ HB hb; clear HB; have HB := n0_; clear n0_; (try clear hb); (try clear hb2); (try clear hk); (try clear hi)) | (go_at_call 28; (with_reducible refine (steelyardref01_Split.calls a0 t240 t241 t242 t243 _ A6.out).mono ?_); rintro e w20 ⟨rfl, hb⟩; have n0_ := bs_ HB hb; clear HB; have HB := n0_; clear n0_; (try clear hb); (try clear hb2); (try clear hk); (try clear hi)) | (go_at_call 20; (with_reducible refine (bits_Split.calls k a1 t244 t245 t246 t247 _ A8.out).mono ?_); rintro e w21 ⟨rfl, hb⟩; have n0_ := bs_ HB hb; clear HB; have HB := n0_; clear n0_; (try clear hb); (try clear hb2); (try clear hk); (try clear hi)) | (go_at_call 28; (with_reducible refine (steelyardref01_Split.calls a1 t248 t249 t250 t251 _ A9.out).mono ?_); rintro e w22 ⟨rfl, hb⟩; have n0_ := bs_ HB hb; clear HB; have HB := n0_; clear n0_; (try clear hb); (try clear hb2); (try clear hk); (try clear hi)) | (go_at_call 29; (with_reducible refine (bits_Class.calls k a0 t252 _ A11.out).mono ?_); rintro e w23 ⟨rfl, hb⟩; have n0_ := bs_ HB hb; clear HB; have HB := n0_; clear n0_; (try clear hb); (try clear hb2); (try clear hk); (try clear hi)) | (go_at_call 30; (with_reducible refine (steelyardref01_Class.calls a0 t253 _ A12.out).mono ?_); rintro e w24 ⟨rfl, hb⟩; have n0_ := bs_ HB hb; clear HB; have HB := n0_; clear n0_; (try clear hb); (try clear hb2); (try clear hk); (try clear hi)) | (go_at_call 27; (with_reducible refine (bits_Same.calls a0 a1 t254 _ A14.out).mono ?_); rintro e w' ⟨rfl, ⟨nd, rfl⟩⟩) | (go_at_call 31; (with_reducible refine (steelyardref01_Same.calls a0 a1 t255 _ A15.out).mono ?_); rintro e w' ⟨rfl, ⟨nd, rfl⟩⟩) | (go_at_call 27; (with_reducible refine (bits_Same.calls a0 a0 t256 _ A17.out).mono ?_); rintro e w' ⟨rfl, ⟨nd, rfl⟩⟩))
            go_ret
            exact ⟨by first | rfl | (simp [errW_none, errW_some] <;> rfl) | (simp [*, errW_none, errW_some] <;> rfl), by repeat (first | (with_reducible first | exact HB.out | apply below_alloc | apply pw_below_drewN | apply below_drew1) | exact HB.out)⟩
          · rw [if_neg c16] at H
            exact absurd H (by simp)
        · rw [if_neg c13] at H
          exact absurd H (by simp)
      · rw [if_neg c10] at H
        exact absurd H (by simp)
    · rw [if_neg c7] at H
      exact absurd H (by simp)
  · replace c4 := Bool.eq_false_iff.mpr c4
    subst c4
    have H1 : (none) = some r := by rw [if_neg (show ¬ (false = true) by decide)] at H; exact H
    clear H
    have H := H1
    clear H1
    exact absurd H (by simp)

/-- THE ONE PURE STATEMENT of steelyardlaw01_BitsSplits: yours. -/
def steelyardlaw01_BitsSplits.Pure : Prop := ∀ (a0 : Nat) (a1 : Nat), (Lit.float .f64 a0).wf = true → (Lit.float .f64 a1).wf = true → ∃ k, steelyardlaw01_BitsSplits.f k a0 a1 = some true

/-! ### bits_Widen: function 32 -/
def bits_Widen.f (a0 : Nat) : Option (Nat) := if (FloatKind.f32.format.order a0 a0 != some .eq) = true then ((bits_NaN.f).bind fun t257 => (some t257)) else (if (floatToFloatBits .f32 a0 .f64).isSome = true then (some ((floatToFloatBits .f32 a0 .f64).getD 0)) else (none))
set_option maxHeartbeats 3000000 in
set_option maxRecDepth 100000 in
theorem bits_Widen.calls (a0 : Nat) (r : Nat) (w : World) (h : bits_Widen.f a0 = some r) :
    Calls Tryd.prog 32 #[.float .f32 a0] w fun e w' => e = .returned (.float .f64 r) ∧ Drawn0 w w' := by
  have H : (if (FloatKind.f32.format.order a0 a0 != some .eq) = true then ((bits_NaN.f).bind fun t257 => (some t257)) else (if (floatToFloatBits .f32 a0 .f64).isSome = true then (some ((floatToFloatBits .f32 a0 .f64).getD 0)) else (none))) = some r := h
  clear h
  by_cases c2 : (FloatKind.f32.format.order a0 a0 != some .eq) = true
  · rw [if_pos c2] at H
    have c2b0 : (FloatKind.f32.format.order a0 a0 != some .eq) = true := c2
    clear c2
    replace H := Option.bind_eq_some_iff.mp H
    obtain ⟨t257, A30, H⟩ := H
    replace H : (some t257) = some r := H
    have A3 := Aside0.mk A30
    clear A30
    obtain rfl := Option.some.inj H
    go_enter Tryd.func32, Tryd.ntmps32
    go_wp2_with (first | ((with_reducible refine gate_callee (f := 16) rfl ?_); refine goesL_ (some 6) rfl rfl Tryd.func16 (by kernel_rfl) rfl #[] rfl (by (try simp only [List.map_toArray, List.map_cons, List.map_nil]); first | done | rfl | (simp only [List.length_drop, List.length_take]; rfl)) ?_; (with_reducible refine (bits_NaN.calls  t257 _ A3.out).mono ?_); rintro e w' ⟨rfl, ⟨nd, rfl⟩⟩; refine ⟨_, rfl, ?_⟩))
    go_ret
    exact ⟨by first | rfl | (simp; done) | (simp [*]; done), by repeat (first | exact Drawn0.refl _ | apply Drawn0.step)⟩
  · rw [if_neg c2] at H
    have c2b0 : (FloatKind.f32.format.order a0 a0 != some .eq) = false := by simpa using c2
    clear c2
    by_cases c4 : (floatToFloatBits .f32 a0 .f64).isSome = true
    · rw [if_pos c4] at H
      have c4b0 : (floatToFloatBits .f32 a0 .f64).isSome = true := c4
      clear c4
      obtain rfl := Option.some.inj H
      go_enter Tryd.func32, Tryd.ntmps32
      go_wp2
      go_ret
      exact ⟨by first | rfl | (simp; done) | (simp [*]; done), by repeat (first | exact Drawn0.refl _ | apply Drawn0.step)⟩
    · rw [if_neg c4] at H
      exact absurd H (by simp)

/-! ### steelyardref01_Bits32: function 65 -/
def steelyardref01_Bits32.f (a0 : Nat) : Option (Int) := if ((a0 : Int) % 2147483648) > 2139095040 then (some 2143289344) else (some (a0 : Int))
set_option maxHeartbeats 3000000 in
set_option maxRecDepth 100000 in
theorem steelyardref01_Bits32.calls (a0 : Nat) (r : Int) (w : World) (h : steelyardref01_Bits32.f a0 = some r) :
    Calls Tryd.prog 65 #[.float .f32 a0] w fun e w' => e = .returned (.int .u32 r) ∧ Drawn0 w w' := by
  have H : (if ((a0 : Int) % 2147483648) > 2139095040 then (some 2143289344) else (some (a0 : Int))) = some r := h
  clear h
  by_cases c2 : ((a0 : Int) % 2147483648) > 2139095040
  · rw [if_pos c2] at H
    have c2b0 : decide (2139095040 < ((a0 : Int) % 2147483648)) = true := decide_eq_true c2
    clear c2
    obtain rfl := Option.some.inj H
    go_enter Tryd.func65, Tryd.ntmps65
    go_wp2
    go_ret
    exact ⟨by first | rfl | (simp; done) | (simp [*]; done), by repeat (first | exact Drawn0.refl _ | apply Drawn0.step)⟩
  · rw [if_neg c2] at H
    have c2b0 : decide (2139095040 < ((a0 : Int) % 2147483648)) = false := decide_eq_false c2
    clear c2
    obtain rfl := Option.some.inj H
    go_enter Tryd.func65, Tryd.ntmps65
    go_wp2
    go_ret
    exact ⟨by first | rfl | (simp; done) | (simp [*]; done), by repeat (first | exact Drawn0.refl _ | apply Drawn0.step)⟩

/-! ### steelyardref01_Split32: function 37 -/
def steelyardref01_Split32.f (a0 : Nat) : Option (Bool × Int × Int × Int) := (steelyardref01_Bits32.f a0).bind fun t259 => ((steelyardref01_parts.f (IntKind.u64.wrap (t259)) 8 23).bind fun bt260 => (some (bt260.1, bt260.2.1, bt260.2.2.1, bt260.2.2.2)))
set_option maxHeartbeats 3000000 in
set_option maxRecDepth 100000 in
theorem steelyardref01_Split32.calls (a0 : Nat) (r1 : Bool) (r2 : Int) (r3 : Int) (r4 : Int) (w : World) (h : steelyardref01_Split32.f a0 = some (r1, r2, r3, r4)) :
    Calls Tryd.prog 37 #[.float .f32 a0] w fun e w' => e = .returned (.agg #[.bool r1, .int .i64 r2, .int .i64 r3, .int .u64 r4]) ∧ Below w.heap.size w w' := by
  have hu28 := Tryd.underlying28
  have HB := Aside0.mk (Below.refl w.heap.size w)
  have H : ((steelyardref01_Bits32.f a0).bind fun t259 => ((steelyardref01_parts.f (IntKind.u64.wrap (t259)) 8 23).bind fun bt260 => (some (bt260.1, bt260.2.1, bt260.2.2.1, bt260.2.2.2)))) = some (r1, r2, r3, r4) := h
  clear h
  replace H := Option.bind_eq_some_iff.mp H
  obtain ⟨t259, A20, H⟩ := H
  replace H : ((steelyardref01_parts.f (IntKind.u64.wrap (t259)) 8 23).bind fun bt260 => (some (bt260.1, bt260.2.1, bt260.2.2.1, bt260.2.2.2))) = some (r1, r2, r3, r4) := H
  have A2 := Aside0.mk A20
  clear A20
  replace H := Option.bind_eq_some_iff.mp H
  obtain ⟨⟨t260, t261, t262, t263⟩, A30, H⟩ := H
  replace H : (some (t260, t261, t262, t263)) = some (r1, r2, r3, r4) := H
  have A3 := Aside0.mk A30
  clear A30
  simp only [Option.some.injEq, Prod.mk.injEq] at H
  obtain ⟨rfl, rfl, rfl, rfl⟩ := H
  go_enter Tryd.func37, Tryd.ntmps37
  go_wp2_with (first | ((with_reducible refine gate_dst (N := 2) rfl ?_); refine box_event ?hg (N := 2) ?hd (cs := #[.bool false, .int .i64 0, .int .i64 0, .int .u64 0]) (t := 28) ?hr ?_; (case hd => rfl); (case hg => rfl); (case hr => first | (go_simp; done) | (go_simp; rfl)); intro gb258 hg w4 hbox hb; have n0_ := bs_ HB hb; have n1_ := Aside0.mk (hbox); have n2_ := ge_ HB hg; have n3_ := ge_ HB hg; clear HB; have HB := n0_; have BK258 := n1_; have GW258 := n2_; have GE258 := n3_; clear n0_ n1_ n2_ n3_; clear hb hbox hg) | ((with_reducible refine gate_callee (f := 65) rfl ?_); refine goesL_ (some 4) rfl rfl Tryd.func65 (by kernel_rfl) rfl #[.float .f32 a0] rfl (by (try simp only [List.map_toArray, List.map_cons, List.map_nil]); first | done | rfl | (simp only [List.length_drop, List.length_take]; rfl)) ?_; (with_reducible refine (steelyardref01_Bits32.calls a0 t259 _ A2.out).mono ?_); rintro e w' ⟨rfl, ⟨nd, rfl⟩⟩; refine ⟨_, rfl, ?_⟩; (try (rw [drewN_self w4]; generalize hq_ : World.drewN w4 _ = w4; have n0_ : Aside0 (w4.heap[gb258]? = some (.cells #[.bool false, .int .i64 0, .int .i64 0, .int .u64 0] 28 (0, 0))) := ⟨by rw [← hq_]; exact (bk_ BK258)⟩; have n1_ : Aside0 (Below w.heap.size w w4) := ⟨by rw [← hq_]; exact (bl_ HB)⟩; clear BK258 HB hq_; have BK258 := n0_; have HB := n1_; clear n0_ n1_))) | ((with_reducible refine gate_callee (f := 60) rfl ?_); refine goesL_ (some 6) rfl rfl Tryd.func60 (by kernel_rfl) rfl #[.int .u64 (IntKind.u64.wrap (t259)), .int .i64 8, .int .i64 23] rfl (by (try simp only [List.map_toArray, List.map_cons, List.map_nil]); first | done | rfl | (simp only [List.length_drop, List.length_take]; rfl)) ?_; (with_reducible refine (steelyardref01_parts.calls (IntKind.u64.wrap (t259)) 8 23 t260 t261 t262 t263 _ A3.out).mono ?_); rintro e w5 ⟨rfl, hb⟩; refine ⟨_, rfl, ?_⟩; have n0_ := kb_ BK258 hb; have n1_ := bs_ HB hb; clear BK258; clear HB; have BK258 := n0_; have HB := n1_; clear n0_ n1_; (try clear hb); (try clear hb2); (try clear hk); (try clear hi); have hcz6_0 : w5.cell? ⟨gb258, 0, none⟩ = some (.bool false) := (blk_cell BK258.out 0).trans rfl; have hcz6_1 : w5.cell? ⟨gb258, 1, none⟩ = some (.int .i64 0) := (blk_cell BK258.out 1).trans rfl; have hcz6_2 : w5.cell? ⟨gb258, 2, none⟩ = some (.int .i64 0) := (blk_cell BK258.out 2).trans rfl; have hcz6_3 : w5.cell? ⟨gb258, 3, none⟩ = some (.int .u64 0) := (blk_cell BK258.out 3).trans rfl; have hfz6_0 := blk_frozen BK258.out 0; have hfz6_1 := blk_frozen BK258.out 1; have hfz6_2 := blk_frozen BK258.out 2; have hfz6_3 := blk_frozen BK258.out 3))
  refine bodyPost_ret (results_cell_row rfl _ _ gb258 28 #[.bool t260, .int .i64 t261, .int .i64 t262, .int .u64 t263] (0, 0) _ rfl (by (with_reducible repeat (first | refine blk_drewN ?_ _ | refine blk_drew ?_ | refine blk_alloc ?_ _)); refine blk_put (cs := #[.bool t260, .int .i64 t261, .int .i64 t262, .int .u64 0]) ?_ 3 _ rfl; (with_reducible repeat (first | refine blk_drewN ?_ _ | refine blk_drew ?_ | refine blk_alloc ?_ _)); refine blk_put (cs := #[.bool t260, .int .i64 t261, .int .i64 0, .int .u64 0]) ?_ 2 _ rfl; (with_reducible repeat (first | refine blk_drewN ?_ _ | refine blk_drew ?_ | refine blk_alloc ?_ _)); refine blk_put (cs := #[.bool t260, .int .i64 0, .int .i64 0, .int .u64 0]) ?_ 1 _ rfl; (with_reducible repeat (first | refine blk_drewN ?_ _ | refine blk_drew ?_ | refine blk_alloc ?_ _)); refine blk_put (cs := #[.bool false, .int .i64 0, .int .i64 0, .int .u64 0]) ?_ 0 _ rfl; (with_reducible repeat (first | refine blk_drewN ?_ _ | refine blk_drew ?_ | refine blk_alloc ?_ _)); exact BK258.out) Tryd.underlying28 rfl (by kernel_rfl)) rfl ?_
  exact ⟨by first | rfl | (simp [errW_none, errW_some] <;> rfl) | (simp [*, errW_none, errW_some] <;> rfl), by repeat (first | (with_reducible first | exact HB.out | apply below_alloc | apply pw_below_drewN | apply below_drew1 | refine below_set ?_ GE258.out) | exact HB.out)⟩

end Go.Proofs.YtjkcgelemidapaaDoor.Pr
