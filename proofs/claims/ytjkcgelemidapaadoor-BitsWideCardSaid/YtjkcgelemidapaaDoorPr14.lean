-- written by this session's own program (wip/fprint.py), which widens the kit's print by floats
import Derived.Test.YtjkcgelemidapaaDoorPr0
import Derived.Test.YtjkcgelemidapaaDoorPr5
import Derived.Test.YtjkcgelemidapaaDoorPr9
import Derived.Test.YtjkcgelemidapaaDoorPr13
namespace Go.Proofs.YtjkcgelemidapaaDoor.Pr
open Go.RowKit Go.Proofs.YtjkcgelemidapaaDoorW.PrintWords Go.Proofs.YtjkcgelemidapaaDoorW.PrintLast Go.Proofs.YtjkcgelemidapaaDoorW.PrintMore
attribute [local go_sem] max2_int min2_int max_two min_two max_three min_three max_four min_four   -- for this text's walks alone
set_option linter.unusedVariables false
set_option linter.unusedSimpArgs false

/-! ### steelyardlaw01_exact: function 19 -/
def steelyardlaw01_exact.f (a0 : Nat) (a1 : Nat) : Option (Bool) := some ((a0 : Int) == (a1 : Int))
set_option maxHeartbeats 3000000 in
set_option maxRecDepth 100000 in
theorem steelyardlaw01_exact.calls (a0 : Nat) (a1 : Nat) (r : Bool) (w : World) (h : steelyardlaw01_exact.f a0 a1 = some r) :
    Calls Tryd.prog 19 #[.float .f64 a0, .float .f64 a1] w fun e w' => e = .returned (.bool r) ∧ Drawn0 w w' := by
  have H : (some ((a0 : Int) == (a1 : Int))) = some r := h
  clear h
  obtain rfl := Option.some.inj H
  go_enter Tryd.func19, Tryd.ntmps19
  go_wp2
  go_ret
  exact ⟨by first | rfl | (simp; done) | (simp [*]; done), by repeat (first | exact Drawn0.refl _ | apply Drawn0.step)⟩

/-! ### steelyardlaw01_BitsJoins: function 4 -/
def steelyardlaw01_BitsJoins.f (k : Nat) (a0_0 : Bool) (a0_1 : Int) (a0_2 : Int) (a0_3 : Int) : Option (Bool) := (steelyardlaw01_live.f k).bind fun t183 => ((bits_Join.f k a0_0 a0_1 a0_2 a0_3).bind fun bt184 => ((steelyardref01_Join.f k a0_0 a0_1 a0_2 a0_3).bind fun bt186 => (if t183 = true then (if bt184.2 = bt186.2 then ((steelyardlaw01_exact.f bt184.1 bt186.1).bind fun t188 => (some t188)) else (none)) else (none))))
theorem steelyardlaw01_BitsJoins.mono : ∀ a0 a1 a2 a3 k, LeO (steelyardlaw01_BitsJoins.f k a0 a1 a2 a3) (steelyardlaw01_BitsJoins.f (k + 1) a0 a1 a2 a3) := by
  intro a0 a1 a2 a3 k
  unfold steelyardlaw01_BitsJoins.f
  repeat' first
      | (with_reducible exact bits_Join.mono _ _ _ _ _)
      | (with_reducible exact steelyardlaw01_live.mono _)
      | (with_reducible exact steelyardref01_Join.mono _ _ _ _ _)
      | (with_reducible exact LeO.refl _)
      | (with_reducible exact LeO.none _)
      | (with_reducible refine LeO.ite ?_ ?_)
      | (with_reducible refine LeO.bind ?_ (fun _ => ?_))
      | exact bits_Join.mono _ _ _ _ _
      | exact steelyardlaw01_live.mono _
      | exact steelyardref01_Join.mono _ _ _ _ _
      | exact LeO.none _
      | refine LeO.ite ?_ ?_
      | refine LeO.bind ?_ (fun _ => ?_)
set_option maxHeartbeats 3000000 in
set_option maxRecDepth 100000 in
theorem steelyardlaw01_BitsJoins.calls (k : Nat) (a0_0 : Bool) (a0_1 : Int) (a0_2 : Int) (a0_3 : Int) (r : Bool) (w : World) (hG : GlobLaid w) (h : steelyardlaw01_BitsJoins.f k a0_0 a0_1 a0_2 a0_3 = some r) :
    Calls Tryd.prog 4 #[.agg #[.bool a0_0, .int .i64 a0_1, .int .i64 a0_2, .int .u64 a0_3]] w fun e w' => e = .returned (.bool r) ∧ Below w.heap.size w w' := by
  have hu28 := Tryd.underlying28
  have HG := Aside0.mk hG
  clear hG
  have HB := Aside0.mk (Below.refl w.heap.size w)
  have H : ((steelyardlaw01_live.f k).bind fun t183 => ((bits_Join.f k a0_0 a0_1 a0_2 a0_3).bind fun bt184 => ((steelyardref01_Join.f k a0_0 a0_1 a0_2 a0_3).bind fun bt186 => (if t183 = true then (if bt184.2 = bt186.2 then ((steelyardlaw01_exact.f bt184.1 bt186.1).bind fun t188 => (some t188)) else (none)) else (none))))) = some r := h
  clear h
  replace H := Option.bind_eq_some_iff.mp H
  obtain ⟨t183, A20, H⟩ := H
  replace H : ((bits_Join.f k a0_0 a0_1 a0_2 a0_3).bind fun bt184 => ((steelyardref01_Join.f k a0_0 a0_1 a0_2 a0_3).bind fun bt186 => (if t183 = true then (if bt184.2 = bt186.2 then ((steelyardlaw01_exact.f bt184.1 bt186.1).bind fun t188 => (some t188)) else (none)) else (none)))) = some r := H
  have A2 := Aside0.mk A20
  clear A20
  replace H := Option.bind_eq_some_iff.mp H
  obtain ⟨⟨t184, t185⟩, A30, H⟩ := H
  replace H : ((steelyardref01_Join.f k a0_0 a0_1 a0_2 a0_3).bind fun bt186 => (if t183 = true then (if t185 = bt186.2 then ((steelyardlaw01_exact.f t184 bt186.1).bind fun t188 => (some t188)) else (none)) else (none))) = some r := H
  have A3 := Aside0.mk A30
  clear A30
  replace H := Option.bind_eq_some_iff.mp H
  obtain ⟨⟨t186, t187⟩, A40, H⟩ := H
  replace H : (if t183 = true then (if t185 = t187 then ((steelyardlaw01_exact.f t184 t186).bind fun t188 => (some t188)) else (none)) else (none)) = some r := H
  have A4 := Aside0.mk A40
  clear A40
  by_cases c5 : t183 = true
  · subst c5
    have H1 : (if t185 = t187 then ((steelyardlaw01_exact.f t184 t186).bind fun t188 => (some t188)) else (none)) = some r := by rw [if_pos rfl] at H; exact H
    clear H
    have H := H1
    clear H1
    by_cases c6 : t185 = t187
    · rw [if_pos c6] at H
      have c6b0 : (t185 == t187) = true := beq_iff_eq.mpr c6
      have c6b1 : (t185 != t187) = false := bne_eq_false_iff_eq.mpr c6
      clear c6
      replace H := Option.bind_eq_some_iff.mp H
      obtain ⟨t188, A70, H⟩ := H
      replace H : (some t188) = some r := H
      have A7 := Aside0.mk A70
      clear A70
      obtain rfl := Option.some.inj H
      go_enter Tryd.func4, Tryd.ntmps4
      go_wp2_with (first | ((with_reducible refine gate_dst (N := 1) rfl ?_); refine box_event ?hg (N := 1) ?hd (cs := #[.bool a0_0, .int .i64 a0_1, .int .i64 a0_2, .int .u64 a0_3]) (t := 28) ?hr ?_; (case hd => rfl); (case hg => rfl); (case hr => first | (go_simp; done) | (go_simp; rfl)); intro gb182 hg w8 hbox hb; have n0_ := bs_ HB hb; have n1_ := Aside0.mk (hbox); have n2_ := ge_ HB hg; have n3_ := ge_ HB hg; clear HB; have HB := n0_; have BK182 := n1_; have GW182 := n2_; have GE182 := n3_; clear n0_ n1_ n2_ n3_; clear hb hbox hg) | ((with_reducible refine gate_callee (f := 14) rfl ?_); refine goesL_ (some 8) rfl rfl Tryd.func14 (by kernel_rfl) rfl #[] rfl (by (try simp only [List.map_toArray, List.map_cons, List.map_nil]); first | done | rfl | (simp only [List.length_drop, List.length_take]; rfl)) ?_; (with_reducible refine (steelyardlaw01_live.calls k  true _ ?side1 A2.out).mono ?_); (case side1 => exact GlobLaid.below HG.out (bl_ HB)); rintro e w9 ⟨rfl, hb⟩; refine ⟨_, rfl, ?_⟩; have n0_ := kb_ BK182 hb; have n1_ := bs_ HB hb; clear BK182; clear HB; have BK182 := n0_; have HB := n1_; clear n0_ n1_; (try clear hb); (try clear hb2); (try clear hk); (try clear hi); have hcz10_0 : w9.cell? ⟨gb182, 0, none⟩ = some (.bool a0_0) := (blk_cell BK182.out 0).trans rfl; have hcz10_1 : w9.cell? ⟨gb182, 1, none⟩ = some (.int .i64 a0_1) := (blk_cell BK182.out 1).trans rfl; have hcz10_2 : w9.cell? ⟨gb182, 2, none⟩ = some (.int .i64 a0_2) := (blk_cell BK182.out 2).trans rfl; have hcz10_3 : w9.cell? ⟨gb182, 3, none⟩ = some (.int .u64 a0_3) := (blk_cell BK182.out 3).trans rfl; have hfz10_0 := blk_frozen BK182.out 0; have hfz10_1 := blk_frozen BK182.out 1; have hfz10_2 := blk_frozen BK182.out 2; have hfz10_3 := blk_frozen BK182.out 3) | ((with_reducible refine gate_callee (f := 17) rfl ?_); refine goesL_ (some 11) rfl rfl Tryd.func17 (by kernel_rfl) rfl #[.agg #[.bool a0_0, .int .i64 a0_1, .int .i64 a0_2, .int .u64 a0_3]] rfl (by (try simp only [List.map_toArray, List.map_cons, List.map_nil]); first | done | rfl | (simp only [List.length_drop, List.length_take]; rfl)) ?_; (with_reducible refine (bits_Join.calls k a0_0 a0_1 a0_2 a0_3 t184 t185 _ A3.out).mono ?_); rintro e w11 ⟨rfl, hb⟩; refine ⟨_, rfl, ?_⟩; have n0_ := kb_ BK182 hb; have n1_ := bs_ HB hb; clear BK182; clear HB; have BK182 := n0_; have HB := n1_; clear n0_ n1_; (try clear hb); (try clear hb2); (try clear hk); (try clear hi); have hcz12_0 : w11.cell? ⟨gb182, 0, none⟩ = some (.bool a0_0) := (blk_cell BK182.out 0).trans rfl; have hcz12_1 : w11.cell? ⟨gb182, 1, none⟩ = some (.int .i64 a0_1) := (blk_cell BK182.out 1).trans rfl; have hcz12_2 : w11.cell? ⟨gb182, 2, none⟩ = some (.int .i64 a0_2) := (blk_cell BK182.out 2).trans rfl; have hcz12_3 : w11.cell? ⟨gb182, 3, none⟩ = some (.int .u64 a0_3) := (blk_cell BK182.out 3).trans rfl; have hfz12_0 := blk_frozen BK182.out 0; have hfz12_1 := blk_frozen BK182.out 1; have hfz12_2 := blk_frozen BK182.out 2; have hfz12_3 := blk_frozen BK182.out 3) | ((with_reducible refine gate_callee (f := 18) rfl ?_); refine goesL_ (some 16) rfl rfl Tryd.func18 (by kernel_rfl) rfl #[.agg #[.bool a0_0, .int .i64 a0_1, .int .i64 a0_2, .int .u64 a0_3]] rfl (by (try simp only [List.map_toArray, List.map_cons, List.map_nil]); first | done | rfl | (simp only [List.length_drop, List.length_take]; rfl)) ?_; (with_reducible refine (steelyardref01_Join.calls k a0_0 a0_1 a0_2 a0_3 t186 t187 _ A4.out).mono ?_); rintro e w13 ⟨rfl, hb⟩; refine ⟨_, rfl, ?_⟩; have n0_ := kb_ BK182 hb; have n1_ := bs_ HB hb; clear BK182; clear HB; have BK182 := n0_; have HB := n1_; clear n0_ n1_; (try clear hb); (try clear hb2); (try clear hk); (try clear hi)) | (go_at_call 19; (with_reducible refine (steelyardlaw01_exact.calls t184 t186 t188 _ A7.out).mono ?_); rintro e w' ⟨rfl, ⟨nd, rfl⟩⟩))
      go_ret
      exact ⟨by first | rfl | (simp [errW_none, errW_some] <;> rfl) | (simp [*, errW_none, errW_some] <;> rfl), by repeat (first | (with_reducible first | exact HB.out | apply below_alloc | apply pw_below_drewN | apply below_drew1 | refine below_set ?_ GE182.out) | exact HB.out)⟩
    · rw [if_neg c6] at H
      exact absurd H (by simp)
  · replace c5 := Bool.eq_false_iff.mpr c5
    subst c5
    have H1 : (none) = some r := by rw [if_neg (show ¬ (false = true) by decide)] at H; exact H
    clear H
    have H := H1
    clear H1
    exact absurd H (by simp)

/-- THE ONE PURE STATEMENT of steelyardlaw01_BitsJoins: yours. -/
def steelyardlaw01_BitsJoins.Pure : Prop := ∀ (a0_0 : Bool) (a0_1 : Int) (a0_2 : Int) (a0_3 : Int), (Lit.int .i64 a0_1).wf = true → (Lit.int .i64 a0_2).wf = true → (Lit.int .u64 a0_3).wf = true → ∃ k, steelyardlaw01_BitsJoins.f k a0_0 a0_1 a0_2 a0_3 = some true

end Go.Proofs.YtjkcgelemidapaaDoor.Pr
