import Derived.Test.YtkoonpjlpobmeaaPr15
import Derived.Test.YtkoonpjlpobmeaaPurePolicyMays
namespace Go.Proofs.Ytkoonpjlpobmeaa.Pure
open Go.RowKit Go.Proofs.Ytkoonpjlpobmeaa.Pr Go.Proofs.YtkoonpjlpobmeaaW.PrintWords Go.Proofs.YtkoonpjlpobmeaaW.PrintLast

theorem w64 {x : Int} (h0 : -9223372036854775808 ≤ x) (h1 : x < 9223372036854775808) : wrap64 x = x := by unfold wrap64; omega
abbrev Wi (a : Int) : Prop := 0 ≤ a ∧ a ≤ 1099511627776
/-- May these Specials be? -/
abbrev MB (a b c d e f : Int) : Prop := Wi a ∧ Wi b ∧ Wi c ∧ Wi d ∧ Wi e ∧ a + b + c + d + e ≤ f ∧ f ≤ 1099511627776
theorem mstep (s : Int) (P : Prop) [Decidable P] (g : Option Bool) (h : Wi s → g = some (decide P)) : (if s < 0 then some false else if s > 1099511627776 then some false else g) = some (decide (Wi s ∧ P)) := by
  by_cases c : s < 0
  · rw [if_pos c]; congr 1; rw [eq_comm, decide_eq_false_iff_not]; exact fun z => by have := z.1.1; omega
  · rw [if_neg c]
    by_cases d : s > 1099511627776
    · rw [if_pos d]; congr 1; rw [eq_comm, decide_eq_false_iff_not]; exact fun z => by have := z.1.2; omega
    · have hs : Wi s := ⟨by omega, by omega⟩
      rw [if_neg d, h hs]; congr 1; rw [Bool.eq_iff_iff, decide_eq_true_eq, decide_eq_true_eq]
      exact ⟨fun z => ⟨hs, z⟩, fun z => z.2⟩
theorem mayBe_eq (a b c d e f : Int) : policy_mayBe.f a b c d e f = some (decide (MB a b c d e f)) := by
  unfold policy_mayBe.f policy_mayBe.m0
  refine mstep a _ _ fun ha => ?_
  unfold policy_mayBe.m1
  refine mstep b _ _ fun hb => ?_
  unfold policy_mayBe.m2
  refine mstep c _ _ fun hc => ?_
  unfold policy_mayBe.m3
  refine mstep d _ _ fun hd => ?_
  unfold policy_mayBe.m4
  refine mstep e _ _ fun he => ?_
  unfold policy_mayBe.m5
  have e1 : wrap64 (0 + a) = a := by rw [w64 (by omega) (by omega)]; omega
  have e2 : wrap64 (a + b) = a + b := w64 (by omega) (by omega)
  have e3 : wrap64 (a + b + c) = a + b + c := w64 (by omega) (by omega)
  have e4 : wrap64 (a + b + c + d) = a + b + c + d := w64 (by omega) (by omega)
  have e5 : wrap64 (a + b + c + d + e) = a + b + c + d + e := w64 (by omega) (by omega)
  rw [e1, e2, e3, e4, e5]
  by_cases h : a + b + c + d + e ≤ f
  · rw [if_pos h]; congr 1; rw [Bool.eq_iff_iff, decide_eq_true_eq, decide_eq_true_eq]
    exact ⟨fun z => ⟨h, z⟩, fun z => z.2⟩
  · rw [if_neg h]; congr 1; rw [eq_comm, decide_eq_false_iff_not]; exact fun z => h z.1
theorem within_eq (a : Int) : steelyardref06_within.f a = some (decide (Wi a)) := by
  unfold steelyardref06_within.f
  by_cases h : a ≥ 0
  · rw [if_pos h]; congr 1; rw [Bool.eq_iff_iff, decide_eq_true_eq, decide_eq_true_eq]
    exact ⟨fun z => ⟨h, z⟩, fun z => z.2⟩
  · rw [if_neg h]; congr 1; rw [eq_comm, decide_eq_false_iff_not]; exact fun z => h z.1
theorem rMayBe_eq (a b c d e f : Int) : steelyardref06_MayBe.f a b c d e f = some (decide (MB a b c d e f)) := by
  unfold steelyardref06_MayBe.f
  simp only [within_eq, Option.bind_some]
  by_cases ha : Wi a
  · by_cases hb : Wi b
    · by_cases hc : Wi c
      · by_cases hd : Wi d
        · by_cases he : Wi e
          · by_cases hf : Wi f
            · have e2 : wrap64 (a + b) = a + b := w64 (by omega) (by omega)
              have e3 : wrap64 (a + b + c) = a + b + c := w64 (by omega) (by omega)
              have e4 : wrap64 (a + b + c + d) = a + b + c + d := w64 (by omega) (by omega)
              have e5 : wrap64 (a + b + c + d + e) = a + b + c + d + e := w64 (by omega) (by omega)
              rw [e2, e3, e4, e5]
              simp only [decide_eq_true ha, decide_eq_true hb, decide_eq_true hc, decide_eq_true hd, decide_eq_true he, decide_eq_true hf, if_true]
              congr 1; rw [Bool.eq_iff_iff, decide_eq_true_eq, decide_eq_true_eq]
              exact ⟨fun z => ⟨ha, hb, hc, hd, he, z, hf.2⟩, fun z => z.2.2.2.2.2.1⟩
            · have : ¬ MB a b c d e f := fun z => hf ⟨by have := z.2.2.2.2.2.1; omega, z.2.2.2.2.2.2⟩
              simp [ha, hb, hc, hd, he, hf, this]
          · have : ¬ MB a b c d e f := fun z => he z.2.2.2.2.1
            simp [ha, hb, hc, hd, he, this]
        · have : ¬ MB a b c d e f := fun z => hd z.2.2.2.1
          simp [ha, hb, hc, hd, this]
      · have : ¬ MB a b c d e f := fun z => hc z.2.2.1
        by_cases hd : Wi d
        · by_cases he : Wi e
          · simp [ha, hb, hc, hd, he, this]
          · simp [ha, hb, hc, hd, he, this]
        · simp [ha, hb, hc, hd, this]
    · have : ¬ MB a b c d e f := fun z => hb z.2.1
      by_cases hd : Wi d
      · by_cases he : Wi e
        · simp [ha, hb, hd, he, this]
        · simp [ha, hb, hd, he, this]
      · simp [ha, hb, hd, this]
  · have : ¬ MB a b c d e f := fun z => ha z.1
    by_cases hd : Wi d
    · by_cases he : Wi e
      · simp [ha, hd, he, this]
      · simp [ha, hd, he, this]
    · simp [ha, hd, this]

/-- What is carried. -/
def vd (a b c p q : Int) : Nat × Bool := if a > 0 ∧ p = 0 then (9221120237041090560, true) else if q = 0 then (if b > 0 ∧ c > 0 then (9221120237041090560, true) else if b > 0 then (9218868437227405312, true) else if c > 0 then (18442240474082181120, true) else (0, false)) else (0, false)
theorem bV (k : Nat) (a b c d e f p q : Int) : policy_Verdict.j0 (k + 4) false a b c d e f p q = some (vd a b c p q) := by
  rw [policy_Verdict.j0, if_neg (by decide)]
  unfold vd
  by_cases h1 : b > 0 <;> by_cases h2 : c > 0 <;> by_cases h3 : a > 0 <;> by_cases h4 : p = 0 <;> by_cases h5 : q = 0 <;>
    simp [policy_Verdict.j1, policy_Verdict.j2, policy_Verdict.j3, bits_NaN.f, math_Inf.f, h1, h2, h3, h4, h5]
theorem rV (k : Nat) (a b c d e f p q : Int) : steelyardref06_Verdict.j0 (k + 4) false a b c d e f p q = some (vd a b c p q) := by
  rw [steelyardref06_Verdict.j0, if_neg (by decide)]
  have e1 : steelyardref06_Inf.f false = some 9218868437227405312 := rfl
  have e2 : steelyardref06_Inf.f true = some 18442240474082181120 := by decide +kernel
  unfold vd
  by_cases h1 : b > 0 <;> by_cases h2 : c > 0 <;> by_cases h3 : a > 0 <;> by_cases h4 : p = 0 <;> by_cases h5 : q = 0 <;>
    simp [steelyardref06_Verdict.j1, steelyardref06_Verdict.j2, steelyardref06_TheNaN.f, e1, e2, h1, h2, h3, h4, h5]
theorem Verdict_same (k : Nat) (a b c d e f p q : Int) : ∃ x : Nat × Bool, policy_Verdict.f (k + 4) a b c d e f p q = some x ∧ steelyardref06_Verdict.f (k + 4) a b c d e f p q = some x := by
  unfold policy_Verdict.f steelyardref06_Verdict.f
  rw [mayBe_eq, Option.bind_some, rMayBe_eq, Option.bind_some, rMay_eq, Option.bind_some, May_eq]
  generalize decide (MB a b c d e f) = m
  generalize decide (0 ≤ p ∧ p ≤ 2 ∧ 0 ≤ q ∧ q ≤ 2) = n
  cases m
  · exact ⟨(0, false), rfl, rfl⟩
  · cases n
    · exact ⟨(0, false), rfl, rfl⟩
    · exact ⟨vd a b c p q, bV k a b c d e f p q, rV k a b c d e f p q⟩
theorem Copysign_eq : math_Copysign.f 0 13830554455654793216 = some 9223372036854775808 := by decide +kernel
theorem Nought_same (k : Nat) (a b c d e f m : Int) (hf : -9223372036854775808 ≤ f ∧ f < 9223372036854775808) : ∃ x : Nat, policy_Nought.f a b c d e f m = some x ∧ steelyardref06_Nought.f (k + 1) a b c d e f m = some x := by
  unfold policy_Nought.f steelyardref06_Nought.f
  rw [mayBe_eq, Option.bind_some, rMayBe_eq, Option.bind_some]
  by_cases h : MB a b c d e f
  · have h' : decide (MB a b c d e f) = true := decide_eq_true h
    rw [if_pos h', if_pos h']
    obtain ⟨ha, hb, hc, hd, he, hs, hf2⟩ := h
    have e1 : wrap64 (f - a) = f - a := w64 (by omega) (by omega)
    have e2 : wrap64 (f - a - b) = f - a - b := w64 (by omega) (by omega)
    have e3 : wrap64 (f - a - b - c) = f - a - b - c := w64 (by omega) (by omega)
    rw [e1, e2, e3]
    clear e1 e2 e3
    obtain ⟨n, hn⟩ : ∃ n, n = f - a - b - c := ⟨_, rfl⟩
    rw [← hn]
    have Z0 : ∀ s, steelyardref06_Zero.f s = some (if s = true then 9223372036854775808 else 0) := by intro s; cases s <;> rfl
    by_cases c1 : n > 0
    · have n0 : (n == 0) = false := by simp; omega
      rw [n0]
      by_cases c2 : d = n
      · refine ⟨9223372036854775808, ?_, ?_⟩
        · rw [if_pos c1, if_pos c2, Copysign_eq]; rfl
        · rw [steelyardref06_Nought.j0, if_neg (by decide), if_pos c2, Z0]; rfl
      · by_cases c3 : e < n
        · have c3' : ¬ e = n := by omega
          by_cases c4 : m = 3
          · refine ⟨9223372036854775808, ?_, ?_⟩
            · rw [if_pos c1, if_neg c2, if_pos c3, if_pos c4, Copysign_eq]; rfl
            · rw [steelyardref06_Nought.j0, if_neg (by decide), if_neg c2, if_neg c3', c4, Z0]; rfl
          · refine ⟨0, ?_, ?_⟩
            · rw [if_pos c1, if_neg c2, if_pos c3, if_neg c4]
            · rw [steelyardref06_Nought.j0, if_neg (by decide), if_neg c2, if_neg c3', show (m == 3) = false by simpa using c4, Z0]; rfl
        · have c3' : e = n := by omega
          refine ⟨0, ?_, ?_⟩
          · rw [if_pos c1, if_neg c2, if_neg c3]
          · rw [steelyardref06_Nought.j0, if_neg (by decide), if_neg c2, if_pos c3', Z0]; rfl
    · have n0 : (n == 0) = true := by simp; omega
      rw [n0]
      refine ⟨0, ?_, ?_⟩
      · rw [if_neg c1]
      · rw [steelyardref06_Nought.j0, if_pos rfl, Z0]; rfl
  · have h' : ¬ decide (MB a b c d e f) = true := by rw [decide_eq_true_eq]; exact h
    rw [if_neg h', if_neg h', steelyardref06_Nought.j0, if_pos rfl]
    exact ⟨_, rfl, rfl⟩
theorem int64_range {c : Int} (h : (Lit.int .i64 c).wf = true) : -9223372036854775808 ≤ c ∧ c < 9223372036854775808 := by
  simp [Lit.wf, IntKind.min, IntKind.max, IntKind.bits, IntKind.signed] at h; omega
theorem PolicyVerdicts : steelyardlaw06_PolicyVerdicts.Pure := by
  intro a b c d e f p q m _ _ _ _ _ hf _ _ _
  refine ⟨40, ?_⟩
  obtain ⟨x, x1, x2⟩ := Verdict_same 36 a b c d e f p q
  obtain ⟨y, y1, y2⟩ := Nought_same 39 a b c d e f m (int64_range hf)
  unfold steelyardlaw06_PolicyVerdicts.f steelyardref03_Alike.f
  rw [awake40, Option.bind_some, x1, Option.bind_some, x2, Option.bind_some, y1, Option.bind_some, if_pos rfl, if_pos (by simp), Option.bind_some, if_pos (by simp), y2, Option.bind_some, Option.bind_some]
  simp

end Go.Proofs.Ytkoonpjlpobmeaa.Pure
