import Derived.Test.YtjkcgelemidapaaDoorPr18
import Derived.Test.YtjkcgelemidapaaDoorPureA
namespace Go.Proofs.YtjkcgelemidapaaDoor.Pure
open Go.RowKit Go.Proofs.YtjkcgelemidapaaDoor.Pr Go.Proofs.YtjkcgelemidapaaDoorW.PrintWords Go.Proofs.YtjkcgelemidapaaDoorW.PrintLast Go.Proofs.YtjkcgelemidapaaDoorW.FL

theorem live40s : steelyardlaw01_live.f 40 = some true := by decide +kernel
theorem bSame {a b : Nat} : bits_Same.f a b = some (canon a == canon b) := by
  unfold bits_Same.f canon
  by_cases e : (a : Int) = b
  · have e' : a = b := by omega
    subst e'
    rw [if_pos rfl]; simp
  · rw [if_neg e]
    by_cases n : 9218868437227405312 < a % 9223372036854775808
    · rw [if_pos ((D_nan_iff a).2 n), if_pos n]
      by_cases m : 9218868437227405312 < b % 9223372036854775808
      · rw [if_pos m, (D_nan_iff b).2 m]; rfl
      · rw [if_neg m]
        have h1 : (FloatKind.f64.format.order b b != some .eq) = false := by
          rw [← Bool.not_eq_true]; exact fun z => m ((D_nan_iff b).1 z)
        rw [h1, eq_comm]; congr 1
        rw [beq_eq_false_iff_ne]; omega
    · rw [if_neg (fun z => n ((D_nan_iff a).1 z)), if_neg n, eq_comm]; congr 1
      rw [beq_eq_false_iff_ne]
      split <;> omega
theorem rSame {a b : Nat} : steelyardref01_Same.f a b = some (canon a == canon b) := by
  unfold steelyardref01_Same.f
  rw [Bits_eq, Option.bind_some, Bits_eq, Option.bind_some]
  congr 1
  rw [Bool.eq_iff_iff, beq_iff_eq, beq_iff_eq]; omega
theorem bClass {a : Nat} (k : Nat) (h : a < 18446744073709551616) : bits_Class.f (k + 1) a = some (PL a).2.1 := by
  unfold bits_Class.f; rw [Split_eq k h, Option.bind_some]
theorem rClass {a : Nat} (h : a < 18446744073709551616) : steelyardref01_Class.f a = some (PL a).2.1 := by
  unfold steelyardref01_Class.f; rw [rSplit_eq h, Option.bind_some]
theorem beq4 (p : Bool × Int × Int × Int) : (p.1 == p.1 && (p.2.1 == p.2.1 && (p.2.2.1 == p.2.2.1 && (p.2.2.2 == p.2.2.2)))) = true := by simp
theorem BitsSplits : steelyardlaw01_BitsSplits.Pure := by
  intro a b ha hb
  refine ⟨40, ?_⟩
  unfold steelyardlaw01_BitsSplits.f
  have ha := f64_wf ha
  have hb := f64_wf hb
  rw [live40s, Option.bind_some, if_pos rfl, Split_eq 39 ha, Option.bind_some, rSplit_eq ha, Option.bind_some, if_pos (beq4 _), Split_eq 39 hb, Option.bind_some, rSplit_eq hb, Option.bind_some, if_pos (beq4 _), bClass 39 ha, Option.bind_some, rClass ha, Option.bind_some, if_pos rfl, bSame, Option.bind_some, rSame, Option.bind_some, if_pos (by simp), bSame, Option.bind_some]
  simp

end Go.Proofs.YtjkcgelemidapaaDoor.Pure
