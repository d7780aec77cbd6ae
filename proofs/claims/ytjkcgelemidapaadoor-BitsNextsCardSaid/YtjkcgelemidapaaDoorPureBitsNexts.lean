import Derived.Test.YtjkcgelemidapaaDoorPr23
import Derived.Test.YtjkcgelemidapaaDoorPureC
namespace Go.Proofs.YtjkcgelemidapaaDoor.Pure
open Go.RowKit Go.Proofs.YtjkcgelemidapaaDoor.Pr Go.Proofs.YtjkcgelemidapaaDoorW.PrintWords Go.Proofs.YtjkcgelemidapaaDoorW.PrintLast Go.Proofs.YtjkcgelemidapaaDoorW.FL

theorem live61n : steelyardlaw01_live.f 61 = some true := by decide +kernel
theorem exact_self (a : Nat) : steelyardlaw01_exact.f a a = some true := by
  unfold steelyardlaw01_exact.f; simp
theorem BitsNexts : steelyardlaw01_BitsNexts.Pure := by
  intro a ha
  refine ⟨61, ?_⟩
  have ha := f64_wf ha
  unfold steelyardlaw01_BitsNexts.f
  rw [live61n, Option.bind_some, if_pos rfl, Next_eq ha, Option.bind_some, rNext_eq 0 ha, Option.bind_some, exact_self, Option.bind_some, if_pos rfl,
    Prev_eq ha, Option.bind_some, rPrev_eq 0 ha, Option.bind_some, exact_self, Option.bind_some, if_pos rfl,
    Ulp_eq ha, Option.bind_some, rUlp_eq 2 ha, Option.bind_some, exact_self, Option.bind_some]

end Go.Proofs.YtjkcgelemidapaaDoor.Pure
