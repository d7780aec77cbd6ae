import Derived.Test.YtjkcgelemidapaaDoorPr14
import Derived.Test.YtjkcgelemidapaaDoorPureB
namespace Go.Proofs.YtjkcgelemidapaaDoor.Pure
open Go.RowKit Go.Proofs.YtjkcgelemidapaaDoor.Pr Go.Proofs.YtjkcgelemidapaaDoorW.PrintWords Go.Proofs.YtjkcgelemidapaaDoorW.PrintLast Go.Proofs.YtjkcgelemidapaaDoorW.FL

theorem live62 : steelyardlaw01_live.f 62 = some true := by decide +kernel
theorem BitsJoins : steelyardlaw01_BitsJoins.Pure := by
  intro s c e n hc he hn
  refine ⟨62, ?_⟩
  have hn := uint64_range hn
  obtain ⟨b, hb, e1⟩ := bJoin_eq 58 s (c := c) (e := e) hn.1 hn.2
  obtain ⟨r, hr, e2⟩ := rJoin_eq 0 s (c := c) (e := e) hn.1
  unfold steelyardlaw01_BitsJoins.f
  rw [live62, Option.bind_some, e1, Option.bind_some, e2, Option.bind_some, if_pos rfl, jn_unique hb hr, if_pos rfl]
  unfold steelyardlaw01_exact.f
  rw [Option.bind_some]
  simp

end Go.Proofs.YtjkcgelemidapaaDoor.Pure
