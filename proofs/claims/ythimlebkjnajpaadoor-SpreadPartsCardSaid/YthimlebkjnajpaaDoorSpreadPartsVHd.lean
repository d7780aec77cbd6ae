import Derived.Test.YthimlebkjnajpaaDoorSpreadPartsVFloat
import Derived.Test.YthimlebkjnajpaaDoorSpreadPartsVCopy
import Derived.Test.YthimlebkjnajpaaDoorSpreadPartsVFn
/- Words for Dyads in boxes. -/
namespace Go.Proofs.YthimlebkjnajpaaDoorW.Hd
open Go Go.RowKit Go.Proofs.YthimlebkjnajpaaDoorW.PrintWords Go.Proofs.YthimlebkjnajpaaDoorW.PrintLast Go.Proofs.YthimlebkjnajpaaDoorW.PrintMore
set_option linter.unusedVariables false
set_option linter.unusedSimpArgs false
abbrev U32:Kd Int:=Kd.int .u32
theorem D_apart {w:World} {A:Option Addr} {g:Nat} {xs:List Int} {B0:Option Addr} {m0 d0:Nat} {s:Bool} {n:Int} (h:U32.C w A xs.length xs) (hg:w.heap[g]? = some (.cells #[.bool s,.slice B0 m0 d0,.int .i64 n] 30 (0,0))) :
  ∀ ad,A=some ad→0<xs.length→ad.block≠g:=by
 intro ad he hl hb
 obtain ⟨ad',e,hc⟩:=Kd.at_int h 0 (by decide) (by omega)
 subst he
 cases e
 have e0:ad.add (Int.toNat 0)=ad:=rfl
 rw [e0] at hc
 unfold World.cell? at hc
 rw [hb,hg] at hc
 dsimp only at hc
 split at hc
 ·cases hc
 ·generalize ad.off=z at hc
  rcases z with _ | _ | _ | o
  ·simp at hc
  ·simp at hc
  ·simp at hc
  ·simp at hc
theorem below_grown {W w1:World} {g B:Nat} (h:W.grownBy w1 (some g)) (hB:B≤g) (hs:B≤W.heap.size):Below B W w1 :=
 ⟨h.os,h.tape,h.output,h.size,fun k hk=>h.block k (by omega) (by intro he;injection he;omega)⟩
theorem C_far {w w1:World} {g2:Nat} {A:Option Addr} {xs:List Int} {B0:Option Addr} {m0 d0:Nat} {s:Bool} {n:Int} (h:U32.C w A xs.length xs) (hg2:w.heap[g2]? = some (.cells #[.bool s,.slice B0 m0 d0,.int .i64 n] 30 (0,0))) (hk:w.grownBy w1 (some g2)):U32.C w1 A xs.length xs :=
 Kd.C_keep 0 h ⟨hk.size,fun i hi hg hr=>hk.block i hi (by intro he;injection he with he;exact hg he)⟩ (D_apart h hg2)
abbrev set3 (w:World) (g:Nat) (u0 u1 u2:Value):World:=((w.setCell ⟨g,0,none⟩ u0).setCell ⟨g,1,none⟩ u1).setCell ⟨g,2,none⟩ u2
theorem put3 {w:World} {g:Nat} {a0 a1 a2:Value} (h:w.heap[g]? = some (.cells #[a0,a1,a2] 30 (0,0))) (u0 u1 u2:Value) :
  (set3 w g u0 u1 u2).heap[g]? = some (.cells #[u0,u1,u2] 30 (0,0))∧w.grownBy (set3 w g u0 u1 u2) (some g):=by
 refine ⟨?_,?_⟩
 ·refine blk_put (cs := #[u0,u1,a2]) ?_ 2 _ rfl
  refine blk_put (cs := #[u0,a1,a2]) ?_ 1 _ rfl
  exact blk_put h 0 _ rfl
 ·have e:set3 w g u0 u1 u2=w.setCells g 0 [u0,u1,u2]:=rfl
  rw [e]
  obtain ⟨s1,s2,s3,s4⟩:=setCells_same g [u0,u1,u2] 0 w
  exact ⟨s1,s2,s3,by rw [s4];exact Nat.le_refl _,fun k _ hk=>setCells_far [u0,u1,u2] _ k (fun he=>hk (by rw [he]))⟩
theorem alloc_new (w:World) (o:Obj):(w.alloc o).heap[w.heap.size]? = some o:=by
 have e:(w.alloc o).heap=w.heap.push o:=rfl
 rw [e];simp
theorem cc_ {w0 W:World} {α:Type} {d:Kd α} {A:Option Addr} {n:Nat} {xs:List α} (h0:Aside0 (d.C w0 A n xs)) (h:d.C W A n xs:=by (with_reducible repeat (first | apply Kd.C_alloc | apply Kd.C_drewN | apply Kd.C_drew));exact Aside0.out (by assumption)):d.C W A n xs:=h
theorem cm_ {w0 W w1:World} {α:Type} {d:Kd α} {A:Option Addr} {n:Nat} {xs:List α} (h0:Aside0 (d.C w0 A n xs)) (hb:Below W.heap.size W w1) (h:d.C W A n xs:=by (with_reducible repeat (first | apply Kd.C_alloc | apply Kd.C_drewN | apply Kd.C_drew));exact Aside0.out (by assumption)):Aside0 (d.C w1 A n xs):=⟨Kd.C_below h hb⟩
theorem alloc_size (w:World) (o:Obj):(w.alloc o).heap.size=w.heap.size+1:=by
 have e:(w.alloc o).heap=w.heap.push o:=rfl
 rw [e];simp
abbrev z30:Obj := .cells #[Value.bool false,Value.slice none 0 0,Value.int .i64 0] 30 (0,0)
abbrev d30 (s:Bool) (A:Option Addr) (n c:Nat) (m:Int):Obj := .cells #[Value.bool s,Value.slice A n c,Value.int .i64 m] 30 (0,0)
theorem r3_ {w w1:World} {oa ob oz:Obj} (hb:Below (((w.alloc oa).alloc ob).alloc oz).heap.size (((w.alloc oa).alloc ob).alloc oz) w1):Aside0 (w1.heap[w.heap.size+1+1]? = some oz):=by
 have h0:=alloc_new ((w.alloc oa).alloc ob) oz
 rw [alloc_size,alloc_size] at h0
 exact ⟨(hb.block _ (blk_lt h0)).trans h0⟩
theorem xy2_ (w1:World) (ox oy:Obj):∃ W2 gx gy,(w1.alloc ox).alloc oy=W2∧w1.heap.size+1=gy∧w1.heap.size=gx∧Aside0 (W2.heap[gx]? = some ox)∧Aside0 (W2.heap[gy]? = some oy)∧Aside0 (Below w1.heap.size w1 W2)∧Aside0 (gx≠gy∧gy≠gx∧w1.heap.size≤gx∧w1.heap.size≤gy):=by
 refine ⟨_,_,_,rfl,rfl,rfl,⟨blk_alloc (alloc_new _ _) _⟩,⟨?_⟩,⟨below_alloc (below_alloc (Below.refl _ _) _) _⟩,⟨by omega,by omega,by omega,by omega⟩⟩
 have h0:=alloc_new (w1.alloc ox) oy
 rwa [alloc_size] at h0
theorem nilq (W:World) (b:Nat):Kd.Q U32 68 W b (fun _=>True) (.slice none ([]:List Int).length 0) []:=Kd.Q_of_R (Kd.R_nil U32 68 W b (fun _=>True))
theorem qd_ {α:Type} {d:Kd α} {e:Nat} {w0 W:World} {base:Nat} {ok:Nat→Prop} {v:Value} {xs:List α} (h0:Aside0 (d.Q e w0 base ok v xs)) (h:d.Q e W base ok v xs:=by (with_reducible repeat (first | apply Kd.Q_alloc | apply Kd.Q_drewN | apply Kd.Q_drew));exact Aside0.out (by assumption)):d.Q e W base ok v xs:=h
theorem fin_ {w W:World} {gR base:Nat} {ok:Nat→Prop} {r1:Bool} {A:Option Addr} {c:Nat} {r2:List Int} {r3:Int} (HB:Below w.heap.size w W) (hR:W.heap[gR]? = some z30) (hle:w.heap.size≤gR) (hq:Kd.Q U32 68 W base ok (.slice A r2.length c) r2) (hb:w.heap.size≤base) :
  Aside0 ((set3 W gR (.bool r1) (.slice A r2.length c) (.int .i64 r3)).heap[gR]? = some (d30 r1 A r2.length c r3))∧Aside0 (Kd.Q U32 68 (set3 W gR (.bool r1) (.slice A r2.length c) (.int .i64 r3)) w.heap.size (fun _=>True) (.slice A r2.length c) r2)∧Aside0 (Below w.heap.size w (set3 W gR (.bool r1) (.slice A r2.length c) (.int .i64 r3))):=by
 obtain ⟨hy,hb3⟩:=put3 hR (.bool r1) (.slice A r2.length c) (.int .i64 r3)
 exact ⟨⟨hy⟩,⟨Kd.Q_lower (Kd.Q_mono (Kd.Q_grown (Kd.Q_types hq hR (by decide)) hb3 (fun k hk e=>hk.2 (Option.some.inj e))) (fun _ _=>trivial)) hb⟩,⟨HB.trans (below_grown hb3 hle HB.size)⟩⟩
theorem boxes3_ (w:World) (oa ob oz:Obj):∃ W0 gA gB gR,((w.alloc oa).alloc ob).alloc oz=W0∧w.heap.size+1+1=gR∧w.heap.size+1=gB∧w.heap.size=gA∧Aside0 (W0.heap[gA]? = some oa)∧Aside0 (W0.heap[gB]? = some ob)∧Aside0 (W0.heap[gR]? = some oz)∧Aside0 (Below w.heap.size w W0)∧Aside0 (w.heap.size≤gR):=by
 refine ⟨_,_,_,_,rfl,rfl,rfl,rfl,⟨blk_alloc (blk_alloc (alloc_new _ _) _) _⟩,⟨?_⟩,⟨?_⟩,⟨below_alloc (below_alloc (below_alloc (Below.refl _ _) _) _) _⟩,⟨by omega⟩⟩
 ·have h0:=alloc_new (w.alloc oa) ob
  rw [alloc_size] at h0
  exact blk_alloc h0 _
 ·have h0:=alloc_new ((w.alloc oa).alloc ob) oz
  rwa [alloc_size,alloc_size] at h0
theorem box1_ (w1:World) (o:Obj):∃ W g,w1.alloc o=W∧w1.heap.size=g∧Aside0 (W.heap[g]? = some o)∧Aside0 (Below w1.heap.size w1 W)∧Aside0 (w1.heap.size≤g):=⟨_,_,rfl,rfl,⟨alloc_new _ _⟩,⟨below_alloc (Below.refl _ _) _⟩,⟨Nat.le_refl _⟩⟩
theorem nilR (W:World) (b:Nat):Kd.R U32 68 W b (fun _=>True) (.slice none ([]:List Int).length 0) []:=Kd.R_nil U32 68 W b (fun _=>True)
theorem finR_ {w W:World} {gR base:Nat} {ok:Nat→Prop} {r1:Bool} {A:Option Addr} {c:Nat} {r2:List Int} {r3:Int} (HB:Below w.heap.size w W) (hR:W.heap[gR]? = some z30) (hle:w.heap.size≤gR) (hq:Kd.R U32 68 W base ok (.slice A r2.length c) r2) (hb:w.heap.size≤base) :
  Aside0 ((set3 W gR (.bool r1) (.slice A r2.length c) (.int .i64 r3)).heap[gR]? = some (d30 r1 A r2.length c r3))∧Aside0 (Kd.R U32 68 (set3 W gR (.bool r1) (.slice A r2.length c) (.int .i64 r3)) w.heap.size (fun _=>True) (.slice A r2.length c) r2)∧Aside0 (Below w.heap.size w (set3 W gR (.bool r1) (.slice A r2.length c) (.int .i64 r3))):=by
 obtain ⟨hy,hb3⟩:=put3 hR (.bool r1) (.slice A r2.length c) (.int .i64 r3)
 exact ⟨⟨hy⟩,⟨Kd.R_lower (Kd.R_mono (Kd.R_grown (Kd.R_types hq hR (by decide)) hb3 (fun k hk e=>hk.2 (Option.some.inj e))) (fun _ _=>trivial)) hb⟩,⟨HB.trans (below_grown hb3 hle HB.size)⟩⟩
end Go.Proofs.YthimlebkjnajpaaDoorW.Hd
