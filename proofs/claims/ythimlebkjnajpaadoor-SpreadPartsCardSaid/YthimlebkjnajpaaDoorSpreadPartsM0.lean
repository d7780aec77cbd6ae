import Derived.Test.YthimlebkjnajpaaDoorProg
import Derived.Below
import Derived.Deep.Draws
import Derived.Deep.AppendLies
import Derived.Maps.AppendAt
import Derived.OwnWalk
import Derived.Laws.BytesArg
import Derived.Laws.MakeOwn
import Derived.Laws.OwnMore
import Derived.Deep.OwnRows
import Derived.Tactics
import Derived.Lib.ConvBytes
import Derived.Laws.Slices
import Derived.WalkKit
import Derived.KernelRfl
import Derived.RowKit3
import Derived.Deep.LoopGhost
import Derived.Deep.QuietTactic
import Derived.BigQuiet
import Derived.WideLaws
import Derived.Deep.DeepCutAuto
import Derived.Deep.CutBlock
import Derived.Deep.RegionHeld3
import Derived.Laws.Rows
import Derived.Lib.AppendStr
import Derived.ArgAppend
import Derived.Laws.IdiomCopy
import Derived.OrdersHeld
import Derived.Laws.BitsLemmas
import Derived.RowKit
import Derived.Lib.TrailingZeros
import Derived.Test.YthimlebkjnajpaaDoorSpreadPartsVWords
import Derived.Test.YthimlebkjnajpaaDoorSpreadPartsVLast
import Derived.Test.YthimlebkjnajpaaDoorSpreadPartsVTab
import Derived.Test.YthimlebkjnajpaaDoorSpreadPartsVFour
import Derived.Test.YthimlebkjnajpaaDoorSpreadPartsVQPut
import Derived.Test.YthimlebkjnajpaaDoorSpreadPartsVApart
import Derived.Test.YthimlebkjnajpaaDoorSpreadPartsVArr
import Derived.Test.YthimlebkjnajpaaDoorSpreadPartsVZeros
import Derived.Test.YthimlebkjnajpaaDoorSpreadPartsVFoot
import Derived.Test.YthimlebkjnajpaaDoorSpreadPartsVKept
import Derived.Test.YthimlebkjnajpaaDoorSpreadPartsVShare
import Derived.Test.YthimlebkjnajpaaDoorSpreadPartsVN
import Derived.Test.YthimlebkjnajpaaDoorSpreadPartsVFootNe
import Derived.Test.YthimlebkjnajpaaDoorSpreadPartsVAt
import Derived.Test.YthimlebkjnajpaaDoorSpreadPartsVEqStruct
import Derived.Test.YthimlebkjnajpaaDoorSpreadPartsVRepsOne
import Derived.Test.YthimlebkjnajpaaDoorSpreadPartsVInv
import Derived.Test.YthimlebkjnajpaaDoorSpreadPartsVInvWords
import Derived.Test.YthimlebkjnajpaaDoorSpreadPartsVGuard
import Derived.Test.YthimlebkjnajpaaDoorSpreadPartsVNEv
import Derived.Test.YthimlebkjnajpaaDoorSpreadPartsVMore
import Derived.Test.YthimlebkjnajpaaDoorSpreadPartsVFloat
import Derived.Test.YthimlebkjnajpaaDoorSpreadPartsVCopy
import Derived.Test.YthimlebkjnajpaaDoorSpreadPartsVFn
namespace Go.Proofs.YthimlebkjnajpaaDoorW.PrintWords
open Go Go.RowKit Go.Proofs.YthimlebkjnajpaaDoorW.PrintLast Go.Proofs.YthimlebkjnajpaaDoorW.PrintMore
set_option linter.unusedVariables false
theorem od_ {p : Prop} [Decidable p] (h : decide p = true := by first | (with_reducible assumption) | assumption) : p := of_decide_eq_true h
theorem vv_ {α : Type} {d : Kd α} {e : Nat} {w0 W : World} {base : Nat} {ok : Nat → Prop} {v : Value} {xs : List α} (h0 : Aside0 (Kd.V d e w0 base ok v xs)) (h : Kd.V d e W base ok v xs := by (with_reducible repeat (first | apply Kd.V_alloc | apply Kd.V_drewN | apply Kd.V_drew)); exact Aside0.out (by assumption)) : Kd.V d e W base ok v xs := h
theorem qq_ {α : Type} {d : Kd α} {e : Nat} {w0 W : World} {base : Nat} {ok : Nat → Prop} {v : Value} {xs : List α} (h0 : Aside0 (Kd.Q d e w0 base ok v xs)) (h : Kd.Q d e W base ok v xs := by (with_reducible repeat (first | apply Kd.Q_alloc | apply Kd.Q_drewN | apply Kd.Q_drew)); exact Aside0.out (by assumption)) : Kd.Q d e W base ok v xs := h
theorem rb_ {α : Type} {a b : α} (h : a = b := by first | rfl | (simp; done) | (simp [*]; done)) : a = b := h
theorem om_ {a b : Nat} (h : a ≤ b := by first | omega | exact Nat.le_refl _) : a ≤ b := h
theorem dr_ {w w1 : World} (h : Drawn0 w w1 := by repeat (first | exact Drawn0.refl _ | apply Drawn0.step)) : Drawn0 w w1 := h
theorem bc3 {w : World} {g : Nat} {cs : Array Value} {a b c : Value} {t : TypeId} (h : Aside0 (w.heap[g]? = some (.cells cs t (0, 0)))) (ha : cs[0]? = some a := by rfl) (hb : cs[1]? = some b := by rfl) (hc : cs[2]? = some c := by rfl) : w.cell? ⟨g, 0, none⟩ = some a ∧ w.cell? ⟨g, 1, none⟩ = some b ∧ w.cell? ⟨g, 2, none⟩ = some c := ⟨bc_ h 0 ha, bc_ h 1 hb, bc_ h 2 hc⟩
theorem bz3 {w : World} {g : Nat} {cs : Array Value} {t : TypeId} (h : Aside0 (w.heap[g]? = some (.cells cs t (0, 0)))) : w.frozen? ⟨g, 0, none⟩ = false ∧ w.frozen? ⟨g, 1, none⟩ = false ∧ w.frozen? ⟨g, 2, none⟩ = false := ⟨bz_ h 0, bz_ h 1, bz_ h 2⟩
theorem gs_ {w : World} {g i : Nat} {v : Value} {x : Option Obj} (h : (w.setCell ⟨g, i, none⟩ v).heap[g]? = x) : (w.setCell ⟨g, i, none⟩ v).heap[g]? = x := h
theorem bf_ {w : World} {g : Nat} {t : TypeId} {cs : Array Value} {p : Addr} {u : Value} (hp : Aside0 (g ≠ p.block)) (h : w.heap[g]? = some (.cells cs t (0, 0))) : (w.setCell p u).heap[g]? = some (.cells cs t (0, 0)) := blk_far h hp.out u
theorem bq_ {w0 W : World} {g : Nat} {t : TypeId} {cs0 cs : Array Value} (h0 : Aside0 (w0.heap[g]? = some (.cells cs0 t (0, 0)))) (h : W.heap[g]? = some (.cells cs t (0, 0)) := by (repeat (first | (with_reducible first | exact Aside0.out (by assumption) | apply bN | apply bD | apply bA | (apply bf_; assumption)) | (with_reducible refine gs_ ?_; apply blk_put) | rfl))) : W.heap[g]? = some (.cells cs t (0, 0)) := h
theorem cs_ {α : Type} {d : Kd α} {w0 W : World} {A : Option Addr} {n : Nat} {xs : List α} (h0 : d.C w0 A n xs) (hb : Below w0.heap.size w0 W := by repeat (first | exact Below.refl _ _ | apply below_alloc | apply pw_below_drewN | apply below_drew1)) : d.C W A n xs := Kd.C_below h0 hb
theorem a_ {p : Prop} (h : p) : Aside0 p := Aside0.mk h
theorem ab_ {p q : Prop} (h : p) (n : ¬p := by simp) : q := absurd h n
theorem t1_ {p q : Prop} (h : p) (e : p = q := by with_reducible rfl) : q := e ▸ h
theorem t2_ {α β : Type} {x : α} {f : α → Option β} {r : Option β} {q : Prop} (h : (some x).bind f = r) (e : (f x = r) = q := by with_reducible rfl) : q := e ▸ h
theorem dd_ {p : Prop} (h : p := by first|exact ⟨rfl,_,World.drewN_drewN _ _ _⟩|exact ⟨rfl,_,Eq.trans (World.drewN_drewN _ _ _) (congrArg (World.drewN _) (Nat.add_assoc _ _ _))⟩) : p := h
section
variable {P : Program} {ops : Array Oper} {Q : Exit → Act → World → Prop} {md : Region.Mode} {S : World → Prop} {ds : List Nat}
theorem pv_ {T : Bool × List (List Nat × List Nat)} (i : Nat) (N : Tmp) {oi : Oper} {v : Value} {fuel : Nat} {l : Array Bool} {a : Act} {w : World} (HT : Aside0 (rtab md ops = T)) (hi : ops[i]? = some oi) (hN : oi.dst = some N) (hy : Yields P ops oi v a) {a' : Act} (ha : a.put (some N) v = a') (h : wpAnyLast P md ops Q S ds fuel (l.setIfInBounds i true) a' w) (hc : anyT T l.toList (l.setIfInBounds i true).toList i = true := by kernel_rfl) (hQ : ∀ c a w, Q (.panic c) (a.put oi.dst v) w → Q (.panic c) a w := by exact fun _ _ _ h => h) : wpAnyLast P md ops Q S ds (fuel+1) l a w := pure_ _ hi hN (any_of HT.out hc) hQ hy ha h
theorem tv_ {T : Bool × List (List Nat × List Nat)} {B : List Nat} (i : Nat) (N : Tmp) {oi : Oper} {v : Value} {fuel : Nat} {l : Array Bool} {a : Act} {w : World} (HT : Aside0 (rtab md ops = T)) (HW : Aside0 (waitsOk T.2 B = true)) (hi : ops[i]? = some oi) (hN : oi.dst = some N) (hy : YieldsIf P ops S oi v a) (hS : S w) {a' : Act} (ha : a.put (some N) v = a') (h : wpAnyLast P md ops Q S ds fuel (l.setIfInBounds i true) a' w) (hc : takeW T B ds l.toList (l.setIfInBounds i true).toList i = true := by kernel_rfl) (hQ : ∀ c a w, Q (.panic c) (a.put oi.dst v) w → Q (.panic c) a w := by exact fun _ _ _ h => h) : wpAnyLast P md ops Q S ds (fuel+1) l a w := take_ _ hi hN (take_ofW HT.out HW.out hc) hQ hy hS ha h
theorem g_ {rest : List Oper} {o : Oper} {a : Act} {w : World} (h : wpList P ops Q (o :: rest) a w) : wpList P ops Q (o :: rest) a w := h
theorem be_ {w0 w1 W : World} {o : Oper} {a : Act} {rest : List Oper} {N : Tmp} {cs : Array Value} {t : TypeId} (HB : Aside0 (Below w0.heap.size w0 w1))
  (h : ∀ g, g = W.heap.size → ∀ w2, Below W.heap.size W w2 → Aside0 (w2.heap[g]? = some (.cells cs t (0, 0))) → Aside0 (w0.heap.size ≤ g) → Aside0 (Below w0.heap.size w0 w2) → wpList P ops Q rest (a.put o.dst (.pointer (some ⟨g, 0, none⟩))) w2)
  (hd : o.dst = some N := by with_reducible rfl) (hb0 : Below w0.heap.size w0 W := by repeat (first | (with_reducible first | exact Aside0.out (by assumption) | apply below_alloc | apply pw_below_drewN | apply below_drew1 | refine below_set ?_ (Aside0.out (by assumption))) | exact Aside0.out (by assumption)))
  (hgd : o.guard = none := by rfl) (hrun : (execOp a.eval o).run P W = .ok (.value (.pointer (some ⟨W.heap.size, 0, none⟩))) (W.alloc (.cells cs t (0, 0))) := by first | (go_simp; done) | (go_simp; rfl)) : wpList P ops Q (o :: rest) a W :=
  box_ev (N := N) (cs := cs) (t := t) (fun g hg w2 hbox hb => h g hg w2 hb (Aside0.mk hbox) (Aside0.mk (by rw [hg]; exact below_size hb0)) (Aside0.mk (below_step hb0 hb))) hd hgd hrun
end
end Go.Proofs.YthimlebkjnajpaaDoorW.PrintWords
namespace Go.Proofs.YthimlebkjnajpaaDoor.Pr
open Go.RowKit Go.Proofs.YthimlebkjnajpaaDoorW.PrintWords Go.Proofs.YthimlebkjnajpaaDoorW.PrintLast Go.Proofs.YthimlebkjnajpaaDoorW.PrintMore
attribute [local go_sem] max2_int min2_int max_two min_two max_three min_three max_four min_four
set_option linter.unusedVariables false
set_option linter.unusedSimpArgs false
def errW:Option Int→Value
 | none => .nilIface
 | some c => .iface 0 (.int .i64 c)
theorem errW_none:errW none = .nilIface:=rfl
theorem errW_some (c:Int):errW (some c) = .iface 0 (.int .i64 c):=rfl

theorem from64 (x:Int) (w:World):(callFunc 15 #[.int .u64 x]).run Tryd.prog w = .ok (.value (.float .f64 x.toNat)) w:=by
 rw [run_callFunc_extern (e:=Extern.MathFloatBits.float64frombits) Tryd.func15 (by kernel_rfl) (by kernel_rfl) (by kernel_rfl) (by kernel_rfl)]
 rfl
attribute [go_sem] from64
theorem bits64 (x:Nat) (w:World):(callFunc 28 #[.float .f64 x]).run Tryd.prog w = .ok (.value (.int .u64 (x:Int))) w:=by
 rw [run_callFunc_extern (e:=Extern.MathFloatBits.float64bits) Tryd.func28 (by kernel_rfl) (by kernel_rfl) (by kernel_rfl) (by kernel_rfl)]
 rfl
attribute [go_sem] bits64

/-- The listed variable reads as the program's text lays it. -/
def GlobLaid (w:World):Prop:=∀ j,j<32→w.cell? ⟨1,j,none⟩=some (.int .u8 (Lib.deBruijn32tab.getD j 0))
theorem GlobLaid.below {w w1:World} (h:GlobLaid w) (hb:Below w.heap.size w w1):GlobLaid w1:=fun i hi=>(hb.cell (World.block_lt_of_cell? w _ (h i hi))).trans (h i hi)

theorem wlit0:wrap64 (256)=256:=by decide +kernel
attribute [go_sem] wlit0
theorem wlit1:wrap64 (2048)=2048:=by decide +kernel
attribute [go_sem] wlit1
theorem wlit2:wrap64 (256 - 1)=255:=by decide +kernel
attribute [go_sem] wlit2
theorem wlit3:wrap64 (2048 - 1)=2047:=by decide +kernel
attribute [go_sem] wlit3
theorem wlit4:wrap64 (255)=255:=by decide +kernel
attribute [go_sem] wlit4
theorem wlit5:wrap64 (2047)=2047:=by decide +kernel
attribute [go_sem] wlit5
theorem info34:(Tryd.prog.info? 34).map (fun i=>(i.zero,i.size,i.bytes))=some (some (.float .f64 0),1,8):=by kernel_rfl
theorem info68:(Tryd.prog.info? 68).map (fun i=>(i.zero,i.size,i.bytes))=some (some (.int .u32 0),1,4):=by kernel_rfl
-- the values' own types
end Go.Proofs.YthimlebkjnajpaaDoor.Pr
namespace Go.Proofs.YthimlebkjnajpaaDoor.Pr
open Go.RowKit Go.Proofs.YthimlebkjnajpaaDoorW.PrintWords Go.Proofs.YthimlebkjnajpaaDoorW.PrintLast Go.Proofs.YthimlebkjnajpaaDoorW.PrintMore
attribute [local go_sem] max2_int min2_int max_two min_two max_three min_three max_four min_four
set_option linter.unusedVariables false
set_option linter.unusedSimpArgs false
set_option maxHeartbeats 20000000
set_option maxRecDepth 100000
def wide_cut.l0:Nat→List Int→Option (List Int)
 | 0,_=>none
 | k+1,x0=>if (x0.length:Int)>0 then (if 0≤(wrap64 ((x0.length:Int) - 1)) then (if (wrap64 ((x0.length:Int) - 1))<(x0.length:Int) then (if (rd x0 (wrap64 ((x0.length:Int) - 1)))=0 then (if (wrap64 ((x0.length:Int) - 1))≤(x0.length:Int) then (wide_cut.l0 k (x0.take ((wrap64 ((x0.length:Int) - 1)):Int).toNat)) else (none)) else (some x0)) else (none)) else (none)) else (some x0)
def wide_cut.f (k:Nat) (l0:List Int):Option (List Int):=wide_cut.l0 k l0
theorem wide_cut.calls (k:Nat) (P0_:Nat→Prop) (A0:Option Addr) (c0:Nat) (l0:List Int) (r:List Int) (w:World) (hs0:Kd.V (Kd.int .u32) 68 w w.heap.size (fun k_=>P0_ k_) (.slice A0 l0.length c0) l0) (h:wide_cut.f k l0=some r) :
  Calls Tryd.prog 78 #[.slice A0 l0.length c0] w fun e w'=>∃ v0_:Value,e = .returned (v0_)∧Kd.V (Kd.int .u32) 68 w' w.heap.size (fun k_=>(P0_ k_∨w.heap.size≤k_)) v0_ r∧Below w.heap.size w w':=by
 have HO0:=a_ (show Kd.V (Kd.int .u32) 68 w w.heap.size (fun k_=>(P0_ k_∨w.heap.size≤k_)) (.slice A0 l0.length c0) l0 from Kd.V_mono hs0 (fun k_ hk=>.inl hk))
 have HB:=a_ (Below.refl w.heap.size w)
 have H:(wide_cut.l0 k l0)=some r:=h
 clear h
 have H':=a_ H
 clear H
 go_enter Tryd.func78,Tryd.ntmps78
 go_wp2
 go_loopg [0] k (fun kq v0 w'=>∃ (x0_1:List Int),Aside0 (wide_cut.l0 kq x0_1=some r)∧Aside0 (kq≤k)∧Aside0 (Kd.V (Kd.int .u32) 68 w' w.heap.size (fun k_=>(P0_ k_∨w.heap.size≤k_)) v0 x0_1)∧Aside0 (Below w.heap.size w w'))
 case atStart=>exact ⟨(l0),H',⟨Nat.le_refl _⟩,⟨vv_ HO0⟩,⟨bl_ HB⟩⟩
 case round =>
  clear H'
  obtain ⟨x0_1,HA,HK1,HO_0,HB⟩:=hrel
  cases gk with
  | zero=>exact absurd HA.out (by simp [wide_cut.l0])
  | succ k1 =>
   have H:=HA.out
   clear HA
   simp only [wide_cut.l0] at H
   by_cases c2:(x0_1.length:Int)>0
   ·rw [if_pos c2] at H
    have c2b0:decide (0<(x0_1.length:Int))=true:=decide_eq_true c2
    have c2b1:decide (0<x0_1.length)=true:=decide_eq_true (by omega)
    clear c2
    obtain ⟨ji3,hji3⟩:∃ j_:Int,(wrap64 ((x0_1.length:Int) - 1))=j_:=⟨_,rfl⟩
    replace H:(if 0≤(ji3) then (if (ji3)<(x0_1.length:Int) then (if (rd x0_1 (ji3))=0 then (if (ji3)≤(x0_1.length:Int) then (wide_cut.l0 k1 (x0_1.take ((ji3):Int).toNat)) else (none)) else (some x0_1)) else (none)) else (none))=some r:=by first|(rw [hji3] at H;exact H)|(simp only [hji3] at H ⊢;exact H)
    have hji3w:(IntKind.i64.wrap ((x0_1.length:Int) - 1))=ji3:=(i64_w _).trans hji3
    by_cases c4:0≤(ji3)
    ·rw [if_pos c4] at H
     have c4b0:decide (0≤(ji3))=true:=decide_eq_true c4
     clear c4
     by_cases c5:(ji3)<(x0_1.length:Int)
     ·rw [if_pos c5] at H
      have c5b0:decide ((ji3)<(x0_1.length:Int))=true:=decide_eq_true c5
      clear c5
      by_cases c6:(rd x0_1 (ji3))=0
      ·rw [if_pos c6] at H
       have c6b0:((rd x0_1 (ji3)) == 0)=true:=beq_iff_eq.mpr c6
       have c6b1:((rd x0_1 (ji3)) != 0)=false:=bne_eq_false_iff_eq.mpr c6
       clear c6
       have c7b0:=eq_true (od_:0≤(ji3))
       by_cases c8:(ji3)≤(x0_1.length:Int)
       ·rw [if_pos c8] at H
        have c8b0:=eq_true c8
        have c8b1:decide ((ji3)≤(x0_1.length:Int))=true:=decide_eq_true c8
        clear c8
        obtain ⟨y193,hy193⟩:∃ y_:List Int,y_=(x0_1.take ((ji3):Int).toNat):=⟨_,rfl⟩
        replace H:(wide_cut.l0 k1 y193)=some r:=by first|(rw [hy193];first|exact t1_ H|exact t2_ H)|exact t2_ H|exact t1_ H|(rw [hy193];exact H)|exact H
        have Ny193:=a_ hy193
        clear hy193
        have H':=a_ H
        clear H
        obtain ⟨Ao9,co9,eo9⟩:=Kd.V_slice HO_0.out
        subst eo9
        have p192:0≤((ji3):Int):=od_
        have q192:(ji3)<(x0_1.length:Int):=od_
        obtain ⟨ad192,e192,hx192_0⟩:=Kd.at_int (Kd.V_reads' HO_0.out).2.2 (ji3) p192 q192
        cases e192
        replace p192:=eq_true p192
        replace q192:=eq_true q192
        have q10:((ji3):Int)≤((x0_1.length:Int):Int):=od_
        obtain ⟨i010,hi010,_,hsz10,_⟩:=info_parts info68
        have hroom10:x0_1.length≤co9:=(Kd.V_reads' HO_0.out).2.1
        have hC10:Kd.F (Kd.int .u32) _ _ (some ad192) x0_1.length x0_1:=(Kd.V_at (base:=w.heap.size) HO_0.out).2.2
        have hcut10:=cut_to (P:=Tryd.prog) 28 68 .i64 Tryd.underlying28 hi010 (some ad192) x0_1.length co9 (ji3) od_ q10 hroom10
        have hr10:=Kd.F_take (m:=((ji3):Int).toNat) hC10 (by omega)
        have hy10:y193.length=((ji3):Int).toNat:=(by rw [Ny193.out,List.length_take];omega)
        rw [← Ny193.out] at hr10
        rw [← hy10] at hcut10
        have HO197:=a_ (show Kd.V (Kd.int .u32) 68 _ w.heap.size _ (.slice (some ad192) y193.length co9) y193 from Kd.V_mk (by omega) hr10)
        have HC197:=a_ (show y193.length≤co9 from by omega)
        clear hr10 hC10 hroom10 hi010 hsz10
        have KY10:=a_ hy10
        clear hy10
        replace q10:=eq_true q10
        go_wp2
        go_roundg k1
        case measure=>have:=HK1.out;omega
        case rel=>exact ⟨(y193),H',⟨by have:=HK1.out;omega⟩,⟨vv_ HO197⟩,⟨bl_ HB⟩⟩
       ·rw [if_neg c8] at H
        exact ab_ H
      ·rw [if_neg c6] at H
       have c6b0:((rd x0_1 (ji3)) == 0)=false:=beq_eq_false_iff_ne.mpr c6
       have c6b1:((rd x0_1 (ji3)) != 0)=true:=bne_iff_ne.mpr c6
       obtain rfl:=Option.some.inj H
       obtain ⟨Ao11,co11,eo11⟩:=Kd.V_slice HO_0.out
       subst eo11
       have p192:0≤((ji3):Int):=od_
       have q192:(ji3)<(x0_1.length:Int):=od_
       obtain ⟨ad192,e192,hx192_0⟩:=Kd.at_int (Kd.V_reads' HO_0.out).2.2 (ji3) p192 q192
       cases e192
       replace p192:=eq_true p192
       replace q192:=eq_true q192
       go_wp2
       go_ret
       exact ⟨_,by first|exact rf_|(simp only [← hji3];exact rf_),vv_ HO_0,bl_ HB⟩
     ·rw [if_neg c5] at H
      exact ab_ H
    ·rw [if_neg c4] at H
     exact ab_ H
   ·rw [if_neg c2] at H
    have c2b0:decide (0<(x0_1.length:Int))=false:=decide_eq_false c2
    have c2b1:decide (0<x0_1.length)=false:=decide_eq_false (by omega)
    clear c2
    obtain rfl:=Option.some.inj H
    obtain ⟨Ao12,co12,eo12⟩:=Kd.V_slice HO_0.out
    subst eo12
    go_wp2
    go_ret
    exact ⟨_,rf_,vv_ HO_0,bl_ HB⟩

def bits_Len32.f (a0:Int):Option (Int):=if a0≥65536 then (if (a0 / 65536)≥256 then (if 0≤(((a0 / 65536) / 256)%256) then (if (((a0 / 65536) / 256)%256)<256 then (some (wrap64 ((16+8)+(wrap64 (bt (⟨#[0,1,2,2,3,3,3,3,4,4,4,4,4,4,4,4,5,5,5,5,5,5,5,5,5,5,5,5,5,5,5,5,6,6,6,6,6,6,6,6,6,6,6,6,6,6,6,6,6,6,6,6,6,6,6,6,6,6,6,6,6,6,6,6,7,7,7,7,7,7,7,7,7,7,7,7,7,7,7,7,7,7,7,7,7,7,7,7,7,7,7,7,7,7,7,7,7,7,7,7,7,7,7,7,7,7,7,7,7,7,7,7,7,7,7,7,7,7,7,7,7,7,7,7,7,7,7,7,8,8,8,8,8,8,8,8,8,8,8,8,8,8,8,8,8,8,8,8,8,8,8,8,8,8,8,8,8,8,8,8,8,8,8,8,8,8,8,8,8,8,8,8,8,8,8,8,8,8,8,8,8,8,8,8,8,8,8,8,8,8,8,8,8,8,8,8,8,8,8,8,8,8,8,8,8,8,8,8,8,8,8,8,8,8,8,8,8,8,8,8,8,8,8,8,8,8,8,8,8,8,8,8,8,8,8,8,8,8,8,8,8,8,8,8,8,8,8,8,8,8,8,8,8,8,8,8]⟩:ByteArray) (((a0 / 65536) / 256)%256)))))) else (none)) else (none)) else (if 0≤((a0 / 65536)%256) then (if ((a0 / 65536)%256)<256 then (some (wrap64 (16+(wrap64 (bt (⟨#[0,1,2,2,3,3,3,3,4,4,4,4,4,4,4,4,5,5,5,5,5,5,5,5,5,5,5,5,5,5,5,5,6,6,6,6,6,6,6,6,6,6,6,6,6,6,6,6,6,6,6,6,6,6,6,6,6,6,6,6,6,6,6,6,7,7,7,7,7,7,7,7,7,7,7,7,7,7,7,7,7,7,7,7,7,7,7,7,7,7,7,7,7,7,7,7,7,7,7,7,7,7,7,7,7,7,7,7,7,7,7,7,7,7,7,7,7,7,7,7,7,7,7,7,7,7,7,7,8,8,8,8,8,8,8,8,8,8,8,8,8,8,8,8,8,8,8,8,8,8,8,8,8,8,8,8,8,8,8,8,8,8,8,8,8,8,8,8,8,8,8,8,8,8,8,8,8,8,8,8,8,8,8,8,8,8,8,8,8,8,8,8,8,8,8,8,8,8,8,8,8,8,8,8,8,8,8,8,8,8,8,8,8,8,8,8,8,8,8,8,8,8,8,8,8,8,8,8,8,8,8,8,8,8,8,8,8,8,8,8,8,8,8,8,8,8,8,8,8,8,8,8,8,8,8,8]⟩:ByteArray) ((a0 / 65536)%256)))))) else (none)) else (none))) else (if a0≥256 then (if 0≤((a0 / 256)%256) then (if ((a0 / 256)%256)<256 then (some (wrap64 ((0+8)+(wrap64 (bt (⟨#[0,1,2,2,3,3,3,3,4,4,4,4,4,4,4,4,5,5,5,5,5,5,5,5,5,5,5,5,5,5,5,5,6,6,6,6,6,6,6,6,6,6,6,6,6,6,6,6,6,6,6,6,6,6,6,6,6,6,6,6,6,6,6,6,7,7,7,7,7,7,7,7,7,7,7,7,7,7,7,7,7,7,7,7,7,7,7,7,7,7,7,7,7,7,7,7,7,7,7,7,7,7,7,7,7,7,7,7,7,7,7,7,7,7,7,7,7,7,7,7,7,7,7,7,7,7,7,7,8,8,8,8,8,8,8,8,8,8,8,8,8,8,8,8,8,8,8,8,8,8,8,8,8,8,8,8,8,8,8,8,8,8,8,8,8,8,8,8,8,8,8,8,8,8,8,8,8,8,8,8,8,8,8,8,8,8,8,8,8,8,8,8,8,8,8,8,8,8,8,8,8,8,8,8,8,8,8,8,8,8,8,8,8,8,8,8,8,8,8,8,8,8,8,8,8,8,8,8,8,8,8,8,8,8,8,8,8,8,8,8,8,8,8,8,8,8,8,8,8,8,8,8,8,8,8,8]⟩:ByteArray) ((a0 / 256)%256)))))) else (none)) else (none)) else (if 0≤((a0)%256) then (if ((a0)%256)<256 then (some (wrap64 (0+(wrap64 (bt (⟨#[0,1,2,2,3,3,3,3,4,4,4,4,4,4,4,4,5,5,5,5,5,5,5,5,5,5,5,5,5,5,5,5,6,6,6,6,6,6,6,6,6,6,6,6,6,6,6,6,6,6,6,6,6,6,6,6,6,6,6,6,6,6,6,6,7,7,7,7,7,7,7,7,7,7,7,7,7,7,7,7,7,7,7,7,7,7,7,7,7,7,7,7,7,7,7,7,7,7,7,7,7,7,7,7,7,7,7,7,7,7,7,7,7,7,7,7,7,7,7,7,7,7,7,7,7,7,7,7,8,8,8,8,8,8,8,8,8,8,8,8,8,8,8,8,8,8,8,8,8,8,8,8,8,8,8,8,8,8,8,8,8,8,8,8,8,8,8,8,8,8,8,8,8,8,8,8,8,8,8,8,8,8,8,8,8,8,8,8,8,8,8,8,8,8,8,8,8,8,8,8,8,8,8,8,8,8,8,8,8,8,8,8,8,8,8,8,8,8,8,8,8,8,8,8,8,8,8,8,8,8,8,8,8,8,8,8,8,8,8,8,8,8,8,8,8,8,8,8,8,8,8,8,8,8,8,8]⟩:ByteArray) ((a0)%256)))))) else (none)) else (none)))
theorem bits_Len32.calls (a0:Int) (r:Int) (w:World) (h:bits_Len32.f a0=some r) :
  Calls Tryd.prog 89 #[.int .u32 a0] w fun e w'=>e = .returned (.int .i64 r)∧Drawn0 w w':=by
 have H:=h
 unfold bits_Len32.f at H
 clear h
 by_cases c2:a0≥65536
 ·rw [if_pos c2] at H
  have c2b0:decide (65536≤a0)=true:=decide_eq_true c2
  clear c2
  by_cases c3:(a0 / 65536)≥256
  ·rw [if_pos c3] at H
   have c3b0:decide (256≤(a0 / 65536))=true:=decide_eq_true c3
   clear c3
   obtain ⟨ji4,hji4⟩:∃ j_:Int,(((a0 / 65536) / 256)%256)=j_:=⟨_,rfl⟩
   replace H:(if 0≤(ji4) then (if (ji4)<256 then (some (wrap64 ((16+8)+(wrap64 (bt (⟨#[0,1,2,2,3,3,3,3,4,4,4,4,4,4,4,4,5,5,5,5,5,5,5,5,5,5,5,5,5,5,5,5,6,6,6,6,6,6,6,6,6,6,6,6,6,6,6,6,6,6,6,6,6,6,6,6,6,6,6,6,6,6,6,6,7,7,7,7,7,7,7,7,7,7,7,7,7,7,7,7,7,7,7,7,7,7,7,7,7,7,7,7,7,7,7,7,7,7,7,7,7,7,7,7,7,7,7,7,7,7,7,7,7,7,7,7,7,7,7,7,7,7,7,7,7,7,7,7,8,8,8,8,8,8,8,8,8,8,8,8,8,8,8,8,8,8,8,8,8,8,8,8,8,8,8,8,8,8,8,8,8,8,8,8,8,8,8,8,8,8,8,8,8,8,8,8,8,8,8,8,8,8,8,8,8,8,8,8,8,8,8,8,8,8,8,8,8,8,8,8,8,8,8,8,8,8,8,8,8,8,8,8,8,8,8,8,8,8,8,8,8,8,8,8,8,8,8,8,8,8,8,8,8,8,8,8,8,8,8,8,8,8,8,8,8,8,8,8,8,8,8,8,8,8,8,8]⟩:ByteArray) (ji4)))))) else (none)) else (none))=some r:=by first|(rw [hji4] at H;exact H)|(simp only [hji4] at H ⊢;exact H)
   by_cases c5:0≤(ji4)
   ·rw [if_pos c5] at H
    have c5b0:decide (0≤(ji4))=true:=decide_eq_true c5
    clear c5
    by_cases c6:(ji4)<256
    ·rw [if_pos c6] at H
     have c6b0:decide ((ji4)<256)=true:=decide_eq_true c6
     clear c6
     obtain rfl:=Option.some.inj H
     have p7:0≤((ji4):Int):=od_
     have q7:(ji4)<(256:Int):=od_
     have hx7:=bt_at (⟨#[0,1,2,2,3,3,3,3,4,4,4,4,4,4,4,4,5,5,5,5,5,5,5,5,5,5,5,5,5,5,5,5,6,6,6,6,6,6,6,6,6,6,6,6,6,6,6,6,6,6,6,6,6,6,6,6,6,6,6,6,6,6,6,6,7,7,7,7,7,7,7,7,7,7,7,7,7,7,7,7,7,7,7,7,7,7,7,7,7,7,7,7,7,7,7,7,7,7,7,7,7,7,7,7,7,7,7,7,7,7,7,7,7,7,7,7,7,7,7,7,7,7,7,7,7,7,7,7,8,8,8,8,8,8,8,8,8,8,8,8,8,8,8,8,8,8,8,8,8,8,8,8,8,8,8,8,8,8,8,8,8,8,8,8,8,8,8,8,8,8,8,8,8,8,8,8,8,8,8,8,8,8,8,8,8,8,8,8,8,8,8,8,8,8,8,8,8,8,8,8,8,8,8,8,8,8,8,8,8,8,8,8,8,8,8,8,8,8,8,8,8,8,8,8,8,8,8,8,8,8,8,8,8,8,8,8,8,8,8,8,8,8,8,8,8,8,8,8,8,8,8,8,8,8,8,8]⟩:ByteArray) (ji4)
     replace p7:=eq_true p7
     replace q7:=eq_true q7
     go_enter Tryd.func89,Tryd.ntmps89
     go_wp2
     go_ret
     exact ⟨by first|rfl|(simp;done)|(simp only [← hji4] <;> (first|rfl|simp))|(simp [*];done),dr_⟩
    ·rw [if_neg c6] at H
     exact ab_ H
   ·rw [if_neg c5] at H
    exact ab_ H
  ·rw [if_neg c3] at H
   have c3b0:decide (256≤(a0 / 65536))=false:=decide_eq_false c3
   clear c3
   obtain ⟨ji8,hji8⟩:∃ j_:Int,((a0 / 65536)%256)=j_:=⟨_,rfl⟩
   replace H:(if 0≤(ji8) then (if (ji8)<256 then (some (wrap64 (16+(wrap64 (bt (⟨#[0,1,2,2,3,3,3,3,4,4,4,4,4,4,4,4,5,5,5,5,5,5,5,5,5,5,5,5,5,5,5,5,6,6,6,6,6,6,6,6,6,6,6,6,6,6,6,6,6,6,6,6,6,6,6,6,6,6,6,6,6,6,6,6,7,7,7,7,7,7,7,7,7,7,7,7,7,7,7,7,7,7,7,7,7,7,7,7,7,7,7,7,7,7,7,7,7,7,7,7,7,7,7,7,7,7,7,7,7,7,7,7,7,7,7,7,7,7,7,7,7,7,7,7,7,7,7,7,8,8,8,8,8,8,8,8,8,8,8,8,8,8,8,8,8,8,8,8,8,8,8,8,8,8,8,8,8,8,8,8,8,8,8,8,8,8,8,8,8,8,8,8,8,8,8,8,8,8,8,8,8,8,8,8,8,8,8,8,8,8,8,8,8,8,8,8,8,8,8,8,8,8,8,8,8,8,8,8,8,8,8,8,8,8,8,8,8,8,8,8,8,8,8,8,8,8,8,8,8,8,8,8,8,8,8,8,8,8,8,8,8,8,8,8,8,8,8,8,8,8,8,8,8,8,8,8]⟩:ByteArray) (ji8)))))) else (none)) else (none))=some r:=by first|(rw [hji8] at H;exact H)|(simp only [hji8] at H ⊢;exact H)
   by_cases c9:0≤(ji8)
   ·rw [if_pos c9] at H
    have c9b0:decide (0≤(ji8))=true:=decide_eq_true c9
    clear c9
    by_cases c10:(ji8)<256
    ·rw [if_pos c10] at H
     have c10b0:decide ((ji8)<256)=true:=decide_eq_true c10
     clear c10
     obtain rfl:=Option.some.inj H
     have p11:0≤((ji8):Int):=od_
     have q11:(ji8)<(256:Int):=od_
     have hx11:=bt_at (⟨#[0,1,2,2,3,3,3,3,4,4,4,4,4,4,4,4,5,5,5,5,5,5,5,5,5,5,5,5,5,5,5,5,6,6,6,6,6,6,6,6,6,6,6,6,6,6,6,6,6,6,6,6,6,6,6,6,6,6,6,6,6,6,6,6,7,7,7,7,7,7,7,7,7,7,7,7,7,7,7,7,7,7,7,7,7,7,7,7,7,7,7,7,7,7,7,7,7,7,7,7,7,7,7,7,7,7,7,7,7,7,7,7,7,7,7,7,7,7,7,7,7,7,7,7,7,7,7,7,8,8,8,8,8,8,8,8,8,8,8,8,8,8,8,8,8,8,8,8,8,8,8,8,8,8,8,8,8,8,8,8,8,8,8,8,8,8,8,8,8,8,8,8,8,8,8,8,8,8,8,8,8,8,8,8,8,8,8,8,8,8,8,8,8,8,8,8,8,8,8,8,8,8,8,8,8,8,8,8,8,8,8,8,8,8,8,8,8,8,8,8,8,8,8,8,8,8,8,8,8,8,8,8,8,8,8,8,8,8,8,8,8,8,8,8,8,8,8,8,8,8,8,8,8,8,8,8]⟩:ByteArray) (ji8)
     replace p11:=eq_true p11
     replace q11:=eq_true q11
     go_enter Tryd.func89,Tryd.ntmps89
     go_wp2
     go_ret
     exact ⟨by first|rfl|(simp;done)|(simp only [← hji8] <;> (first|rfl|simp))|(simp [*];done),dr_⟩
    ·rw [if_neg c10] at H
     exact ab_ H
   ·rw [if_neg c9] at H
    exact ab_ H
 ·rw [if_neg c2] at H
  have c2b0:decide (65536≤a0)=false:=decide_eq_false c2
  clear c2
  by_cases c12:a0≥256
  ·rw [if_pos c12] at H
   have c12b0:decide (256≤a0)=true:=decide_eq_true c12
   clear c12
   obtain ⟨ji13,hji13⟩:∃ j_:Int,((a0 / 256)%256)=j_:=⟨_,rfl⟩
   replace H:(if 0≤(ji13) then (if (ji13)<256 then (some (wrap64 ((0+8)+(wrap64 (bt (⟨#[0,1,2,2,3,3,3,3,4,4,4,4,4,4,4,4,5,5,5,5,5,5,5,5,5,5,5,5,5,5,5,5,6,6,6,6,6,6,6,6,6,6,6,6,6,6,6,6,6,6,6,6,6,6,6,6,6,6,6,6,6,6,6,6,7,7,7,7,7,7,7,7,7,7,7,7,7,7,7,7,7,7,7,7,7,7,7,7,7,7,7,7,7,7,7,7,7,7,7,7,7,7,7,7,7,7,7,7,7,7,7,7,7,7,7,7,7,7,7,7,7,7,7,7,7,7,7,7,8,8,8,8,8,8,8,8,8,8,8,8,8,8,8,8,8,8,8,8,8,8,8,8,8,8,8,8,8,8,8,8,8,8,8,8,8,8,8,8,8,8,8,8,8,8,8,8,8,8,8,8,8,8,8,8,8,8,8,8,8,8,8,8,8,8,8,8,8,8,8,8,8,8,8,8,8,8,8,8,8,8,8,8,8,8,8,8,8,8,8,8,8,8,8,8,8,8,8,8,8,8,8,8,8,8,8,8,8,8,8,8,8,8,8,8,8,8,8,8,8,8,8,8,8,8,8,8]⟩:ByteArray) (ji13)))))) else (none)) else (none))=some r:=by first|(rw [hji13] at H;exact H)|(simp only [hji13] at H ⊢;exact H)
   by_cases c14:0≤(ji13)
   ·rw [if_pos c14] at H
    have c14b0:decide (0≤(ji13))=true:=decide_eq_true c14
    clear c14
    by_cases c15:(ji13)<256
    ·rw [if_pos c15] at H
     have c15b0:decide ((ji13)<256)=true:=decide_eq_true c15
     clear c15
     obtain rfl:=Option.some.inj H
     have p16:0≤((ji13):Int):=od_
     have q16:(ji13)<(256:Int):=od_
     have hx16:=bt_at (⟨#[0,1,2,2,3,3,3,3,4,4,4,4,4,4,4,4,5,5,5,5,5,5,5,5,5,5,5,5,5,5,5,5,6,6,6,6,6,6,6,6,6,6,6,6,6,6,6,6,6,6,6,6,6,6,6,6,6,6,6,6,6,6,6,6,7,7,7,7,7,7,7,7,7,7,7,7,7,7,7,7,7,7,7,7,7,7,7,7,7,7,7,7,7,7,7,7,7,7,7,7,7,7,7,7,7,7,7,7,7,7,7,7,7,7,7,7,7,7,7,7,7,7,7,7,7,7,7,7,8,8,8,8,8,8,8,8,8,8,8,8,8,8,8,8,8,8,8,8,8,8,8,8,8,8,8,8,8,8,8,8,8,8,8,8,8,8,8,8,8,8,8,8,8,8,8,8,8,8,8,8,8,8,8,8,8,8,8,8,8,8,8,8,8,8,8,8,8,8,8,8,8,8,8,8,8,8,8,8,8,8,8,8,8,8,8,8,8,8,8,8,8,8,8,8,8,8,8,8,8,8,8,8,8,8,8,8,8,8,8,8,8,8,8,8,8,8,8,8,8,8,8,8,8,8,8,8]⟩:ByteArray) (ji13)
     replace p16:=eq_true p16
     replace q16:=eq_true q16
     go_enter Tryd.func89,Tryd.ntmps89
     go_wp2
     go_ret
     exact ⟨by first|rfl|(simp;done)|(simp only [← hji13] <;> (first|rfl|simp))|(simp [*];done),dr_⟩
    ·rw [if_neg c15] at H
     exact ab_ H
   ·rw [if_neg c14] at H
    exact ab_ H
  ·rw [if_neg c12] at H
   have c12b0:decide (256≤a0)=false:=decide_eq_false c12
   clear c12
   obtain ⟨ji17,hji17⟩:∃ j_:Int,((a0)%256)=j_:=⟨_,rfl⟩
   replace H:(if 0≤(ji17) then (if (ji17)<256 then (some (wrap64 (0+(wrap64 (bt (⟨#[0,1,2,2,3,3,3,3,4,4,4,4,4,4,4,4,5,5,5,5,5,5,5,5,5,5,5,5,5,5,5,5,6,6,6,6,6,6,6,6,6,6,6,6,6,6,6,6,6,6,6,6,6,6,6,6,6,6,6,6,6,6,6,6,7,7,7,7,7,7,7,7,7,7,7,7,7,7,7,7,7,7,7,7,7,7,7,7,7,7,7,7,7,7,7,7,7,7,7,7,7,7,7,7,7,7,7,7,7,7,7,7,7,7,7,7,7,7,7,7,7,7,7,7,7,7,7,7,8,8,8,8,8,8,8,8,8,8,8,8,8,8,8,8,8,8,8,8,8,8,8,8,8,8,8,8,8,8,8,8,8,8,8,8,8,8,8,8,8,8,8,8,8,8,8,8,8,8,8,8,8,8,8,8,8,8,8,8,8,8,8,8,8,8,8,8,8,8,8,8,8,8,8,8,8,8,8,8,8,8,8,8,8,8,8,8,8,8,8,8,8,8,8,8,8,8,8,8,8,8,8,8,8,8,8,8,8,8,8,8,8,8,8,8,8,8,8,8,8,8,8,8,8,8,8,8]⟩:ByteArray) (ji17)))))) else (none)) else (none))=some r:=by first|(rw [hji17] at H;exact H)|(simp only [hji17] at H ⊢;exact H)
   by_cases c18:0≤(ji17)
   ·rw [if_pos c18] at H
    have c18b0:decide (0≤(ji17))=true:=decide_eq_true c18
    clear c18
    by_cases c19:(ji17)<256
    ·rw [if_pos c19] at H
     have c19b0:decide ((ji17)<256)=true:=decide_eq_true c19
     clear c19
     obtain rfl:=Option.some.inj H
     have p20:0≤((ji17):Int):=od_
     have q20:(ji17)<(256:Int):=od_
     have hx20:=bt_at (⟨#[0,1,2,2,3,3,3,3,4,4,4,4,4,4,4,4,5,5,5,5,5,5,5,5,5,5,5,5,5,5,5,5,6,6,6,6,6,6,6,6,6,6,6,6,6,6,6,6,6,6,6,6,6,6,6,6,6,6,6,6,6,6,6,6,7,7,7,7,7,7,7,7,7,7,7,7,7,7,7,7,7,7,7,7,7,7,7,7,7,7,7,7,7,7,7,7,7,7,7,7,7,7,7,7,7,7,7,7,7,7,7,7,7,7,7,7,7,7,7,7,7,7,7,7,7,7,7,7,8,8,8,8,8,8,8,8,8,8,8,8,8,8,8,8,8,8,8,8,8,8,8,8,8,8,8,8,8,8,8,8,8,8,8,8,8,8,8,8,8,8,8,8,8,8,8,8,8,8,8,8,8,8,8,8,8,8,8,8,8,8,8,8,8,8,8,8,8,8,8,8,8,8,8,8,8,8,8,8,8,8,8,8,8,8,8,8,8,8,8,8,8,8,8,8,8,8,8,8,8,8,8,8,8,8,8,8,8,8,8,8,8,8,8,8,8,8,8,8,8,8,8,8,8,8,8,8]⟩:ByteArray) (ji17)
     replace p20:=eq_true p20
     replace q20:=eq_true q20
     go_enter Tryd.func89,Tryd.ntmps89
     go_wp2
     go_ret
     exact ⟨by first|rfl|(simp;done)|(simp only [← hji17] <;> (first|rfl|simp))|(simp [*];done),dr_⟩
    ·rw [if_neg c19] at H
     exact ab_ H
   ·rw [if_neg c18] at H
    exact ab_ H

def wide_Len.f (k:Nat) (l0:List Int):Option (Int):=(wide_cut.f k l0).bind fun t198=>(if (t198.length:Int)=0 then (some 0) else (if 0≤(wrap64 ((t198.length:Int) - 1)) then (if (wrap64 ((t198.length:Int) - 1))<(t198.length:Int) then ((bits_Len32.f (rd t198 (wrap64 ((t198.length:Int) - 1)))).bind fun t202=>(some (wrap64 ((wrap64 (32*(wrap64 ((t198.length:Int) - 1))))+t202)))) else (none)) else (none)))
theorem wide_Len.calls (k:Nat) (A0:Option Addr) (c0:Nat) (l0:List Int) (r:Int) (w:World) (hr0:Kd.C (Kd.int .u32) w A0 l0.length l0) (hc0:l0.length≤c0) (h:wide_Len.f k l0=some r) :
  Calls Tryd.prog 65 #[.slice A0 l0.length c0] w fun e w'=>e = .returned (.int .i64 r)∧Below w.heap.size w w':=by
 have HR0:=a_ hr0
 have HC0:=a_ hc0
 clear hr0 hc0
 have HB:=a_ (Below.refl w.heap.size w)
 have H:=h
 unfold wide_Len.f at H
 clear h
 obtain ⟨t198,A2,H⟩:=ob_ H
 try dsimp only at H
 by_cases c3:(t198.length:Int)=0
 ·rw [if_pos c3] at H
  have c3b0:((t198.length:Int) == 0)=true:=beq_iff_eq.mpr c3
  have c3b1:((t198.length:Int) != 0)=false:=bne_eq_false_iff_eq.mpr c3
  clear c3
  obtain rfl:=Option.some.inj H
  go_enter Tryd.func65,Tryd.ntmps65
  go_wp2_with (first|(refine goesM (some 4) Tryd.func78 #[.slice A0 l0.length c0] ?_;(with_reducible refine (wide_cut.calls k (fun k_=>k_<w.heap.size) _ _ l0 t198 _ ?side1 A2.out).mono ?_);(case side1=>exact Kd.V_mk HC0.out (Kd.F_below (Kd.C_F (Kd.heap_int .u32) HR0.out) (bl_ HB)));rintro e w4 ⟨v199,rfl,ho0,hb⟩;refine ⟨_,rfl,?_⟩;have HO200:=a_ (Kd.V_lower (Kd.V_mono (ok':=fun k_=>True) ho0 (fun k_ hk_=>trivial)) (below_size (bl_ HB)));replace HB:=bs_ HB hb;(try clear hb);(try clear ho0);obtain ⟨Ao5,co5,eo5⟩:=Kd.V_slice HO200.out;subst eo5))
  go_ret
  exact ⟨rf_,bl_ HB⟩
 ·rw [if_neg c3] at H
  have c3b0:((t198.length:Int) == 0)=false:=beq_eq_false_iff_ne.mpr c3
  have c3b1:((t198.length:Int) != 0)=true:=bne_iff_ne.mpr c3
  have c3b2:¬ (t198=[]):=fun h_=>c3 (by rw [h_];rfl)
  obtain ⟨ji6,hji6⟩:∃ j_:Int,(wrap64 ((t198.length:Int) - 1))=j_:=⟨_,rfl⟩
  replace H:(if 0≤(ji6) then (if (ji6)<(t198.length:Int) then ((bits_Len32.f (rd t198 (ji6))).bind fun t202=>(some (wrap64 ((wrap64 (32*(ji6)))+t202)))) else (none)) else (none))=some r:=by first|(rw [hji6] at H;exact H)|(simp only [hji6] at H ⊢;exact H)
  (try rw [hji6] at A2)
  have hji6w:(IntKind.i64.wrap ((t198.length:Int) - 1))=ji6:=(i64_w _).trans hji6
  by_cases c7:0≤(ji6)
  ·rw [if_pos c7] at H
   have c7b0:decide (0≤(ji6))=true:=decide_eq_true c7
   clear c7
   by_cases c8:(ji6)<(t198.length:Int)
   ·rw [if_pos c8] at H
    have c8b0:decide ((ji6)<(t198.length:Int))=true:=decide_eq_true c8
    clear c8
    obtain ⟨t202,A9,H⟩:=ob_ H
    try dsimp only at H
    obtain rfl:=Option.some.inj H
    go_enter Tryd.func65,Tryd.ntmps65
    go_wp2_with (first|(refine goesM (some 4) Tryd.func78 #[.slice A0 l0.length c0] ?_;(with_reducible refine (wide_cut.calls k (fun k_=>k_<w.heap.size) _ _ l0 t198 _ ?side1 A2.out).mono ?_);(case side1=>exact Kd.V_mk HC0.out (Kd.F_below (Kd.C_F (Kd.heap_int .u32) HR0.out) (bl_ HB)));rintro e w10 ⟨v199,rfl,ho0,hb⟩;refine ⟨_,rfl,?_⟩;have HO200:=a_ (Kd.V_lower (Kd.V_mono (ok':=fun k_=>True) ho0 (fun k_ hk_=>trivial)) (below_size (bl_ HB)));replace HB:=bs_ HB hb;(try clear hb);(try clear ho0);obtain ⟨Ao11,co11,eo11⟩:=Kd.V_slice HO200.out;subst eo11;have p201:0≤((ji6):Int):=od_;have q201:(ji6)<(t198.length:Int):=od_;obtain ⟨ad201,e201,hx201_0⟩:=Kd.at_int (Kd.V_reads' HO200.out).2.2 (ji6) p201 q201;cases e201;replace p201:=eq_true p201;replace q201:=eq_true q201)|(refine goesL_ (some 18) rfl rfl Tryd.func89 (by kernel_rfl) rfl #[.int .u32 (rd t198 (ji6))] rfl (by (try simp only [List.map_toArray,List.map_cons,List.map_nil]);first|done|(simp only [hji6];rfl)|rfl|(simp only [List.length_drop,List.length_take];rfl)) ?_;(with_reducible refine (bits_Len32.calls (rd t198 (ji6)) t202 _ A9.out).mono ?_);rintro e w' ⟨rfl,⟨nd,rfl⟩⟩;refine ⟨_,rfl,?_⟩))
    go_ret
    exact ⟨by first|exact rf_|(simp only [← hji6];exact rf_),bl_ HB⟩
   ·rw [if_neg c8] at H
    exact ab_ H
  ·rw [if_neg c7] at H
   exact ab_ H
def bits_long.f  : Option (Int × Int × Int):=some (11,52,(-1074))
theorem bits_long.calls  (r1:Int) (r2:Int) (r3:Int) (w:World) (h:bits_long.f  = some (r1,r2,r3)) :
  Calls Tryd.prog 73 #[] w fun e w'=>e = .returned (.agg #[.int .i64 r1,.int .i64 r2,.int .i64 r3])∧Below w.heap.size w w':=by
 have hu106:=Tryd.underlying106
 have HB:=a_ (Below.refl w.heap.size w)
 have H:(some (11,52,(-1074)))=some (r1,r2,r3):=h
 clear h
 simp only [Option.some.injEq,Prod.mk.injEq] at H
 obtain ⟨rfl,rfl,rfl⟩:=H
 go_enter Tryd.func73,Tryd.ntmps73
 go_wp2_with (first|(refine be_ HB (N:=0) (cs:=#[.int .i64 0,.int .i64 0,.int .i64 0]) (t:=106) ?_;clear HB;intro gb101 hg w1 hb BK101 GE101 HB;clear hb hg;obtain ⟨hcz2_0,hcz2_1,hcz2_2⟩:=bc3 BK101;obtain ⟨hfz2_0,hfz2_1,hfz2_2⟩:=bz3 BK101))
 refine bodyPost_ret (results_cell_row rfl _ _ gb101 106 #[.int .i64 11,.int .i64 52,.int .i64 (-1074)] (0,0) _ rfl (bq_ BK101) Tryd.underlying106 rfl (by kernel_rfl)) rfl ?_
 exact ⟨rf_,bl_ HB⟩
def bits_form_parts_L.j0:Nat→Int→Int→Bool→Bool→Option (Bool × Int × Int × Int)
 | 0,_,_,_,_=>none
 | k+1,x5,x6,x7,x33=>if x33=true then (some (false,4,0,0)) else (if x6=2047 then (some (x7,3,0,0)) else (if x6>0 then (some (x7,2,wrap64 ((wrap64 ((-1074)+x6)) - 1),Go.bits .or .u64 x5 4503599627370496)) else (if x5>0 then (some (x7,1,(-1074),x5)) else (some (x7,0,(-1074),0)))))
def bits_form_parts_L.f (k:Nat) (a1:Int):Option (Bool × Int × Int × Int):=if (Go.bits .and .i64 (wrap64 (a1 / 4503599627370496)) 2047)=2047 then (bits_form_parts_L.j0 k (Go.bits .and .u64 a1 4503599627370495) (Go.bits .and .i64 (wrap64 (a1 / 4503599627370496)) 2047) ((Go.bits .and .u64 (a1 / 9223372036854775808) 1) == 1) ((Go.bits .and .u64 a1 4503599627370495) != 0)) else (bits_form_parts_L.j0 k (Go.bits .and .u64 a1 4503599627370495) (Go.bits .and .i64 (wrap64 (a1 / 4503599627370496)) 2047) ((Go.bits .and .u64 (a1 / 9223372036854775808) 1) == 1) false)
def bits_form_parts_L.T2:Bool × List (List Nat × List Nat):=(true,[([],[]),([],[]),([1],[1]),([0,2],[0,2]),([3],[3]),([],[]),([5],[5]),([6],[6]),([7],[7]),([4,8],[4,8]),([9,0,1,2,3,4,5,6,7,8,9],[9])])
def bits_form_parts_L.B2:List Nat:=[0,0,2,7,15,0,32,96,224,511,1023]
theorem bits_form_parts_L.tab2:rtab .any (opsOf Tryd.f74 2)=bits_form_parts_L.T2:=by kernel_rfl
theorem bits_form_parts_L.bits2:waitsOk bits_form_parts_L.T2.2 bits_form_parts_L.B2=true:=by kernel_rfl
def bits_form_parts_L.T9:Bool × List (List Nat × List Nat):=(true,[([],[]),([],[]),([1],[1]),([],[]),([2,3],[2,3]),([4],[4]),([],[]),([],[]),([7],[7]),([8],[8]),([6,9],[6,9]),([0,5,10],[0,5,10]),([11,0,1,2,3,4,5,6,7,8,9,10,11],[11])])
def bits_form_parts_L.B9:List Nat:=[0,0,2,0,14,30,0,0,128,384,960,2047,4095]
theorem bits_form_parts_L.tab9:rtab .any (opsOf Tryd.f74 9)=bits_form_parts_L.T9:=by kernel_rfl
theorem bits_form_parts_L.bits9:waitsOk bits_form_parts_L.T9.2 bits_form_parts_L.B9=true:=by kernel_rfl
theorem bits_form_parts_L.calls (k:Nat) (a1:Int) (r1:Bool) (r2:Int) (r3:Int) (r4:Int) (w:World) (h:bits_form_parts_L.f k a1=some (r1,r2,r3,r4)) :
  Calls Tryd.prog 74 #[.agg #[.int .i64 11,.int .i64 52,.int .i64 (-1074)],.int .u64 a1] w fun e w'=>e = .returned (.agg #[.bool r1,.int .i64 r2,.int .i64 r3,.int .u64 r4])∧Below w.heap.size w w':=by
 have hu106:=Tryd.underlying106
 have hu86:=Tryd.underlying86
 have HB:=a_ (Below.refl w.heap.size w)
 have H:=h
 unfold bits_form_parts_L.f at H
 clear h
 have HC3:=a_ H
 clear H
 go_enter Tryd.func74,Tryd.ntmps74
 try go_wp2_with ((with_reducible refine g_ ?_);first|(refine be_ HB (N:=2) (cs:=#[.int .i64 11,.int .i64 52,.int .i64 (-1074)]) (t:=106) ?_;clear HB;intro gb102 hg w4 hb BK102 GE102 HB;clear hb hg)|(refine be_ HB (N:=4) (cs:=#[.bool false,.int .i64 0,.int .i64 0,.int .u64 0]) (t:=86) ?_;clear HB;intro gb103 hg w5 hb BK103 GE103 HB;have NB102_103:=nlt_ BK102 hg;have NB103_102:=ngt_ BK102 hg;replace BK102:=kb_ BK102 hb;clear hb hg;have hnb6:=NB102_103.out;have hnc6:=NB103_102.out;obtain ⟨hcz7_0,hcz7_1,hcz7_2⟩:=bc3 BK102;obtain ⟨hfz7_0,hfz7_1,hfz7_2⟩:=bz3 BK102))
 have n0_:=a_ (blk_drew BK102.out)
 have n1_:=a_ (blk_drew BK103.out)
 have n2_:=a_ (below_drew1 HB.out)
 clear BK102
 clear BK103
 clear HB
 have BK102:=n0_
 have BK103:=n1_
 have HB:=n2_
 clear n0_ n1_ n2_
 refine start_ (n:=11) (S:=fun w'=>w'.cell? ⟨gb102,0,none⟩=some (.int .i64 11)∧w'.cell? ⟨gb102,1,none⟩=some (.int .i64 52)∧w'.cell? ⟨gb102,2,none⟩=some (.int .i64 (-1074))) (ds:=[]) #[false,false,false,false,false,false,false,false,false,false,false] (by kernel_rfl) rfl rfl ⟨(bc_ BK102 0),(bc_ BK102 1),(bc_ BK102 2)⟩ (fun hHeld=>?_);refine with_tabW bits_form_parts_L.tab2 bits_form_parts_L.bits2 (fun HT_ HW_=>?_)
 generalize w5.drew=w8 at BK102 BK103 HB hHeld ⊢
 refine pv_ 0 14 (v:=?_) (a':=?_) HT_ rfl rfl (Or.inl ⟨by rfl,?_⟩) ?_ ?_
 rotate_left
 ·intro w'
  go_simp
  with_reducible rfl
 rotate_left
 ·exact nf_
 refine pv_ 1 15 (v:=?_) (a':=?_) HT_ rfl rfl (Or.inl ⟨by rfl,?_⟩) ?_ ?_
 rotate_left
 ·intro w'
  go_simp
  with_reducible rfl
 rotate_left
 ·exact nf_
 refine pv_ 5 19 (v:=?_) (a':=?_) HT_ rfl rfl (Or.inl ⟨by rfl,?_⟩) ?_ ?_
 rotate_left
 ·intro w'
  go_simp
  with_reducible rfl
 rotate_left
 ·exact nf_
 refine tv_ 2 16 (v:=?_) (a':=?_) HT_ HW_ rfl rfl (Or.inl ⟨by rfl,?_⟩) hHeld ?_ ?_
 rotate_left
 ·rintro w' ⟨s0,s1,s2⟩
  go_simp
  with_reducible rfl
 rotate_left
 ·exact nf_
 refine pv_ 3 17 (v:=?_) (a':=?_) HT_ rfl rfl (Or.inl ⟨by rfl,?_⟩) ?_ ?_
 rotate_left
 ·intro w'
  go_simp
  with_reducible rfl
 rotate_left
 ·exact nf_
 refine pv_ 4 18 (v:=?_) (a':=?_) HT_ rfl rfl (Or.inl ⟨by rfl,?_⟩) ?_ ?_
 rotate_left
 ·intro w'
  go_simp
  with_reducible rfl
 rotate_left
 ·exact nf_
 refine tv_ 6 20 (v:=?_) (a':=?_) HT_ HW_ rfl rfl (Or.inl ⟨by rfl,?_⟩) hHeld ?_ ?_
 rotate_left
 ·rintro w' ⟨s0,s1,s2⟩
  go_simp
  with_reducible rfl
 rotate_left
 ·exact nf_
 refine pv_ 7 21 (v:=?_) (a':=?_) HT_ rfl rfl (Or.inl ⟨by rfl,?_⟩) ?_ ?_
 rotate_left
 ·intro w'
  go_simp
  with_reducible rfl
 rotate_left
 ·exact nf_
 refine pv_ 8 22 (v:=?_) (a':=?_) HT_ rfl rfl (Or.inl ⟨by rfl,?_⟩) ?_ ?_
 rotate_left
 ·intro w'
  go_simp
  with_reducible rfl
 rotate_left
 ·exact nf_
 refine pv_ 9 23 (v:=?_) (a':=?_) HT_ rfl rfl (Or.inl ⟨by rfl,?_⟩) ?_ ?_
 rotate_left
 ·intro w'
  go_simp
  with_reducible rfl
 rotate_left
 ·exact nf_
 refine pv_ 10 6 (v:=?_) (a':=?_) HT_ rfl rfl (Or.inl ⟨by rfl,?_⟩) ?_ ?_
 rotate_left
 ·intro w'
  go_simp
  with_reducible rfl
 rotate_left
 ·exact nf_
 refine done_ (done_of HT_.out (by kernel_rfl)) ?_
 obtain ⟨hcz9_0,hcz9_1,hcz9_2⟩:=bc3 BK102
 obtain ⟨hfz9_0,hfz9_1,hfz9_2⟩:=bz3 BK102
 go_upto_region 4 with (fail)
 go_cut [33] (fun v33 wc=>∃ (kq:Nat) (x33_2:Bool),v33 = .bool x33_2∧Aside0 (bits_form_parts_L.j0 kq (Go.bits .and .u64 a1 4503599627370495) (Go.bits .and .i64 (wrap64 (a1 / 4503599627370496)) 2047) ((Go.bits .and .u64 (a1 / 9223372036854775808) 1) == 1) x33_2=some (r1,r2,r3,r4))∧Aside0 (kq≤k)∧Aside0 (wc.heap[gb102]? = some (.cells #[.int .i64 11,.int .i64 52,.int .i64 (-1074)] 106 (0,0)))∧Aside0 (wc.heap[gb103]? = some (.cells #[.bool false,.int .i64 0,.int .i64 0,.int .u64 0] 86 (0,0)))∧Aside0 (Below w.heap.size w wc))
 case first =>
  have H:=HC3.out
  clear HC3
  by_cases c10:(Go.bits .and .i64 (wrap64 (a1 / 4503599627370496)) 2047)=2047
  ·rw [if_pos c10] at H
   have c10b0:((Go.bits .and .i64 (wrap64 (a1 / 4503599627370496)) 2047) == 2047)=true:=beq_iff_eq.mpr c10
   have c10b1:((Go.bits .and .i64 (wrap64 (a1 / 4503599627370496)) 2047) != 2047)=false:=bne_eq_false_iff_eq.mpr c10
   clear c10
   (first|rw [c10b0]|(simp only [i64_w,i32_w];rw [c10b0])|rw [c10b1]|skip)
   have H':=a_ H
   clear H
   have hnb11:=NB102_103.out
   have hnc11:=NB103_102.out
   obtain ⟨hcz12_0,hcz12_1,hcz12_2⟩:=bc3 BK102
   obtain ⟨hfz12_0,hfz12_1,hfz12_2⟩:=bz3 BK102
   go_wp2
   go_meet
   case rel=>exact ⟨_,(((Go.bits .and .u64 a1 4503599627370495) != 0)),rb_,H',⟨om_⟩,⟨bk_ BK102⟩,⟨bk_ BK103⟩,⟨bl_ HB⟩⟩
  ·rw [if_neg c10] at H
   have c10b0:((Go.bits .and .i64 (wrap64 (a1 / 4503599627370496)) 2047) == 2047)=false:=beq_eq_false_iff_ne.mpr c10
   have c10b1:((Go.bits .and .i64 (wrap64 (a1 / 4503599627370496)) 2047) != 2047)=true:=bne_iff_ne.mpr c10
   (first|rw [c10b0]|(simp only [i64_w,i32_w];rw [c10b0])|rw [c10b1]|skip)
   have H':=a_ H
   clear H
   have hnb13:=NB102_103.out
   have hnc13:=NB103_102.out
   obtain ⟨hcz14_0,hcz14_1,hcz14_2⟩:=bc3 BK102
   obtain ⟨hfz14_0,hfz14_1,hfz14_2⟩:=bz3 BK102
   go_wp2
   go_meet
   case rel=>exact ⟨_,(false),rb_,H',⟨om_⟩,⟨bk_ BK102⟩,⟨bk_ BK103⟩,⟨bl_ HB⟩⟩
 case rest =>
  clear HC3
  try clear c1
  try clear p2
  try clear c6
  try clear p6
  try clear c7
  try clear c10
  try clear c10b0
  try clear c10b1
  try clear c11
  try clear c13
  try clear hcz12_0 hcz12_1 hcz12_2
  try clear hcz14_0 hcz14_1 hcz14_2
  try clear hcz7_0 hcz7_1 hcz7_2
  try clear hcz9_0 hcz9_1 hcz9_2
  try clear hfz12_0 hfz12_1 hfz12_2
  try clear hfz14_0 hfz14_1 hfz14_2
  try clear hfz7_0 hfz7_1 hfz7_2
  try clear hfz9_0 hfz9_1 hfz9_2
  obtain ⟨kq,x33_2,rfl,HA,HJ2,BK102,BK103,HB⟩:=hcut
  cases kq with
  | zero=>exact absurd HA.out (by simp [bits_form_parts_L.j0])
  | succ kj2 =>
   have H:=HA.out
   clear HA
   simp only [bits_form_parts_L.j0] at H
   by_cases c15:x33_2=true
   ·subst c15
    have H1:(some (false,4,0,0))=some (r1,r2,r3,r4):=by rw [if_pos rfl] at H;exact H
    clear H
    have H:=H1
    clear H1
    simp only [Option.some.injEq,Prod.mk.injEq] at H
    obtain ⟨rfl,rfl,rfl,rfl⟩:=H
    have hnb16:=NB103_102.out
    have hnc16:=NB102_103.out
    obtain ⟨hcz17_0,hcz17_1,hcz17_2⟩:=bc3 BK103
    have hcz17_3:=bc_ BK103 3
    obtain ⟨hfz17_0,hfz17_1,hfz17_2⟩:=bz3 BK103
    have hfz17_3:=bz_ BK103 3
    go_wp2
    refine bodyPost_ret (results_cell_row rfl _ _ gb103 86 #[.bool false,.int .i64 4,.int .i64 0,.int .u64 0] (0,0) _ rfl (bq_ BK103) Tryd.underlying86 rfl (by kernel_rfl)) rfl ?_
    exact ⟨rf_,bl_ HB⟩
   ·replace c15:=Bool.eq_false_iff.mpr c15
    subst c15
    have H1:(if (Go.bits .and .i64 (wrap64 (a1 / 4503599627370496)) 2047)=2047 then (some (((Go.bits .and .u64 (a1 / 9223372036854775808) 1) == 1),3,0,0)) else (if (Go.bits .and .i64 (wrap64 (a1 / 4503599627370496)) 2047)>0 then (some (((Go.bits .and .u64 (a1 / 9223372036854775808) 1) == 1),2,wrap64 ((wrap64 ((-1074)+(Go.bits .and .i64 (wrap64 (a1 / 4503599627370496)) 2047))) - 1),Go.bits .or .u64 (Go.bits .and .u64 a1 4503599627370495) 4503599627370496)) else (if (Go.bits .and .u64 a1 4503599627370495)>0 then (some (((Go.bits .and .u64 (a1 / 9223372036854775808) 1) == 1),1,(-1074),(Go.bits .and .u64 a1 4503599627370495))) else (some (((Go.bits .and .u64 (a1 / 9223372036854775808) 1) == 1),0,(-1074),0)))))=some (r1,r2,r3,r4):=by rw [if_neg (show ¬ (false=true) by decide)] at H;exact H
    clear H
    have H:=H1
    clear H1
    by_cases c18:(Go.bits .and .i64 (wrap64 (a1 / 4503599627370496)) 2047)=2047
    ·rw [if_pos c18] at H
     have c18b0:((Go.bits .and .i64 (wrap64 (a1 / 4503599627370496)) 2047) == 2047)=true:=beq_iff_eq.mpr c18
     have c18b1:((Go.bits .and .i64 (wrap64 (a1 / 4503599627370496)) 2047) != 2047)=false:=bne_eq_false_iff_eq.mpr c18
     clear c18
     simp only [Option.some.injEq,Prod.mk.injEq] at H
     obtain ⟨rfl,rfl,rfl,rfl⟩:=H
     have hnb19:=NB102_103.out
     have hnc19:=NB103_102.out
     obtain ⟨hcz20_0,hcz20_1,hcz20_2⟩:=bc3 BK102
     obtain ⟨hfz20_0,hfz20_1,hfz20_2⟩:=bz3 BK102
     obtain ⟨hcz21_0,hcz21_1,hcz21_2⟩:=bc3 BK103
     have hcz21_3:=bc_ BK103 3
     obtain ⟨hfz21_0,hfz21_1,hfz21_2⟩:=bz3 BK103
     have hfz21_3:=bz_ BK103 3
     go_wp2
     refine bodyPost_ret (results_cell_row rfl _ _ gb103 86 #[.bool ((Go.bits .and .u64 (a1 / 9223372036854775808) 1) == 1),.int .i64 3,.int .i64 0,.int .u64 0] (0,0) _ rfl (bq_ BK103) Tryd.underlying86 rfl (by kernel_rfl)) rfl ?_
     exact ⟨rf_,bl_ HB⟩
    ·rw [if_neg c18] at H
     have c18b0:((Go.bits .and .i64 (wrap64 (a1 / 4503599627370496)) 2047) == 2047)=false:=beq_eq_false_iff_ne.mpr c18
     have c18b1:((Go.bits .and .i64 (wrap64 (a1 / 4503599627370496)) 2047) != 2047)=true:=bne_iff_ne.mpr c18
     by_cases c22:(Go.bits .and .i64 (wrap64 (a1 / 4503599627370496)) 2047)>0
     ·rw [if_pos c22] at H
      have c22b0:decide (0<(Go.bits .and .i64 (wrap64 (a1 / 4503599627370496)) 2047))=true:=decide_eq_true c22
      clear c22
      simp only [Option.some.injEq,Prod.mk.injEq] at H
      obtain ⟨rfl,rfl,rfl,rfl⟩:=H
      have hnb23:=NB102_103.out
      have hnc23:=NB103_102.out
      obtain ⟨hcz24_0,hcz24_1,hcz24_2⟩:=bc3 BK102
      obtain ⟨hfz24_0,hfz24_1,hfz24_2⟩:=bz3 BK102
      try go_wp2
      have n0_:=a_ (blk_drew BK102.out)
      have n1_:=a_ (blk_drew BK103.out)
      have n2_:=a_ (below_drew1 HB.out)
      clear BK102
      clear BK103
      clear HB
      have BK102:=n0_
      have BK103:=n1_
      have HB:=n2_
      clear n0_ n1_ n2_
      refine start_ (n:=13) (S:=fun w'=>w'.cell? ⟨gb102,0,none⟩=some (.int .i64 11)∧w'.cell? ⟨gb102,1,none⟩=some (.int .i64 52)∧w'.cell? ⟨gb102,2,none⟩=some (.int .i64 (-1074))) (ds:=[]) #[false,false,false,false,false,false,false,false,false,false,false,false,false] (by kernel_rfl) rfl rfl ⟨(bc_ BK102 0),(bc_ BK102 1),(bc_ BK102 2)⟩ (fun hHeld=>?_);refine with_tabW bits_form_parts_L.tab9 bits_form_parts_L.bits9 (fun HT_ HW_=>?_)
      generalize wc.drew=w25 at BK102 BK103 HB hHeld ⊢
      refine pv_ 0 57 (v:=?_) (a':=?_) HT_ rfl rfl (Or.inl ⟨by rfl,?_⟩) ?_ ?_
      rotate_left
      ·intro w'
       go_simp
       with_reducible rfl
      rotate_left
      ·exact nf_
      refine pv_ 1 58 (v:=?_) (a':=?_) HT_ rfl rfl (Or.inl ⟨by rfl,?_⟩) ?_ ?_
      rotate_left
      ·intro w'
       go_simp
       with_reducible rfl
      rotate_left
      ·exact nf_
      refine pv_ 3 60 (v:=?_) (a':=?_) HT_ rfl rfl (Or.inl ⟨by rfl,?_⟩) ?_ ?_
      rotate_left
      ·intro w'
       go_simp
       with_reducible rfl
      rotate_left
      ·exact nf_
      refine pv_ 6 63 (v:=?_) (a':=?_) HT_ rfl rfl (Or.inl ⟨by rfl,?_⟩) ?_ ?_
      rotate_left
      ·intro w'
       go_simp
       with_reducible rfl
      rotate_left
      ·exact nf_
      refine pv_ 7 64 (v:=?_) (a':=?_) HT_ rfl rfl (Or.inl ⟨by rfl,?_⟩) ?_ ?_
      rotate_left
      ·intro w'
       go_simp
       with_reducible rfl
      rotate_left
      ·exact nf_
      refine tv_ 2 59 (v:=?_) (a':=?_) HT_ HW_ rfl rfl (Or.inl ⟨by rfl,?_⟩) hHeld ?_ ?_
      rotate_left
      ·rintro w' ⟨s0,s1,s2⟩
       go_simp
       with_reducible rfl
      rotate_left
      ·exact nf_
      refine pv_ 4 61 (v:=?_) (a':=?_) HT_ rfl rfl (Or.inl ⟨by rfl,?_⟩) ?_ ?_
      rotate_left
      ·intro w'
       go_simp
       with_reducible rfl
      rotate_left
      ·exact nf_
      refine pv_ 5 62 (v:=?_) (a':=?_) HT_ rfl rfl (Or.inl ⟨by rfl,?_⟩) ?_ ?_
      rotate_left
      ·intro w'
       go_simp
       with_reducible rfl
      rotate_left
      ·exact nf_
      refine tv_ 8 65 (v:=?_) (a':=?_) HT_ HW_ rfl rfl (Or.inl ⟨by rfl,?_⟩) hHeld ?_ ?_
      rotate_left
      ·rintro w' ⟨s0,s1,s2⟩
       go_simp
       with_reducible rfl
      rotate_left
      ·exact nf_
      refine pv_ 9 66 (v:=?_) (a':=?_) HT_ rfl rfl (Or.inl ⟨by rfl,?_⟩) ?_ ?_
      rotate_left
      ·intro w'
       go_simp
       with_reducible rfl
      rotate_left
      ·exact nf_
      refine pv_ 10 67 (v:=?_) (a':=?_) HT_ rfl rfl (Or.inl ⟨by rfl,?_⟩) ?_ ?_
      rotate_left
      ·intro w'
       go_simp
       with_reducible rfl
      rotate_left
      ·exact nf_
      refine pv_ 11 68 (v:=?_) (a':=?_) HT_ rfl rfl (Or.inl ⟨by rfl,?_⟩) ?_ ?_
      rotate_left
      ·intro w'
       go_simp
       with_reducible rfl
      rotate_left
      ·exact nf_
      refine one_ (i:=12) (N:=none) #[true,true,true,true,true,true,true,true,true,true,true,true,true] rfl rfl (one_of HT_.out (by kernel_rfl)) (by decide) (fun K hK=>?_)
      have hs26:w25.cell? ⟨gb103,0,none⟩=some (.bool false):=bc_ BK103 0
      have hfs26:=bz_ BK103 0
      have hns26_0:=NB102_103.out
      have hms26_0:=NB103_102.out
      have hs27:w25.cell? ⟨gb103,1,none⟩=some (.int .i64 0):=bc_ BK103 1
      have hfs27:=bz_ BK103 1
      have hns27_0:=NB102_103.out
      have hms27_0:=NB103_102.out
      have hs28:w25.cell? ⟨gb103,2,none⟩=some (.int .i64 0):=bc_ BK103 2
      have hfs28:=bz_ BK103 2
      have hns28_0:=NB102_103.out
      have hms28_0:=NB103_102.out
      have hs29:w25.cell? ⟨gb103,3,none⟩=some (.int .u64 0):=bc_ BK103 3
      have hfs29:=bz_ BK103 3
      have hns29_0:=NB102_103.out
      have hms29_0:=NB103_102.out
      refine skip_ (w1:=?_) (by rfl) rfl ?_ ?_
      rotate_left
      ·go_simp
       rfl
      refine hK.out _ _ ⟨((cell_far (p:=⟨gb103,_,none⟩) NB102_103.out _).trans (((cell_far (p:=⟨gb103,_,none⟩) NB102_103.out _).trans (((cell_far (p:=⟨gb103,_,none⟩) NB102_103.out _).trans (((cell_far (p:=⟨gb103,_,none⟩) NB102_103.out _).trans (hHeld.1)))))))),((cell_far (p:=⟨gb103,_,none⟩) NB102_103.out _).trans (((cell_far (p:=⟨gb103,_,none⟩) NB102_103.out _).trans (((cell_far (p:=⟨gb103,_,none⟩) NB102_103.out _).trans (((cell_far (p:=⟨gb103,_,none⟩) NB102_103.out _).trans (hHeld.2.1)))))))),((cell_far (p:=⟨gb103,_,none⟩) NB102_103.out _).trans (((cell_far (p:=⟨gb103,_,none⟩) NB102_103.out _).trans (((cell_far (p:=⟨gb103,_,none⟩) NB102_103.out _).trans (((cell_far (p:=⟨gb103,_,none⟩) NB102_103.out _).trans (hHeld.2.2))))))))⟩ (fun hHeld=>?_)
      clear hK K
      refine done_ (done_of HT_.out (by kernel_rfl)) ?_
      try go_wp2
      refine bodyPost_ret (results_cell_row rfl _ _ gb103 86 #[.bool ((Go.bits .and .u64 (a1 / 9223372036854775808) 1) == 1),.int .i64 2,.int .i64 (wrap64 ((wrap64 ((-1074)+(Go.bits .and .i64 (wrap64 (a1 / 4503599627370496)) 2047))) - 1)),.int .u64 (Go.bits .or .u64 (Go.bits .and .u64 a1 4503599627370495) 4503599627370496)] (0,0) _ rfl (bq_ BK103) Tryd.underlying86 rfl (by kernel_rfl)) rfl ?_
      exact ⟨rf_,bl_ HB⟩
     ·rw [if_neg c22] at H
      have c22b0:decide (0<(Go.bits .and .i64 (wrap64 (a1 / 4503599627370496)) 2047))=false:=decide_eq_false c22
      clear c22
      by_cases c30:(Go.bits .and .u64 a1 4503599627370495)>0
      ·rw [if_pos c30] at H
       have c30b0:decide (0<(Go.bits .and .u64 a1 4503599627370495))=true:=decide_eq_true c30
       clear c30
       simp only [Option.some.injEq,Prod.mk.injEq] at H
       obtain ⟨rfl,rfl,rfl,rfl⟩:=H
       have hnb31:=NB102_103.out
       have hnc31:=NB103_102.out
       obtain ⟨hcz32_0,hcz32_1,hcz32_2⟩:=bc3 BK102
       obtain ⟨hfz32_0,hfz32_1,hfz32_2⟩:=bz3 BK102
       obtain ⟨hcz33_0,hcz33_1,hcz33_2⟩:=bc3 BK103
       have hcz33_3:=bc_ BK103 3
       obtain ⟨hfz33_0,hfz33_1,hfz33_2⟩:=bz3 BK103
       have hfz33_3:=bz_ BK103 3
       go_wp2
       refine bodyPost_ret (results_cell_row rfl _ _ gb103 86 #[.bool ((Go.bits .and .u64 (a1 / 9223372036854775808) 1) == 1),.int .i64 1,.int .i64 (-1074),.int .u64 (Go.bits .and .u64 a1 4503599627370495)] (0,0) _ rfl (bq_ BK103) Tryd.underlying86 rfl (by kernel_rfl)) rfl ?_
       exact ⟨rf_,bl_ HB⟩
      ·rw [if_neg c30] at H
       have c30b0:decide (0<(Go.bits .and .u64 a1 4503599627370495))=false:=decide_eq_false c30
       clear c30
       simp only [Option.some.injEq,Prod.mk.injEq] at H
       obtain ⟨rfl,rfl,rfl,rfl⟩:=H
       have hnb34:=NB102_103.out
       have hnc34:=NB103_102.out
       obtain ⟨hcz35_0,hcz35_1,hcz35_2⟩:=bc3 BK102
       obtain ⟨hfz35_0,hfz35_1,hfz35_2⟩:=bz3 BK102
       obtain ⟨hcz36_0,hcz36_1,hcz36_2⟩:=bc3 BK103
       have hcz36_3:=bc_ BK103 3
       obtain ⟨hfz36_0,hfz36_1,hfz36_2⟩:=bz3 BK103
       have hfz36_3:=bz_ BK103 3
       go_wp2
       refine bodyPost_ret (results_cell_row rfl _ _ gb103 86 #[.bool ((Go.bits .and .u64 (a1 / 9223372036854775808) 1) == 1),.int .i64 0,.int .i64 (-1074),.int .u64 0] (0,0) _ rfl (bq_ BK103) Tryd.underlying86 rfl (by kernel_rfl)) rfl ?_
       exact ⟨rf_,bl_ HB⟩

def bits_form_parts.f (k:Nat) (a0_0:Int) (a0_1:Int) (a0_2:Int) (a1:Int):Option (Bool × Int × Int × Int):=if a0_0=11∧a0_1=52∧a0_2=(-1074) then bits_form_parts_L.f k a1 else none
theorem bits_form_parts.calls (k:Nat) (a0_0:Int) (a0_1:Int) (a0_2:Int) (a1:Int) (r1:Bool) (r2:Int) (r3:Int) (r4:Int) (w:World) (h:bits_form_parts.f k a0_0 a0_1 a0_2 a1=some (r1,r2,r3,r4)) :
  Calls Tryd.prog 74 #[.agg #[.int .i64 a0_0,.int .i64 a0_1,.int .i64 a0_2],.int .u64 a1] w fun e w'=>e = .returned (.agg #[.bool r1,.int .i64 r2,.int .i64 r3,.int .u64 r4])∧Below w.heap.size w w':=by
 unfold bits_form_parts.f at h
 by_cases c0:a0_0=11∧a0_1=52∧a0_2=(-1074)
 ·rw [if_pos c0] at h
  obtain ⟨rfl,rfl,rfl⟩:=c0
  exact bits_form_parts_L.calls k a1 r1 r2 r3 r4 w  h
 rw [if_neg c0] at h
 exact absurd h (by simp)
def bits_Split.f (k:Nat) (a0:Nat):Option (Bool × Int × Int × Int):=(bits_long.f).bind fun bt107=>((bits_form_parts.f k bt107.1 bt107.2.1 bt107.2.2 (a0:Int)).bind fun bt110=>(some (bt110.1,bt110.2.1,bt110.2.2.1,bt110.2.2.2)))
theorem bits_Split.calls (k:Nat) (a0:Nat) (r1:Bool) (r2:Int) (r3:Int) (r4:Int) (w:World) (h:bits_Split.f k a0=some (r1,r2,r3,r4)) :
  Calls Tryd.prog 55 #[.float .f64 a0] w fun e w'=>e = .returned (.agg #[.bool r1,.int .i64 r2,.int .i64 r3,.int .u64 r4])∧Below w.heap.size w w':=by
 have hu86:=Tryd.underlying86
 have HB:=a_ (Below.refl w.heap.size w)
 have H:=h
 unfold bits_Split.f at H
 clear h
 obtain ⟨⟨t107,t108,t109⟩,A2,H⟩:=ob_ H
 try dsimp only at H
 obtain ⟨⟨t110,t111,t112,t113⟩,A3,H⟩:=ob_ H
 try dsimp only at H
 simp only [Option.some.injEq,Prod.mk.injEq] at H
 obtain ⟨rfl,rfl,rfl,rfl⟩:=H
 go_enter Tryd.func55,Tryd.ntmps55
 go_wp2_with (first|(refine be_ HB (N:=2) (cs:=#[.bool false,.int .i64 0,.int .i64 0,.int .u64 0]) (t:=86) ?_;clear HB;intro gb106 hg w4 hb BK106 GE106 HB;clear hb hg)|(refine goesM (some 3) Tryd.func73 #[] ?_;(with_reducible refine (bits_long.calls  t107 t108 t109 _ A2.out).mono ?_);rintro e w5 ⟨rfl,hb⟩;refine ⟨_,rfl,?_⟩;replace BK106:=kb_ BK106 hb;replace HB:=bs_ HB hb;(try clear hb))|(refine goesM (some 6) Tryd.func74 #[.agg #[.int .i64 t107,.int .i64 t108,.int .i64 t109],.int .u64 (a0:Int)] ?_;(with_reducible refine (bits_form_parts.calls k t107 t108 t109 (a0:Int) t110 t111 t112 t113 _ A3.out).mono ?_);rintro e w6 ⟨rfl,hb⟩;refine ⟨_,rfl,?_⟩;replace BK106:=kb_ BK106 hb;replace HB:=bs_ HB hb;(try clear hb);obtain ⟨hcz7_0,hcz7_1,hcz7_2⟩:=bc3 BK106;have hcz7_3:=bc_ BK106 3;obtain ⟨hfz7_0,hfz7_1,hfz7_2⟩:=bz3 BK106;have hfz7_3:=bz_ BK106 3))
 refine bodyPost_ret (results_cell_row rfl _ _ gb106 86 #[.bool t110,.int .i64 t111,.int .i64 t112,.int .u64 t113] (0,0) _ rfl (bq_ BK106) Tryd.underlying86 rfl (by kernel_rfl)) rfl ?_
 exact ⟨rf_,bl_ HB⟩

def wide_Norm.l0:Nat→List Int→Int→Option (List Int)
 | 0,_,_=>none
 | k+1,x0,x3=>if x3>0 then (if 0≤(wrap64 (x3 - 1)) then (if (wrap64 (x3 - 1))<(x0.length:Int) then (if (rd x0 (wrap64 (x3 - 1)))=0 then (wide_Norm.l0 k x0 (wrap64 (x3 - 1))) else (if 0≤x3 then (if (x3:Int).toNat≤70368744177664 then (some (cpy (List.replicate (x3:Int).toNat 0) x0)) else (none)) else (none))) else (none)) else (none)) else (if 0≤x3 then (if (x3:Int).toNat≤70368744177664 then (some (cpy (List.replicate (x3:Int).toNat 0) x0)) else (none)) else (none))
def wide_Norm.f (k:Nat) (l0:List Int):Option (List Int):=wide_Norm.l0 k l0 (l0.length:Int)
theorem wide_Norm.calls (k:Nat) (A0:Option Addr) (c0:Nat) (l0:List Int) (r:List Int) (w:World) (hr0:Kd.C (Kd.int .u32) w A0 l0.length l0) (hc0:l0.length≤c0) (h:wide_Norm.f k l0=some r) :
  Calls Tryd.prog 75 #[.slice A0 l0.length c0] w fun e w'=>∃ v0_:Value,e = .returned (v0_)∧Kd.R (Kd.int .u32) 68 w' w.heap.size (fun _=>True) v0_ r∧Below w.heap.size w w':=by
 have HR0:=a_ hr0
 have HC0:=a_ hc0
 clear hr0 hc0
 have HB:=a_ (Below.refl w.heap.size w)
 have H:=h
 unfold wide_Norm.f at H
 clear h
 have H':=a_ H
 clear H
 go_enter Tryd.func75,Tryd.ntmps75
 go_wp2
 go_loopg [3] k (fun kq v3 w'=>∃ (x3_1:Int),v3 = .int .i64 x3_1∧Aside0 (wide_Norm.l0 kq l0 x3_1=some r)∧Aside0 (kq≤k)∧Aside0 (Below w.heap.size w w'))
 case atStart=>exact ⟨((l0.length:Int)),rb_,H',⟨Nat.le_refl _⟩,⟨bl_ HB⟩⟩
 case round =>
  clear H'
  obtain ⟨x3_1,rfl,HA,HK1,HB⟩:=hrel
  cases gk with
  | zero=>exact absurd HA.out (by simp [wide_Norm.l0])
  | succ k1 =>
   have H:=HA.out
   clear HA
   simp only [wide_Norm.l0] at H
   by_cases c2:x3_1>0
   ·rw [if_pos c2] at H
    have c2b0:decide (0<x3_1)=true:=decide_eq_true c2
    clear c2
    obtain ⟨ji3,hji3⟩:∃ j_:Int,(wrap64 (x3_1 - 1))=j_:=⟨_,rfl⟩
    replace H:(if 0≤(ji3) then (if (ji3)<(l0.length:Int) then (if (rd l0 (ji3))=0 then (wide_Norm.l0 k1 l0 ji3) else (if 0≤x3_1 then (if (x3_1:Int).toNat≤70368744177664 then (some (cpy (List.replicate (x3_1:Int).toNat 0) l0)) else (none)) else (none))) else (none)) else (none))=some r:=by first|(rw [hji3] at H;exact H)|(simp only [hji3] at H ⊢;exact H)
    have hji3w:(IntKind.i64.wrap (x3_1 - 1))=ji3:=(i64_w _).trans hji3
    by_cases c4:0≤(ji3)
    ·rw [if_pos c4] at H
     have c4b0:decide (0≤(ji3))=true:=decide_eq_true c4
     clear c4
     by_cases c5:(ji3)<(l0.length:Int)
     ·rw [if_pos c5] at H
      have c5b0:decide ((ji3)<(l0.length:Int))=true:=decide_eq_true c5
      clear c5
      by_cases c6:(rd l0 (ji3))=0
      ·rw [if_pos c6] at H
       have c6b0:((rd l0 (ji3)) == 0)=true:=beq_iff_eq.mpr c6
       have c6b1:((rd l0 (ji3)) != 0)=false:=bne_eq_false_iff_eq.mpr c6
       clear c6
       have H':=a_ H
       clear H
       have p114:0≤((ji3):Int):=od_
       have q114:(ji3)<(l0.length:Int):=od_
       obtain ⟨ad114,e114,hx114_0⟩:=Kd.at_int HR0.out (ji3) p114 q114
       cases e114
       replace hx114_0:=(HB.out.cell (World.block_lt_of_cell? w _ hx114_0)).trans hx114_0
       replace p114:=eq_true p114
       replace q114:=eq_true q114
       go_wp2
       go_roundg k1
       case measure=>have:=HK1.out;omega
       case rel=>exact ⟨(ji3),(by first|rfl|(simp;done)|(simp only [← hji3] <;> (first|rfl|simp))|(simp [*];done)),H',⟨by have:=HK1.out;omega⟩,⟨bl_ HB⟩⟩
      ·rw [if_neg c6] at H
       have c6b0:((rd l0 (ji3)) == 0)=false:=beq_eq_false_iff_ne.mpr c6
       have c6b1:((rd l0 (ji3)) != 0)=true:=bne_iff_ne.mpr c6
       by_cases c7:0≤x3_1
       ·rw [if_pos c7] at H
        have c7b0:=eq_true c7
        have c7b1:decide (0≤x3_1)=true:=decide_eq_true c7
        clear c7
        by_cases c8:(x3_1:Int).toNat≤70368744177664
        ·rw [if_pos c8] at H
         have c8b0:=eq_true c8
         have c8b1:decide ((x3_1:Int).toNat≤70368744177664)=true:=decide_eq_true c8
         clear c8
         obtain ⟨y115,hy115⟩:∃ y_:List Int,y_=(List.replicate (x3_1:Int).toNat 0):=⟨_,rfl⟩
         replace H:(some (cpy y115 l0))=some r:=by first|(rw [hy115];first|exact t1_ H|exact t2_ H)|exact t2_ H|exact t1_ H|(rw [hy115];exact H)|exact H
         have Ny115:=a_ hy115
         clear hy115
         obtain ⟨y118,hy118⟩:∃ y_:List Int,y_=(cpy y115 l0):=⟨_,rfl⟩
         replace H:(some y118)=some r:=by first|(rw [hy118];first|exact t1_ H|exact t2_ H)|exact t2_ H|exact t1_ H|(rw [hy118];exact H)|exact H
         have Ny118:=a_ hy118
         clear hy118
         obtain rfl:=Option.some.inj H
         have p114:0≤((ji3):Int):=od_
         have q114:(ji3)<(l0.length:Int):=od_
         obtain ⟨ad114,e114,hx114_0⟩:=Kd.at_int HR0.out (ji3) p114 q114
         cases e114
         replace hx114_0:=(HB.out.cell (World.block_lt_of_cell? w _ hx114_0)).trans hx114_0
         replace p114:=eq_true p114
         replace q114:=eq_true q114
         go_wp2_with (first|((with_reducible refine gate_dst (N:=20) rfl ?_);refine Kd.R_make (Kd.int .u32) _ 68 rfl (N:=20) rfl 28 _ _ rfl x3_1 rfl rfl Tryd.underlying28 (.int .u32 0) 4 info68 rfl (by decide) (by omega) 0 (ok:=fun _=>True) (okp:=fun _=>True) rfl (fun _ hk=>hk) trivial od_ (Nat.le_trans (Nat.mul_le_mul_right _ (od_:x3_1.toNat≤70368744177664)) (by omega)) (Below.refl _ _) (Nat.le_refl _) ?_;intro v116 w9 ho10 hb hg_ hnew_;clear hg_ hnew_;(first|rw [← Ny115.out] at ho10|(simp only [Int.reduceToNat] at ho10;rw [← Ny115.out] at ho10));have HO117:=a_ (Kd.R_lower ho10 (below_size (bl_ HB)));replace HB:=bs_ HB hb;clear hb ho10)|((with_reducible refine gate_builtin (b:=.copy) (xs:=#[.tmp 21,.tmp 22]) rfl ?_);refine R_cpy (enc:=(Value.int .u32)) (h1:=fun _=>rfl) 0 (w0:=w) w.heap.size rfl (.tmp 21) (.tmp 22) 28 28 68 rfl Tryd.underlying28 (by kernel_rfl) v116 y115 l0 _ _ _ (fun _=>True) rfl rfl ?aO ?aR ?aB ?aS ?_;(case aR=>repeat (first|exact (Kd.C_below HR0.out HB.out)|(with_reducible first|apply cA|apply cN|apply cD)));(case aB=>exact (bl_ HB));(case aO=>exact (rr_ HO117));(case aS=>exact (below_size (bl_ HB)));intro w11 ho hb hg hat;rw [← Ny118.out] at ho;replace HB:=a_ hb;have HO120:=a_ ho;clear ho hb hg hat))
         go_ret
         exact ⟨_,by first|exact rf_|(simp only [← hji3];exact rf_),rr_ HO120,bl_ HB⟩
        ·rw [if_neg c8] at H
         exact ab_ H
       ·rw [if_neg c7] at H
        exact ab_ H
     ·rw [if_neg c5] at H
      exact ab_ H
    ·rw [if_neg c4] at H
     exact ab_ H
   ·rw [if_neg c2] at H
    have c2b0:decide (0<x3_1)=false:=decide_eq_false c2
    clear c2
    by_cases c12:0≤x3_1
    ·rw [if_pos c12] at H
     have c12b0:=eq_true c12
     have c12b1:decide (0≤x3_1)=true:=decide_eq_true c12
     clear c12
     by_cases c13:(x3_1:Int).toNat≤70368744177664
     ·rw [if_pos c13] at H
      have c13b0:=eq_true c13
      have c13b1:decide ((x3_1:Int).toNat≤70368744177664)=true:=decide_eq_true c13
      clear c13
      obtain ⟨y121,hy121⟩:∃ y_:List Int,y_=(List.replicate (x3_1:Int).toNat 0):=⟨_,rfl⟩
      replace H:(some (cpy y121 l0))=some r:=by first|(rw [hy121];first|exact t1_ H|exact t2_ H)|exact t2_ H|exact t1_ H|(rw [hy121];exact H)|exact H
      have Ny121:=a_ hy121
      clear hy121
      obtain ⟨y124,hy124⟩:∃ y_:List Int,y_=(cpy y121 l0):=⟨_,rfl⟩
      replace H:(some y124)=some r:=by first|(rw [hy124];first|exact t1_ H|exact t2_ H)|exact t2_ H|exact t1_ H|(rw [hy124];exact H)|exact H
      have Ny124:=a_ hy124
      clear hy124
      obtain rfl:=Option.some.inj H
      go_wp2_with (first|((with_reducible refine gate_dst (N:=20) rfl ?_);refine Kd.R_make (Kd.int .u32) _ 68 rfl (N:=20) rfl 28 _ _ rfl x3_1 rfl rfl Tryd.underlying28 (.int .u32 0) 4 info68 rfl (by decide) (by omega) 0 (ok:=fun _=>True) (okp:=fun _=>True) rfl (fun _ hk=>hk) trivial od_ (Nat.le_trans (Nat.mul_le_mul_right _ (od_:x3_1.toNat≤70368744177664)) (by omega)) (Below.refl _ _) (Nat.le_refl _) ?_;intro v122 w14 ho15 hb hg_ hnew_;clear hg_ hnew_;(first|rw [← Ny121.out] at ho15|(simp only [Int.reduceToNat] at ho15;rw [← Ny121.out] at ho15));have HO123:=a_ (Kd.R_lower ho15 (below_size (bl_ HB)));replace HB:=bs_ HB hb;clear hb ho15)|((with_reducible refine gate_builtin (b:=.copy) (xs:=#[.tmp 21,.tmp 22]) rfl ?_);refine R_cpy (enc:=(Value.int .u32)) (h1:=fun _=>rfl) 0 (w0:=w) w.heap.size rfl (.tmp 21) (.tmp 22) 28 28 68 rfl Tryd.underlying28 (by kernel_rfl) v122 y121 l0 _ _ _ (fun _=>True) rfl rfl ?aO ?aR ?aB ?aS ?_;(case aR=>repeat (first|exact (Kd.C_below HR0.out HB.out)|(with_reducible first|apply cA|apply cN|apply cD)));(case aB=>exact (bl_ HB));(case aO=>exact (rr_ HO123));(case aS=>exact (below_size (bl_ HB)));intro w16 ho hb hg hat;rw [← Ny124.out] at ho;replace HB:=a_ hb;have HO126:=a_ ho;clear ho hb hg hat))
      go_ret
      exact ⟨_,rf_,rr_ HO126,bl_ HB⟩
     ·rw [if_neg c13] at H
      exact ab_ H
    ·rw [if_neg c12] at H
     exact ab_ H

def bits_TrailingZeros32.f (a0:Int):Option (Int):=if 0≤a0∧a0<4294967296 then some (Lib.ctz 32 a0.toNat:Int) else none
theorem tz32_and (a b:Nat) (ha:a<4294967296) (hb:b<4294967296):Go.bits .and .u32 (a:Int) (b:Int)=((a &&& b:Nat):Int):=by
 have hx:a &&& b<2^32:=Nat.and_lt_two_pow _ (by omega)
 have h1:(BitVec.ofInt 32 (a:Int)).toNat=a:=by
  rw [BitVec.ofInt_natCast,BitVec.toNat_ofNat];exact Nat.mod_eq_of_lt (by omega)
 have h2:(BitVec.ofInt 32 (b:Int)).toNat=b:=by
  rw [BitVec.ofInt_natCast,BitVec.toNat_ofNat];exact Nat.mod_eq_of_lt (by omega)
 show IntKind.u32.wrap ((BitVec.ofInt 32 (a:Int) &&& BitVec.ofInt 32 (b:Int)).toNat:Int)=_
 rw [BitVec.toNat_and,h1,h2,show IntKind.u32.wrap=fun n=>n%4294967296 from funext fun n=>by simp [IntKind.wrap,IntKind.signed,IntKind.bits]]
 dsimp only
 omega
theorem tz32_key (x a:Nat) (hx:x<4294967296) (hx0:x≠0) (hlow:x &&& (4294967296 - x)=a) :
  Go.bits BinOp.and IntKind.u32 (x:Int) (-(x:Int)%4294967296)*125613361%4294967296 / 134217728=((a*125613361%4294967296 / 134217728:Nat):Int):=by
 have e1 : -(x:Int)%4294967296=((4294967296 - x:Nat):Int):=by omega
 rw [e1,tz32_and x _ hx (by omega),hlow]
 omega
set_option maxHeartbeats 1000000 in
theorem tz32_core (x k idx:Nat) (w:World) (hx0:((x:Int) == 0)=false)
  (key:Go.bits BinOp.and IntKind.u32 (x:Int) (-(x:Int)%4294967296)*125613361%4294967296 / 134217728=(idx:Int))
  (hi:idx<32) (hk:k<32) (hcell:w.cell? ⟨1,idx,none⟩=some (.int .u8 k)) :
  Calls Tryd.prog 101 #[.int .u32 x] w fun e w'=>e = .returned (.int .i64 k)∧w'=w:=by
 go_enter Tryd.func101,Tryd.ntmps101
 go_wp2_with (simp only [key])
 go_ret
 exact ⟨rfl,rfl⟩
theorem tz32_zero (w:World):Calls Tryd.prog 101 #[.int .u32 0] w fun e w'=>e = .returned (.int .i64 32)∧w'=w:=by
 go_enter Tryd.func101,Tryd.ntmps101
 go_wp2
 go_ret
 exact ⟨rfl,rfl⟩
theorem bits_TrailingZeros32.calls (a0:Int) (r:Int) (w:World) (hG:GlobLaid w) (h:bits_TrailingZeros32.f a0=some r) :
  Calls Tryd.prog 101 #[.int .u32 a0] w fun e w'=>e = .returned (.int .i64 r)∧Drawn0 w w':=by
 unfold bits_TrailingZeros32.f at h
 by_cases hb:0≤a0∧a0<4294967296
 ·rw [if_pos hb] at h
  obtain rfl:=Option.some.inj h
  obtain ⟨x,rfl⟩:∃ x:Nat,a0=x:=⟨a0.toNat,by omega⟩
  have hx:x<4294967296:=by omega
  rw [Int.toNat_natCast]
  by_cases hx0:x=0
  ·subst hx0
   refine (tz32_zero w).mono ?_
   rintro e w' ⟨rfl,rfl⟩
   exact ⟨rfl,Drawn0.refl _⟩
  ·obtain ⟨hlow,hk⟩:=Lib.lowest_bit 32 x hx0 hx
   obtain ⟨hi,htab⟩:=Lib.deBruijn32_at _ hk
   have hcell:=hG _ hi
   rw [htab] at hcell
   refine (tz32_core x _ _ w (by simp;omega) (tz32_key x _ hx hx0 hlow) hi hk hcell).mono ?_
   rintro e w' ⟨rfl,rfl⟩
   exact ⟨rfl,Drawn0.refl _⟩
 ·rw [if_neg hb] at h;cases h
def wide_Low.l0:Nat→List Int→Int→Int→Option (Int)
 | 0,_,_,_=>none
 | k+1,x5,x6,x7=>if x7<x6 then (if 0≤x7 then (if x7<(x5.length:Int) then (if (rd x5 x7)=0 then (wide_Low.l0 k x5 x6 (wrap64 (x7+1))) else ((bits_TrailingZeros32.f (rd x5 x7)).bind fun t128=>(some (wrap64 ((wrap64 (32*x7))+t128))))) else (none)) else (none)) else (some 0)
def wide_Low.f (k:Nat) (l0:List Int):Option (Int):=wide_Low.l0 k l0 (l0.length:Int) 0
theorem wide_Low.calls (k:Nat) (A0:Option Addr) (c0:Nat) (l0:List Int) (r:Int) (w:World) (hG:GlobLaid w) (hr0:Kd.C (Kd.int .u32) w A0 l0.length l0) (hc0:l0.length≤c0) (h:wide_Low.f k l0=some r) :
  Calls Tryd.prog 76 #[.slice A0 l0.length c0] w fun e w'=>e = .returned (.int .i64 r)∧Below w.heap.size w w':=by
 have HG:=a_ hG
 clear hG
 have HR0:=a_ hr0
 have HC0:=a_ hc0
 clear hr0 hc0
 have HB:=a_ (Below.refl w.heap.size w)
 have H:=h
 unfold wide_Low.f at H
 clear h
 have H':=a_ H
 clear H
 go_enter Tryd.func76,Tryd.ntmps76
 go_wp2
 go_loopg [7] k (fun kq v7 w'=>∃ (x7_1:Int),v7 = .int .i64 x7_1∧Aside0 (wide_Low.l0 kq l0 (l0.length:Int) x7_1=some r)∧Aside0 (kq≤k)∧Aside0 (Below w.heap.size w w'))
 case atStart=>exact ⟨(0),rb_,H',⟨Nat.le_refl _⟩,⟨bl_ HB⟩⟩
 case round =>
  clear H'
  obtain ⟨x7_1,rfl,HA,HK1,HB⟩:=hrel
  cases gk with
  | zero=>exact absurd HA.out (by simp [wide_Low.l0])
  | succ k1 =>
   have H:=HA.out
   clear HA
   simp only [wide_Low.l0] at H
   by_cases c2:x7_1<(l0.length:Int)
   ·rw [if_pos c2] at H
    have c2b0:decide (x7_1<(l0.length:Int))=true:=decide_eq_true c2
    clear c2
    by_cases c3:0≤x7_1
    ·rw [if_pos c3] at H
     have c3b0:decide (0≤x7_1)=true:=decide_eq_true c3
     clear c3
     by_cases c4:x7_1<(l0.length:Int)
     ·rw [if_pos c4] at H
      have c4b0:decide (x7_1<(l0.length:Int))=true:=decide_eq_true c4
      clear c4
      by_cases c5:(rd l0 x7_1)=0
      ·rw [if_pos c5] at H
       have c5b0:((rd l0 x7_1) == 0)=true:=beq_iff_eq.mpr c5
       have c5b1:((rd l0 x7_1) != 0)=false:=bne_eq_false_iff_eq.mpr c5
       clear c5
       have H':=a_ H
       clear H
       have p127:0≤(x7_1:Int):=od_
       have q127:x7_1<(l0.length:Int):=od_
       obtain ⟨ad127,e127,hx127_0⟩:=Kd.at_int HR0.out x7_1 p127 q127
       cases e127
       replace hx127_0:=(HB.out.cell (World.block_lt_of_cell? w _ hx127_0)).trans hx127_0
       replace p127:=eq_true p127
       replace q127:=eq_true q127
       go_wp2
       go_roundg k1
       case measure=>have:=HK1.out;omega
       case rel=>exact ⟨(wrap64 (x7_1+1)),rb_,H',⟨by have:=HK1.out;omega⟩,⟨bl_ HB⟩⟩
      ·rw [if_neg c5] at H
       have c5b0:((rd l0 x7_1) == 0)=false:=beq_eq_false_iff_ne.mpr c5
       have c5b1:((rd l0 x7_1) != 0)=true:=bne_iff_ne.mpr c5
       obtain ⟨t128,A6,H⟩:=ob_ H
       try dsimp only at H
       obtain rfl:=Option.some.inj H
       have p127:0≤(x7_1:Int):=od_
       have q127:x7_1<(l0.length:Int):=od_
       obtain ⟨ad127,e127,hx127_0⟩:=Kd.at_int HR0.out x7_1 p127 q127
       cases e127
       replace hx127_0:=(HB.out.cell (World.block_lt_of_cell? w _ hx127_0)).trans hx127_0
       replace p127:=eq_true p127
       replace q127:=eq_true q127
       go_wp2_with (first|(refine goesM (some 17) Tryd.func101 #[.int .u32 (rd l0 x7_1)] ?_;(with_reducible refine (bits_TrailingZeros32.calls (rd l0 x7_1) t128 _ ?side1 A6.out).mono ?_);(case side1=>exact GlobLaid.below HG.out (bl_ HB));rintro e w' ⟨rfl,⟨nd,rfl⟩⟩;refine ⟨_,rfl,?_⟩))
       go_ret
       exact ⟨rf_,bl_ HB⟩
     ·rw [if_neg c4] at H
      exact ab_ H
    ·rw [if_neg c3] at H
     exact ab_ H
   ·rw [if_neg c2] at H
    have c2b0:decide (x7_1<(l0.length:Int))=false:=decide_eq_false c2
    clear c2
    obtain rfl:=Option.some.inj H
    go_wp2
    go_ret
    exact ⟨rf_,bl_ HB⟩
def dyad_lower.l0:Nat→List Int→Int→List Int→List Int→Int→Int→Option (List Int)
 | 0,_,_,_,_,_,_=>none
 | k+1,x0,x1,x5,x12,x13,x14=>if x14<x13 then (if 0≤x14 then (if x14<(x12.length:Int) then (if 0≤x1 then (if x14<(x5.length:Int) then ((some (x5.set (x14:Int).toNat (shr .u32 (rd x12 x14) x1):List Int)).bind fun y133=>(if x1>0 then (if (wrap64 (x14+1))<(x0.length:Int) then (if 0≤(wrap64 (x14+1)) then (if 0≤(wrap64 (32 - x1)) then (dyad_lower.l0 k x0 x1 (y133.set (x14:Int).toNat (Go.bits .or .u32 (rd y133 x14) (shl .u32 (rd x0 (wrap64 (x14+1))) (wrap64 (32 - x1))))) x12 x13 (wrap64 (x14+1))) else (none)) else (none)) else (dyad_lower.l0 k x0 x1 y133 x12 x13 (wrap64 (x14+1)))) else (dyad_lower.l0 k x0 x1 y133 x12 x13 (wrap64 (x14+1))))) else (none)) else (none)) else (none)) else (none)) else (if 0≤(wrap64 ((x5.length:Int) - 1)) then (if (wrap64 ((x5.length:Int) - 1))<(x5.length:Int) then (if (rd x5 (wrap64 ((x5.length:Int) - 1)))=0 then (if (wrap64 ((x5.length:Int) - 1))≤(x5.length:Int) then (some (x5.take ((wrap64 ((x5.length:Int) - 1)):Int).toNat)) else (none)) else (some x5)) else (none)) else (none))
def dyad_lower.f (k:Nat) (l0:List Int) (a1:Int):Option (List Int):=if 0≤(l0.length:Int) then (if ((l0.length:Int):Int).toNat≤70368744177664 then (dyad_lower.l0 k l0 a1 (List.replicate ((l0.length:Int):Int).toNat 0) l0 (l0.length:Int) 0) else (none)) else (none)
def dyad_lower.T7:Bool × List (List Nat × List Nat):=(true,[([],[]),([],[]),([0,1],[0,1]),([2],[2]),([],[]),([],[]),([5],[5]),([4,6],[4,6]),([7],[7]),([],[]),([9],[9]),([8,10],[8,10]),([3,11],[3,11]),([0,1,0,1,2,3,4,5,6,7,8,9,10,11,12],[0,1]),([13,12,0,1,2,3,4,5,6,7,8,9,10,11,12],[12,13])])
def dyad_lower.B7:List Nat:=[0,0,3,7,0,0,32,112,240,0,512,2032,4095,8191,16383]
theorem dyad_lower.tab7:rtab .any (opsOf Tryd.f77 7)=dyad_lower.T7:=by kernel_rfl
theorem dyad_lower.bits7:waitsOk dyad_lower.T7.2 dyad_lower.B7=true:=by kernel_rfl
theorem dyad_lower.calls (k:Nat) (A0:Option Addr) (c0:Nat) (l0:List Int) (a1:Int) (r:List Int) (w:World) (hr0:Kd.C (Kd.int .u32) w A0 l0.length l0) (hc0:l0.length≤c0) (h:dyad_lower.f k l0 a1=some r) :
  Calls Tryd.prog 77 #[.slice A0 l0.length c0,.int .i64 a1] w fun e w'=>∃ v0_:Value,e = .returned (v0_)∧Kd.Q (Kd.int .u32) 68 w' w.heap.size (fun _=>True) v0_ r∧Below w.heap.size w w':=by
 have HR0:=a_ hr0
 have HC0:=a_ hc0
 clear hr0 hc0
 have HB:=a_ (Below.refl w.heap.size w)
 have H:=h
 unfold dyad_lower.f at H
 clear h
 by_cases c3:0≤(l0.length:Int)
 ·rw [if_pos c3] at H
  have c3b0:=eq_true c3
  have c3b1:decide (0≤(l0.length:Int))=true:=decide_eq_true c3
  clear c3
  by_cases c4:((l0.length:Int):Int).toNat≤70368744177664
  ·rw [if_pos c4] at H
   have c4b0:=eq_true c4
   have c4b1:decide (((l0.length:Int):Int).toNat≤70368744177664)=true:=decide_eq_true c4
   clear c4
   obtain ⟨y129,hy129⟩:∃ y_:List Int,y_=(List.replicate ((l0.length:Int):Int).toNat 0):=⟨_,rfl⟩
   replace H:(dyad_lower.l0 k l0 a1 y129 l0 (l0.length:Int) 0)=some r:=by first|(rw [hy129];first|exact t1_ H|exact t2_ H)|exact t2_ H|exact t1_ H|(rw [hy129];exact H)|exact H
   have Ny129:=a_ hy129
   clear hy129
   have H':=a_ H
   clear H
   go_enter Tryd.func77,Tryd.ntmps77
   go_wp2_with (first|((with_reducible refine gate_dst (N:=11) rfl ?_);(try (refine gate_guard (by rfl) ?_;dsimp only));refine Kd.R_make (Kd.int .u32) _ 68 rfl (N:=11) rfl 28 _ _ rfl (l0.length:Int) rfl rfl Tryd.underlying28 (.int .u32 0) 4 info68 rfl (by decide) (by omega) 0 (ok:=fun _=>True) (okp:=fun _=>True) rfl (fun _ hk=>hk) trivial od_ (Nat.le_trans (Nat.mul_le_mul_right _ (od_:(l0.length:Int).toNat≤70368744177664)) (by omega)) (Below.refl _ _) (Nat.le_refl _) ?_;intro v130 w5 ho6 hb hg_ hnew_;clear hg_ hnew_;(first|rw [← Ny129.out] at ho6|(simp only [Int.reduceToNat] at ho6;rw [← Ny129.out] at ho6));have HO131:=a_ (Kd.R_lower ho6 (below_size (bl_ HB)));replace HB:=bs_ HB hb;clear hb ho6))
   go_loopg [14] k (fun kq v14 w'=>∃ (x5_1:List Int) (x14_1:Int),v14 = .int .i64 x14_1∧Aside0 (dyad_lower.l0 kq l0 a1 x5_1 l0 (l0.length:Int) x14_1=some r)∧Aside0 (kq≤k)∧Aside0 (Kd.R (Kd.int .u32) 68 w' w.heap.size (fun _=>True) v130 x5_1)∧Aside0 (Below w.heap.size w w'))
   case atStart=>exact ⟨(y129),(0),rb_,H',⟨Nat.le_refl _⟩,⟨rr_ HO131⟩,⟨bl_ HB⟩⟩
   case round =>
    clear H'
    try clear p2
    try clear c3
    try clear c3b0
    try clear c3b1
    try clear c4
    try clear c4b0
    try clear c4b1
    obtain ⟨x5_1,x14_1,rfl,HA,HK1,HO_5,HB⟩:=hrel
    cases gk with
    | zero=>exact absurd HA.out (by simp [dyad_lower.l0])
    | succ k1 =>
     have H:=HA.out
     clear HA
     simp only [dyad_lower.l0] at H
     by_cases c7:x14_1<(l0.length:Int)
     ·rw [if_pos c7] at H
      have c7b0:decide (x14_1<(l0.length:Int))=true:=decide_eq_true c7
      clear c7
      by_cases c8:0≤x14_1
      ·rw [if_pos c8] at H
       have c8b0:decide (0≤x14_1)=true:=decide_eq_true c8
       clear c8
       by_cases c9:x14_1<(l0.length:Int)
       ·rw [if_pos c9] at H
        have c9b0:decide (x14_1<(l0.length:Int))=true:=decide_eq_true c9
        clear c9
        by_cases c10:0≤a1
        ·rw [if_pos c10] at H
         have c10b0:=eq_true c10
         have c10b1:decide (0≤a1)=true:=decide_eq_true c10
         clear c10
         obtain ⟨ji11,hji11⟩:∃ j_:Int,(shr .u32 (rd l0 x14_1) a1)=j_:=⟨_,rfl⟩
         replace H:(if x14_1<(x5_1.length:Int) then ((some (x5_1.set (x14_1:Int).toNat (ji11):List Int)).bind fun y133=>(if a1>0 then (if (wrap64 (x14_1+1))<(l0.length:Int) then (if 0≤(wrap64 (x14_1+1)) then (if 0≤(wrap64 (32 - a1)) then (dyad_lower.l0 k1 l0 a1 (y133.set (x14_1:Int).toNat (Go.bits .or .u32 (rd y133 x14_1) (shl .u32 (rd l0 (wrap64 (x14_1+1))) (wrap64 (32 - a1))))) l0 (l0.length:Int) (wrap64 (x14_1+1))) else (none)) else (none)) else (dyad_lower.l0 k1 l0 a1 y133 l0 (l0.length:Int) (wrap64 (x14_1+1)))) else (dyad_lower.l0 k1 l0 a1 y133 l0 (l0.length:Int) (wrap64 (x14_1+1))))) else (none))=some r:=by first|(rw [hji11] at H;exact H)|(simp only [hji11] at H ⊢;exact H)
         have hji11_:((rd l0 x14_1) / 2^min a1.toNat 32)=ji11:=hji11
         have hji11z:a1≤32→((rd l0 x14_1) / 2^a1.toNat)=ji11:=shr_small hji11
         by_cases c12:x14_1<(x5_1.length:Int)
         ·rw [if_pos c12] at H
          have c12b0:decide (x14_1<(x5_1.length:Int))=true:=decide_eq_true c12
          clear c12
          obtain ⟨y133,hy133⟩:∃ y_:List Int,y_=(x5_1.set (x14_1:Int).toNat (ji11)):=⟨_,rfl⟩
          replace H:(if a1>0 then (if (wrap64 (x14_1+1))<(l0.length:Int) then (if 0≤(wrap64 (x14_1+1)) then (if 0≤(wrap64 (32 - a1)) then (dyad_lower.l0 k1 l0 a1 (y133.set (x14_1:Int).toNat (Go.bits .or .u32 (rd y133 x14_1) (shl .u32 (rd l0 (wrap64 (x14_1+1))) (wrap64 (32 - a1))))) l0 (l0.length:Int) (wrap64 (x14_1+1))) else (none)) else (none)) else (dyad_lower.l0 k1 l0 a1 y133 l0 (l0.length:Int) (wrap64 (x14_1+1)))) else (dyad_lower.l0 k1 l0 a1 y133 l0 (l0.length:Int) (wrap64 (x14_1+1))))=some r:=by first|(rw [hy133];first|exact t1_ H|exact t2_ H)|exact t2_ H|exact t1_ H|(rw [hy133];exact H)|exact H
          have Ny133:=a_ hy133
          clear hy133
          by_cases c14:a1>0
          ·rw [if_pos c14] at H
           have c14b0:decide (0<a1)=true:=decide_eq_true c14
           clear c14
           by_cases c15:(wrap64 (x14_1+1))<(l0.length:Int)
           ·rw [if_pos c15] at H
            have c15b0:decide ((wrap64 (x14_1+1))<(l0.length:Int))=true:=decide_eq_true c15
            clear c15
            obtain ⟨ji16,hji16⟩:∃ j_:Int,(wrap64 (x14_1+1))=j_:=⟨_,rfl⟩
            replace H:(if 0≤(ji16) then (if 0≤(wrap64 (32 - a1)) then (dyad_lower.l0 k1 l0 a1 (y133.set (x14_1:Int).toNat (Go.bits .or .u32 (rd y133 x14_1) (shl .u32 (rd l0 (ji16)) (wrap64 (32 - a1))))) l0 (l0.length:Int) ji16) else (none)) else (none))=some r:=by first|(rw [hji16] at H;exact H)|(simp only [hji16] at H ⊢;exact H)
            (try rw [hji16] at c15b0)
            have hji16w:(IntKind.i64.wrap (x14_1+1))=ji16:=(i64_w _).trans hji16
            by_cases c17:0≤(ji16)
            ·rw [if_pos c17] at H
             have c17b0:decide (0≤(ji16))=true:=decide_eq_true c17
             clear c17
             obtain ⟨ji18,hji18⟩:∃ j_:Int,(wrap64 (32 - a1))=j_:=⟨_,rfl⟩
             replace H:(if 0≤(ji18) then (dyad_lower.l0 k1 l0 a1 (y133.set (x14_1:Int).toNat (Go.bits .or .u32 (rd y133 x14_1) (shl .u32 (rd l0 (ji16)) (ji18)))) l0 (l0.length:Int) ji16) else (none))=some r:=by first|(rw [hji18] at H;exact H)|(simp only [hji18] at H ⊢;exact H)
             have hji18w:(IntKind.i64.wrap (32 - a1))=ji18:=(i64_w _).trans hji18
             by_cases c19:0≤(ji18)
             ·rw [if_pos c19] at H
              have c19b0:=eq_true c19
              have c19b1:decide (0≤(ji18))=true:=decide_eq_true c19
              clear c19
              obtain ⟨ji20,hji20⟩:∃ j_:Int,(shl .u32 (rd l0 (ji16)) (ji18))=j_:=⟨_,rfl⟩
              replace H:(dyad_lower.l0 k1 l0 a1 (y133.set (x14_1:Int).toNat (Go.bits .or .u32 (rd y133 x14_1) (ji20))) l0 (l0.length:Int) ji16)=some r:=by first|(rw [hji20] at H;exact H)|(simp only [hji20] at H ⊢;exact H)
              have hji20_:(IntKind.u32.wrap ((rd l0 (ji16))*2^min (ji18).toNat 32))=ji20:=hji20
              have hji20z:(ji18)≤32→(IntKind.u32.wrap ((rd l0 (ji16))*2^(ji18).toNat))=ji20:=shl_small hji20
              obtain ⟨y136,hy136⟩:∃ y_:List Int,y_=(y133.set (x14_1:Int).toNat (Go.bits .or .u32 (rd y133 x14_1) (ji20))):=⟨_,rfl⟩
              replace H:(dyad_lower.l0 k1 l0 a1 y136 l0 (l0.length:Int) ji16)=some r:=by first|(rw [hy136];first|exact t1_ H|exact t2_ H)|exact t2_ H|exact t1_ H|(rw [hy136];exact H)|exact H
              have Ny136:=a_ hy136
              clear hy136
              have H':=a_ H
              clear H
              have p132:0≤(x14_1:Int):=od_
              have q132:x14_1<(l0.length:Int):=od_
              obtain ⟨ad132,e132,hx132_0⟩:=Kd.at_int HR0.out x14_1 p132 q132
              cases e132
              replace hx132_0:=(HB.out.cell (World.block_lt_of_cell? w _ hx132_0)).trans hx132_0
              replace p132:=eq_true p132
              replace q132:=eq_true q132
              have p13:0≤(x14_1:Int):=od_
              have q13:(x14_1:Int)<((x5_1.length:Int):Int):=od_
              obtain ⟨go13,co13,eo13,gb13,gl13,cl13,HG13⟩:=Kd.R_form HO_5.out (by omega)
              (first|cases eo13|(injection eo13 with ea_ en_ ec_;(first|subst ea_|(injection ea_ with ea_;subst ea_));subst ec_;clear en_))
              have GB13:=a_ gb13
              have GG13:=a_ HG13
              clear gb13 gl13 HG13
              obtain ⟨hx13_0,hf13_0⟩:=Kd.R_celln 0 HO_5.out (x14_1:Int) p13 q13
              (try simp only [Int.toNat_natCast] at hx13_0 hf13_0)
              replace p13:=eq_true p13
              replace q13:=eq_true q13
              have HP22:=Kd.R_putg HO_5.out (x14_1:Int) ji11
              try go_wp2_with (first|((with_reducible refine gate_store (t:=68) (p:=24) rfl ?_);refine store_event (t:=68) (p:=24) (v:=?vo_w23) (w1:=(wr.setCell ⟨go13,(x14_1:Int).toNat,none⟩ (.int .u32 ji11))) ?hg ?ho ?hn ?hr ?_;(case ho=>rfl);(case hg=>rfl);(case hn=>rfl);(case hr=>first|(go_simp;done)|(go_simp;rfl));intro w23 hw;have hg:wr.grownBy w23 (some go13):=(by rw [hw];exact HP22.2);have hp_:Kd.R (Kd.int .u32) 68 w23 w.heap.size (fun _=>True) (.slice (some ⟨go13,0,none⟩) x5_1.length co13) y133:=(by rw [hw,Ny133.out];exact HP22.1);clear HP22;replace HO_5:=a_ hp_;replace HB:=a_ ((by rw [hw];exact below_set (HB.out) GB13.out:Below w.heap.size w w23));clear hg hw hp_))
              have n0_:=a_ (Kd.R_drew HO_5.out)
              have n1_:=a_ (below_drew1 HB.out)
              clear HO_5
              clear HB
              have HO_5:=n0_
              have HB:=n1_
              clear n0_ n1_
              have p134:0≤(x14_1:Int):=od_
              have q134:x14_1<(y133.length:Int):=(by have h_:(x14_1:Int)<((x5_1.length:Int):Int):=od_;first|(have e_:=(Kd.R_reads' HO_5.out).1;omega)|simpa only [Ny133.out,List.length_set] using h_)
              have ql134:((x14_1:Int)<((x5_1.length:Int):Int))=True:=eq_true od_
              obtain ⟨ad134,e134,hx134_0⟩:=Kd.at_int (Kd.R_reads' HO_5.out).2.2 x14_1 p134 q134
              obtain rfl:(⟨go13,0,none⟩:Addr)=ad134:=(by injection e134)
              (first|simp only [add_plain] at hx134_0|simp only [add_at] at hx134_0|simp only [Addr.add,Nat.zero_add] at hx134_0|skip)
              replace p134:=eq_true p134
              replace q134:=eq_true q134
              have p135:0≤((ji16):Int):=od_
              have q135:(ji16)<(l0.length:Int):=od_
              obtain ⟨ad135,e135,hx135_0⟩:=Kd.at_int HR0.out (ji16) p135 q135
              have hw135_0:=hx135_0
              obtain rfl:ad132=ad135:=(by injection e135)
              replace hx135_0:=(HB.out.cell (World.block_lt_of_cell? w _ hx135_0)).trans hx135_0
              replace p135:=eq_true p135
              replace q135:=eq_true q135
              have p21:0≤(x14_1:Int):=od_
              have q21:(x14_1:Int)<((x5_1.length:Int):Int):=od_
              obtain ⟨hx21_0,hf21_0⟩:=Kd.R_celln 0 HO_5.out (x14_1:Int) p21 q21
              (try simp only [Int.toNat_natCast] at hx21_0 hf21_0)
              replace p21:=eq_true p21
              replace q21:=eq_true q21
              have HP25:=Kd.R_putn HO_5.out (x14_1:Int) (Go.bits .or .u32 (rd y133 x14_1) (ji20))
              rw [← Ny136.out] at HP25
              have HQ25:=a_ HP25
              clear HP25
              refine start_ (n:=15) (S:=fun w'=>w'.cell? ⟨go13,(x14_1).toNat,none⟩=some (.int .u32 (rd y133 x14_1))∧w'.cell? (ad132.add ((ji16)).toNat)=some (.int .u32 (rd l0 (ji16)))) (ds:=[14]) #[false,false,false,false,false,false,false,false,false,false,false,false,false,false,false] (by kernel_rfl) rfl rfl ⟨hx134_0,((HB.out.cell (World.block_lt_of_cell? w _ hw135_0)).trans hw135_0)⟩ (fun hHeld=>?_);refine with_tabW dyad_lower.tab7 dyad_lower.bits7 (fun HT_ HW_=>?_)
              generalize w23.drew=w24 at HO_5 HB HQ25 hf21_0 hx134_0 hx135_0 hx21_0 hHeld ⊢
              refine pv_ 0 34 (v:=?_) (a':=?_) HT_ rfl rfl (Or.inl ⟨by rfl,?_⟩) ?_ ?_
              rotate_left
              ·intro w'
               go_simp
               with_reducible rfl
              rotate_left
              ·exact nf_
              refine pv_ 1 35 (v:=?_) (a':=?_) HT_ rfl rfl (Or.inl ⟨by rfl,?_⟩) ?_ ?_
              rotate_left
              ·intro w'
               go_simp
               with_reducible rfl
              rotate_left
              ·exact nf_
              refine pv_ 2 36 (v:=?_) (a':=?_) HT_ rfl rfl (Or.inl ⟨by rfl,?_⟩) ?_ ?_
              rotate_left
              ·intro w'
               go_simp
               with_reducible rfl
              rotate_left
              ·exact nf_
              refine pv_ 4 38 (v:=?_) (a':=?_) HT_ rfl rfl (Or.inl ⟨by rfl,?_⟩) ?_ ?_
              rotate_left
              ·intro w'
               go_simp
               with_reducible rfl
              rotate_left
              ·exact nf_
              refine pv_ 5 39 (v:=?_) (a':=?_) HT_ rfl rfl (Or.inl ⟨by rfl,?_⟩) ?_ ?_
              rotate_left
              ·intro w'
               go_simp
               with_reducible rfl
              rotate_left
              ·exact nf_
              refine pv_ 6 40 (v:=?_) (a':=?_) HT_ rfl rfl (Or.inl ⟨by rfl,?_⟩) ?_ ?_
              rotate_left
              ·intro w'
               go_simp
               with_reducible rfl
              rotate_left
              ·exact nf_
              refine pv_ 7 41 (v:=?_) (a':=?_) HT_ rfl rfl (Or.inl ⟨by rfl,?_⟩) ?_ ?_
              rotate_left
              ·intro w'
               go_simp
               with_reducible rfl
              rotate_left
              ·exact nf_
              refine pv_ 9 43 (v:=?_) (a':=?_) HT_ rfl rfl (Or.inl ⟨by rfl,?_⟩) ?_ ?_
              rotate_left
              ·intro w'
               go_simp
               with_reducible rfl
              rotate_left
              ·exact nf_
              refine pv_ 10 44 (v:=?_) (a':=?_) HT_ rfl rfl (Or.inl ⟨by rfl,?_⟩) ?_ ?_
              rotate_left
              ·intro w'
               go_simp
               with_reducible rfl
              rotate_left
              ·exact nf_
              refine tv_ 3 37 (v:=?_) (a':=?_) HT_ HW_ rfl rfl (Or.inl ⟨by rfl,?_⟩) hHeld ?_ ?_
              rotate_left
              ·rintro w' ⟨s0,s1⟩
               go_simp
               with_reducible rfl
              rotate_left
              ·exact nf_
              refine tv_ 8 42 (v:=?_) (a':=?_) HT_ HW_ rfl rfl (Or.inl ⟨by rfl,?_⟩) hHeld ?_ ?_
              rotate_left
              ·rintro w' ⟨s0,s1⟩
               go_simp
               with_reducible rfl
              rotate_left
              ·exact nf_
              refine pv_ 11 45 (v:=?_) (a':=?_) HT_ rfl rfl (Or.inl ⟨by rfl,?_⟩) ?_ ?_
              rotate_left
              ·intro w'
               go_simp
               with_reducible rfl
              rotate_left
              ·exact nf_
              refine pv_ 12 46 (v:=?_) (a':=?_) HT_ rfl rfl (Or.inl ⟨by rfl,?_⟩) ?_ ?_
              rotate_left
              ·intro w'
               go_simp
               with_reducible rfl
              rotate_left
              ·exact nf_
              refine pv_ 13 47 (v:=?_) (a':=?_) HT_ rfl rfl (Or.inl ⟨by rfl,?_⟩) ?_ ?_
              rotate_left
              ·intro w'
               go_simp
               with_reducible rfl
              rotate_left
              ·exact nf_
              refine last_ (i:=14) (N:=none) #[true,true,true,true,true,true,true,true,true,true,true,true,true,true,true] rfl rfl (one_of HT_.out (by kernel_rfl)) (by decide) (fun K hK=>?_)
              refine skip_ (w1:=?_) (by rfl) rfl ?_ ?_
              rotate_left
              ·go_simp
               rfl
              refine hK.out _ _ ?_
              clear hK K
              refine done_ (done_of HT_.out (by kernel_rfl)) ?_
              try go_wp2
              go_roundg k1
              case measure=>have:=HK1.out;omega
              case rel=>exact ⟨(y136),(ji16),(by first|rfl|(simp;done)|(simp only [← hji16] <;> (first|rfl|simp))|(simp [*];done)),H',⟨by have:=HK1.out;omega⟩,⟨rr_ HQ25⟩,⟨by repeat (first|(with_reducible first|exact HB.out|apply below_alloc|apply pw_below_drewN|apply below_drew1|refine below_set ?_ GB13.out)|exact HB.out)⟩⟩
             ·rw [if_neg c19] at H
              exact ab_ H
            ·rw [if_neg c17] at H
             exact ab_ H
           ·rw [if_neg c15] at H
            have c15b0:decide ((wrap64 (x14_1+1))<(l0.length:Int))=false:=decide_eq_false c15
            clear c15
            have H':=a_ H
            clear H
            have p132:0≤(x14_1:Int):=od_
            have q132:x14_1<(l0.length:Int):=od_
            obtain ⟨ad132,e132,hx132_0⟩:=Kd.at_int HR0.out x14_1 p132 q132
            cases e132
            replace hx132_0:=(HB.out.cell (World.block_lt_of_cell? w _ hx132_0)).trans hx132_0
            replace p132:=eq_true p132
            replace q132:=eq_true q132
            have p13:0≤(x14_1:Int):=od_
            have q13:(x14_1:Int)<((x5_1.length:Int):Int):=od_
            obtain ⟨go13,co13,eo13,gb13,gl13,cl13,HG13⟩:=Kd.R_form HO_5.out (by omega)
            (first|cases eo13|(injection eo13 with ea_ en_ ec_;(first|subst ea_|(injection ea_ with ea_;subst ea_));subst ec_;clear en_))
            have GB13:=a_ gb13
            have GG13:=a_ HG13
            clear gb13 gl13 HG13
            obtain ⟨hx13_0,hf13_0⟩:=Kd.R_celln 0 HO_5.out (x14_1:Int) p13 q13
            (try simp only [Int.toNat_natCast] at hx13_0 hf13_0)
            replace p13:=eq_true p13
            replace q13:=eq_true q13
            have HP26:=Kd.R_putg HO_5.out (x14_1:Int) ji11
            go_wp2_with (first|((with_reducible refine gate_store (t:=68) (p:=24) rfl ?_);refine store_event (t:=68) (p:=24) (v:=?vo_w27) (w1:=(wr.setCell ⟨go13,(x14_1:Int).toNat,none⟩ (.int .u32 ji11))) ?hg ?ho ?hn ?hr ?_;(case ho=>rfl);(case hg=>rfl);(case hn=>rfl);(case hr=>first|(go_simp;done)|(go_simp;rfl));intro w27 hw;have hg:wr.grownBy w27 (some go13):=(by rw [hw];exact HP26.2);have hp_:Kd.R (Kd.int .u32) 68 w27 w.heap.size (fun _=>True) (.slice (some ⟨go13,0,none⟩) x5_1.length co13) y133:=(by rw [hw,Ny133.out];exact HP26.1);clear HP26;replace HO_5:=a_ hp_;replace HB:=a_ ((by rw [hw];exact below_set (HB.out) GB13.out:Below w.heap.size w w27));clear hg hw hp_))
            go_roundg k1
            case measure=>have:=HK1.out;omega
            case rel=>exact ⟨(y133),(wrap64 (x14_1+1)),rb_,H',⟨by have:=HK1.out;omega⟩,⟨rr_ HO_5⟩,⟨bl_ HB⟩⟩
          ·rw [if_neg c14] at H
           have c14b0:decide (0<a1)=false:=decide_eq_false c14
           clear c14
           have H':=a_ H
           clear H
           have p132:0≤(x14_1:Int):=od_
           have q132:x14_1<(l0.length:Int):=od_
           obtain ⟨ad132,e132,hx132_0⟩:=Kd.at_int HR0.out x14_1 p132 q132
           cases e132
           replace hx132_0:=(HB.out.cell (World.block_lt_of_cell? w _ hx132_0)).trans hx132_0
           replace p132:=eq_true p132
           replace q132:=eq_true q132
           have p13:0≤(x14_1:Int):=od_
           have q13:(x14_1:Int)<((x5_1.length:Int):Int):=od_
           obtain ⟨go13,co13,eo13,gb13,gl13,cl13,HG13⟩:=Kd.R_form HO_5.out (by omega)
           (first|cases eo13|(injection eo13 with ea_ en_ ec_;(first|subst ea_|(injection ea_ with ea_;subst ea_));subst ec_;clear en_))
           have GB13:=a_ gb13
           have GG13:=a_ HG13
           clear gb13 gl13 HG13
           obtain ⟨hx13_0,hf13_0⟩:=Kd.R_celln 0 HO_5.out (x14_1:Int) p13 q13
           (try simp only [Int.toNat_natCast] at hx13_0 hf13_0)
           replace p13:=eq_true p13
           replace q13:=eq_true q13
           have HP28:=Kd.R_putg HO_5.out (x14_1:Int) ji11
           go_wp2_with (first|((with_reducible refine gate_store (t:=68) (p:=24) rfl ?_);refine store_event (t:=68) (p:=24) (v:=?vo_w29) (w1:=(wr.setCell ⟨go13,(x14_1:Int).toNat,none⟩ (.int .u32 ji11))) ?hg ?ho ?hn ?hr ?_;(case ho=>rfl);(case hg=>rfl);(case hn=>rfl);(case hr=>first|(go_simp;done)|(go_simp;rfl));intro w29 hw;have hg:wr.grownBy w29 (some go13):=(by rw [hw];exact HP28.2);have hp_:Kd.R (Kd.int .u32) 68 w29 w.heap.size (fun _=>True) (.slice (some ⟨go13,0,none⟩) x5_1.length co13) y133:=(by rw [hw,Ny133.out];exact HP28.1);clear HP28;replace HO_5:=a_ hp_;replace HB:=a_ ((by rw [hw];exact below_set (HB.out) GB13.out:Below w.heap.size w w29));clear hg hw hp_))
           go_roundg k1
           case measure=>have:=HK1.out;omega
           case rel=>exact ⟨(y133),(wrap64 (x14_1+1)),rb_,H',⟨by have:=HK1.out;omega⟩,⟨rr_ HO_5⟩,⟨bl_ HB⟩⟩
         ·rw [if_neg c12] at H
          exact ab_ H
        ·rw [if_neg c10] at H
         exact ab_ H
       ·rw [if_neg c9] at H
        exact ab_ H
      ·rw [if_neg c8] at H
       exact ab_ H
     ·rw [if_neg c7] at H
      have c7b0:decide (x14_1<(l0.length:Int))=false:=decide_eq_false c7
      clear c7
      obtain ⟨ji30,hji30⟩:∃ j_:Int,(wrap64 ((x5_1.length:Int) - 1))=j_:=⟨_,rfl⟩
      replace H:(if 0≤(ji30) then (if (ji30)<(x5_1.length:Int) then (if (rd x5_1 (ji30))=0 then (if (ji30)≤(x5_1.length:Int) then (some (x5_1.take ((ji30):Int).toNat)) else (none)) else (some x5_1)) else (none)) else (none))=some r:=by first|(rw [hji30] at H;exact H)|(simp only [hji30] at H ⊢;exact H)
      have hji30w:(IntKind.i64.wrap ((x5_1.length:Int) - 1))=ji30:=(i64_w _).trans hji30
      by_cases c31:0≤(ji30)
      ·rw [if_pos c31] at H
       have c31b0:decide (0≤(ji30))=true:=decide_eq_true c31
       clear c31
       by_cases c32:(ji30)<(x5_1.length:Int)
       ·rw [if_pos c32] at H
        have c32b0:decide ((ji30)<(x5_1.length:Int))=true:=decide_eq_true c32
        clear c32
        by_cases c33:(rd x5_1 (ji30))=0
        ·rw [if_pos c33] at H
         have c33b0:((rd x5_1 (ji30)) == 0)=true:=beq_iff_eq.mpr c33
         have c33b1:((rd x5_1 (ji30)) != 0)=false:=bne_eq_false_iff_eq.mpr c33
         clear c33
         by_cases c34:(ji30)≤(x5_1.length:Int)
         ·rw [if_pos c34] at H
          have c34b0:=eq_true c34
          have c34b1:decide ((ji30)≤(x5_1.length:Int))=true:=decide_eq_true c34
          clear c34
          obtain ⟨y138,hy138⟩:∃ y_:List Int,y_=(x5_1.take ((ji30):Int).toNat):=⟨_,rfl⟩
          replace H:(some y138)=some r:=by first|(rw [hy138];first|exact t1_ H|exact t2_ H)|exact t2_ H|exact t1_ H|(rw [hy138];exact H)|exact H
          have Ny138:=a_ hy138
          clear hy138
          obtain rfl:=Option.some.inj H
          obtain ⟨Ao35,co35,eo35⟩:=Kd.R_slice HO_5.out
          subst eo35
          have p137:0≤((ji30):Int):=od_
          have q137:(ji30)<(x5_1.length:Int):=od_
          obtain ⟨ad137,e137,hx137_0⟩:=Kd.at_int (Kd.R_reads' HO_5.out).2.2 (ji30) p137 q137
          cases e137
          replace p137:=eq_true p137
          replace q137:=eq_true q137
          have q36:((ji30):Int)≤((x5_1.length:Int):Int):=od_
          obtain ⟨i036,hi036,_,hsz36,_⟩:=info_parts info68
          have hcut36:=cut_full (P:=Tryd.prog) 28 68 .i64 .i64 Tryd.underlying28 hi036 (some ad137) x5_1.length co35 (ji30) od_ q36 (Kd.R_reads' HO_5.out).2.1
          have hr36:=Kd.Q_full (Kd.Q_take (m:=((ji30):Int).toNat) (Kd.Q_of_R HO_5.out) (by omega))
          have hy36:y138.length=((ji30):Int).toNat:=(by rw [Ny138.out,List.length_take];omega)
          rw [← Ny138.out] at hr36
          rw [← hy36] at hr36 hcut36
          have HE36:Aside0 ((Value.slice (some ad137) y138.length y138.length).ownBlock=(.slice (some ad137) x5_1.length co35:Value).ownBlock):=⟨by (cases ((some ad137):Option Addr) <;> rfl)⟩
          clear hy36 hi036 hsz36 HO_5
          have HO140:=a_ hr36
          clear hr36
          replace q36:=eq_true q36
          go_wp2
          go_ret
          exact ⟨_,by first|exact rf_|(simp only [← hji30];exact rf_),qq_ HO140,bl_ HB⟩
         ·rw [if_neg c34] at H
          exact ab_ H
        ·rw [if_neg c33] at H
         have c33b0:((rd x5_1 (ji30)) == 0)=false:=beq_eq_false_iff_ne.mpr c33
         have c33b1:((rd x5_1 (ji30)) != 0)=true:=bne_iff_ne.mpr c33
         obtain rfl:=Option.some.inj H
         obtain ⟨Ao37,co37,eo37⟩:=Kd.R_slice HO_5.out
         subst eo37
         have p137:0≤((ji30):Int):=od_
         have q137:(ji30)<(x5_1.length:Int):=od_
         obtain ⟨ad137,e137,hx137_0⟩:=Kd.at_int (Kd.R_reads' HO_5.out).2.2 (ji30) p137 q137
         cases e137
         replace p137:=eq_true p137
         replace q137:=eq_true q137
         go_wp2
         go_ret
         exact ⟨_,by first|exact rf_|(simp only [← hji30];exact rf_),Kd.Q_of_R (rr_ HO_5),bl_ HB⟩
       ·rw [if_neg c32] at H
        exact ab_ H
      ·rw [if_neg c31] at H
       exact ab_ H
  ·rw [if_neg c4] at H
   exact ab_ H
 ·rw [if_neg c3] at H
  exact ab_ H
def dyad_form.f (k:Nat) (a0:Bool) (l1:List Int) (a2:Int):Option (Bool × List Int × Int × Int):=(wide_Norm.f k l1).bind fun t142=>(if (t142.length:Int)=0 then (some (false,([]:List Int),0,0)) else ((wide_Low.f k t142).bind fun t145=>(if 0≤(wrap64 (Int.tdiv t145 32)) then (if (wrap64 (Int.tdiv t145 32))≤(t142.length:Int) then ((dyad_lower.f k (t142.drop ((wrap64 (Int.tdiv t145 32)):Int).toNat) (Int.tmod t145 32)).bind fun t150=>(if a2>(wrap64 (1048576 - t145)) then (some (false,([]:List Int),0,2)) else (if a2<(wrap64 ((-1048576) - t145)) then (some (false,([]:List Int),0,2)) else (if (t150.length:Int)>8192 then (some (false,([]:List Int),0,2)) else (some (a0,t150,wrap64 (a2+t145),0)))))) else (none)) else (none))))
theorem dyad_form.calls (k:Nat) (a0:Bool) (A1:Option Addr) (c1:Nat) (l1:List Int) (a2:Int) (r1:Bool) (r2:List Int) (r3:Int) (r4:Int) (w:World) (hG:GlobLaid w) (hr1:Kd.C (Kd.int .u32) w A1 l1.length l1) (hc1:l1.length≤c1) (h:dyad_form.f k a0 l1 a2=some (r1,r2,r3,r4)) :
  Calls Tryd.prog 56 #[.bool a0,.slice A1 l1.length c1,.int .i64 a2] w fun e w'=>∃ v1_:Value,e = .returned (.tuple #[.agg #[.bool r1,v1_,.int .i64 r3],.int .i64 r4])∧Kd.Q (Kd.int .u32) 68 w' w.heap.size (fun _=>True) v1_ r2∧Below w.heap.size w w':=by
 have hu30:=Tryd.underlying30
 have HG:=a_ hG
 clear hG
 have HR1:=a_ hr1
 have HC1:=a_ hc1
 clear hr1 hc1
 have HB:=a_ (Below.refl w.heap.size w)
 have H:=h
 unfold dyad_form.f at H
 clear h
 obtain ⟨t142,A4,H⟩:=ob_ H
 try dsimp only at H
 by_cases c5:(t142.length:Int)=0
 ·rw [if_pos c5] at H
  have c5b0:((t142.length:Int) == 0)=true:=beq_iff_eq.mpr c5
  have c5b1:((t142.length:Int) != 0)=false:=bne_eq_false_iff_eq.mpr c5
  clear c5
  simp only [Option.some.injEq,Prod.mk.injEq] at H
  obtain ⟨rfl,rfl,rfl,rfl⟩:=H
  go_enter Tryd.func56,Tryd.ntmps56
  go_wp2_with (first|((with_reducible refine gate_dst (N:=6) rfl ?_);(try (refine gate_guard (by rfl) ?_;dsimp only));refine be_ HB (N:=6) (cs:=#[.bool false,.slice none 0 0,.int .i64 0]) (t:=30) ?_;clear HB;intro gb141 hg w6 hb BK141 GE141 HB;clear hb hg)|(refine goesM (some 11) Tryd.func75 #[.slice A1 l1.length c1] ?_;(with_reducible refine (wide_Norm.calls k _ _ l1 t142 _ ?side1 ?side2 A4.out).mono ?_);(case side1=>exact cs_ (Kd.C_below HR1.out HB.out));(case side2=>exact HC1.out);rintro e w7 ⟨v143,rfl,ho0,hb⟩;refine ⟨_,rfl,?_⟩;have HO144:=a_ (Kd.R_lower ho0 (below_size (bl_ HB)));replace BK141:=kb_ BK141 hb;replace HB:=bs_ HB hb;(try clear hb);(try clear ho0);obtain ⟨Ao8,co8,eo8⟩:=Kd.R_slice HO144.out;subst eo8;obtain ⟨hcz9_0,hcz9_1,hcz9_2⟩:=bc3 BK141;obtain ⟨hfz9_0,hfz9_1,hfz9_2⟩:=bz3 BK141))
  refine bodyPost_ret (results_ct rfl _ _ gb141 30 #[.bool false,.slice none 0 0,.int .i64 0] (0,0) _ rfl (bq_ BK141) Tryd.underlying30 rfl (by kernel_rfl)) rfl ?_
  exact ⟨_,rf_,Kd.Q_of_R (by first|exact Kd.R_nil _ _ _ _ _|exact Kd.N_nil _ _ _ _ _|exact Kd.V_nil _ _ _ _ _|exact Kd.Q_nil _ _ _ _ _|exact Kd.S_nil _ _ _ _ _),bl_ HB⟩
 ·rw [if_neg c5] at H
  have c5b0:((t142.length:Int) == 0)=false:=beq_eq_false_iff_ne.mpr c5
  have c5b1:((t142.length:Int) != 0)=true:=bne_iff_ne.mpr c5
  have c5b2:¬ (t142=[]):=fun h_=>c5 (by rw [h_];rfl)
  obtain ⟨t145,A10,H⟩:=ob_ H
  try dsimp only at H
  obtain ⟨ji11,hji11⟩:∃ j_:Int,(wrap64 (Int.tdiv t145 32))=j_:=⟨_,rfl⟩
  replace H:(if 0≤(ji11) then (if (ji11)≤(t142.length:Int) then ((dyad_lower.f k (t142.drop ((ji11):Int).toNat) (Int.tmod t145 32)).bind fun t150=>(if a2>(wrap64 (1048576 - t145)) then (some (false,([]:List Int),0,2)) else (if a2<(wrap64 ((-1048576) - t145)) then (some (false,([]:List Int),0,2)) else (if (t150.length:Int)>8192 then (some (false,([]:List Int),0,2)) else (some (a0,t150,wrap64 (a2+t145),0)))))) else (none)) else (none))=some (r1,r2,r3,r4):=by first|(rw [hji11] at H;exact H)|(simp only [hji11] at H ⊢;exact H)
  (try rw [hji11] at A4)
  (try rw [hji11] at A10)
  have hji11w:(IntKind.i64.wrap (Int.tdiv t145 32))=ji11:=(i64_w _).trans hji11
  by_cases c12:0≤(ji11)
  ·rw [if_pos c12] at H
   have c12b0:=eq_true c12
   have c12b1:decide (0≤(ji11))=true:=decide_eq_true c12
   clear c12
   by_cases c13:(ji11)≤(t142.length:Int)
   ·rw [if_pos c13] at H
    have c13b0:=eq_true c13
    have c13b1:decide ((ji11)≤(t142.length:Int))=true:=decide_eq_true c13
    clear c13
    obtain ⟨y146,hy146⟩:∃ y_:List Int,y_=(t142.drop ((ji11):Int).toNat):=⟨_,rfl⟩
    replace H:((dyad_lower.f k y146 (Int.tmod t145 32)).bind fun t150=>(if a2>(wrap64 (1048576 - t145)) then (some (false,([]:List Int),0,2)) else (if a2<(wrap64 ((-1048576) - t145)) then (some (false,([]:List Int),0,2)) else (if (t150.length:Int)>8192 then (some (false,([]:List Int),0,2)) else (some (a0,t150,wrap64 (a2+t145),0))))))=some (r1,r2,r3,r4):=by first|(rw [hy146];first|exact t1_ H|exact t2_ H)|exact t2_ H|exact t1_ H|(rw [hy146];exact H)|exact H
    have Ny146:=a_ hy146
    clear hy146
    obtain ⟨t150,A14,H⟩:=ob_ H
    try dsimp only at H
    by_cases c15:a2>(wrap64 (1048576 - t145))
    ·rw [if_pos c15] at H
     have c15b0:decide ((wrap64 (1048576 - t145))<a2)=true:=decide_eq_true c15
     clear c15
     simp only [Option.some.injEq,Prod.mk.injEq] at H
     obtain ⟨rfl,rfl,rfl,rfl⟩:=H
     go_enter Tryd.func56,Tryd.ntmps56
     go_wp2_with (first|((with_reducible refine gate_dst (N:=6) rfl ?_);(try (refine gate_guard (by rfl) ?_;dsimp only));refine be_ HB (N:=6) (cs:=#[.bool false,.slice none 0 0,.int .i64 0]) (t:=30) ?_;clear HB;intro gb141 hg w16 hb BK141 GE141 HB;clear hb hg)|(refine goesM (some 11) Tryd.func75 #[.slice A1 l1.length c1] ?_;(with_reducible refine (wide_Norm.calls k _ _ l1 t142 _ ?side1 ?side2 A4.out).mono ?_);(case side1=>exact cs_ (Kd.C_below HR1.out HB.out));(case side2=>exact HC1.out);rintro e w17 ⟨v143,rfl,ho0,hb⟩;refine ⟨_,rfl,?_⟩;have HO144:=a_ (Kd.R_lower ho0 (below_size (bl_ HB)));replace BK141:=kb_ BK141 hb;replace HB:=bs_ HB hb;(try clear hb);(try clear ho0);obtain ⟨Ao18,co18,eo18⟩:=Kd.R_slice HO144.out;subst eo18)|(refine goesM (some 17) Tryd.func76 #[.slice Ao18 t142.length co18] ?_;(with_reducible refine (wide_Low.calls k _ _ t142 t145 _ ?side1 ?side2 ?side3 A10.out).mono ?_);(case side1=>exact GlobLaid.below HG.out (bl_ HB));(case side2=>exact cs_ (Kd.R_reads' HO144.out).2.2);(case side3=>exact (Kd.R_reads' HO144.out).2.1);rintro e w19 ⟨rfl,hb⟩;refine ⟨_,rfl,?_⟩;replace HO144:=a_ (Kd.R_below (rr_ HO144) hb);replace BK141:=kb_ BK141 hb;replace HB:=bs_ HB hb;(try clear hb);have q20:((ji11):Int)≤((t142.length:Int):Int):=od_;obtain ⟨i020,hi020,_,hsz20,_⟩:=info_parts info68;have hroom20:t142.length≤co18:=(Kd.R_reads' HO144.out).2.1;have hC20:Kd.C (Kd.int .u32) _ Ao18 t142.length t142:=(Kd.R_reads' HO144.out).2.2;have q020:(0:Int)≤((ji11):Int):=od_;have hcut20:=cut_from (P:=Tryd.prog) 28 68 .i64 Tryd.underlying28 hi020 1 hsz20 Ao18 t142.length co18 (ji11) q020 q20;have hr20:=Kd.C_drop (m:=((ji11):Int).toNat) (c:=co18) hC20 (by omega) hroom20;obtain ⟨A20,hA20⟩:∃ A1,A1=(if co18=((ji11):Int).toNat then Ao18 else (Ao18:Option Addr).map (·.add (((ji11):Int).toNat*1))):=⟨_,rfl⟩;obtain ⟨c20,hc20⟩:∃ c1,c1=co18 - ((ji11):Int).toNat:=⟨_,rfl⟩;have hy20:y146.length=t142.length - ((ji11):Int).toNat:=(by rw [Ny146.out,List.length_drop] <;> omega);rw [show (t142).drop ((ji11):Int).toNat=y146 from Ny146.out.symm] at hr20;replace hr20:Kd.C (Kd.int .u32) _ A20 y146.length y146:=(by rw [hA20];exact hr20);rw [← hy20,← hA20,← hc20] at hcut20;have HR149:=a_ hr20;have HC149:=a_ (show y146.length≤c20 from by rw [hy20,hc20];exact Nat.sub_le_sub_right hroom20 _);clear hr20 hC20 hroom20 hi020 hsz20 hc20;have KY20:=a_ hy20;have KA20:=a_ hA20;clear hy20 hA20;have KL20:=a_ (show ((ji11):Int).toNat≤t142.length from by omega);replace q20:=eq_true q20)|(refine goesM (some 24) Tryd.func77 #[.slice A20 y146.length c20,.int .i64 (Int.tmod t145 32)] ?_;(with_reducible refine (dyad_lower.calls k _ _ y146 (Int.tmod t145 32) t150 _ ?side1 ?side2 A14.out).mono ?_);(case side1=>repeat (first|exact (by repeat (first|(with_reducible exact HR149.out)|(with_reducible first|apply cA|apply cN|apply cD)|exact HR149.out))|(with_reducible first|apply cA|apply cN|apply cD)));(case side2=>exact HC149.out);rintro e w21 ⟨v151,rfl,ho0,hb⟩;refine ⟨_,rfl,?_⟩;have HO152:=a_ (Kd.Q_lower (Kd.Q_new' ho0 (Kd.R_lt (rr_ HO144))) (below_size (bl_ HB)));replace HO144:=a_ (Kd.R_elder' (rr_ HO144) (Kd.Q_base ho0) hb);replace BK141:=kb_ BK141 hb;replace HR149:=a_ (Kd.C_below (by repeat (first|(with_reducible exact HR149.out)|(with_reducible first|apply cA|apply cN|apply cD)|exact HR149.out)) hb);replace HB:=bs_ HB hb;(try clear hb);(try clear ho0);obtain ⟨hcz22_0,hcz22_1,hcz22_2⟩:=bc3 BK141;obtain ⟨hfz22_0,hfz22_1,hfz22_2⟩:=bz3 BK141))
     refine bodyPost_ret (results_ct rfl _ _ gb141 30 #[.bool false,.slice none 0 0,.int .i64 0] (0,0) _ rfl (bq_ BK141) Tryd.underlying30 rfl (by kernel_rfl)) rfl ?_
     exact ⟨_,by first|exact rf_|(simp only [← hji11];exact rf_),Kd.Q_of_R (by first|exact Kd.R_nil _ _ _ _ _|exact Kd.N_nil _ _ _ _ _|exact Kd.V_nil _ _ _ _ _|exact Kd.Q_nil _ _ _ _ _|exact Kd.S_nil _ _ _ _ _),bl_ HB⟩
    ·rw [if_neg c15] at H
     have c15b0:decide ((wrap64 (1048576 - t145))<a2)=false:=decide_eq_false c15
     clear c15
     by_cases c23:a2<(wrap64 ((-1048576) - t145))
     ·rw [if_pos c23] at H
      have c23b0:decide (a2<(wrap64 ((-1048576) - t145)))=true:=decide_eq_true c23
      clear c23
      simp only [Option.some.injEq,Prod.mk.injEq] at H
      obtain ⟨rfl,rfl,rfl,rfl⟩:=H
      go_enter Tryd.func56,Tryd.ntmps56
      go_wp2_with (first|((with_reducible refine gate_dst (N:=6) rfl ?_);(try (refine gate_guard (by rfl) ?_;dsimp only));refine be_ HB (N:=6) (cs:=#[.bool false,.slice none 0 0,.int .i64 0]) (t:=30) ?_;clear HB;intro gb141 hg w24 hb BK141 GE141 HB;clear hb hg)|(refine goesM (some 11) Tryd.func75 #[.slice A1 l1.length c1] ?_;(with_reducible refine (wide_Norm.calls k _ _ l1 t142 _ ?side1 ?side2 A4.out).mono ?_);(case side1=>exact cs_ (Kd.C_below HR1.out HB.out));(case side2=>exact HC1.out);rintro e w25 ⟨v143,rfl,ho0,hb⟩;refine ⟨_,rfl,?_⟩;have HO144:=a_ (Kd.R_lower ho0 (below_size (bl_ HB)));replace BK141:=kb_ BK141 hb;replace HB:=bs_ HB hb;(try clear hb);(try clear ho0);obtain ⟨Ao26,co26,eo26⟩:=Kd.R_slice HO144.out;subst eo26)|(refine goesM (some 17) Tryd.func76 #[.slice Ao26 t142.length co26] ?_;(with_reducible refine (wide_Low.calls k _ _ t142 t145 _ ?side1 ?side2 ?side3 A10.out).mono ?_);(case side1=>exact GlobLaid.below HG.out (bl_ HB));(case side2=>exact cs_ (Kd.R_reads' HO144.out).2.2);(case side3=>exact (Kd.R_reads' HO144.out).2.1);rintro e w27 ⟨rfl,hb⟩;refine ⟨_,rfl,?_⟩;replace HO144:=a_ (Kd.R_below (rr_ HO144) hb);replace BK141:=kb_ BK141 hb;replace HB:=bs_ HB hb;(try clear hb);have q28:((ji11):Int)≤((t142.length:Int):Int):=od_;obtain ⟨i028,hi028,_,hsz28,_⟩:=info_parts info68;have hroom28:t142.length≤co26:=(Kd.R_reads' HO144.out).2.1;have hC28:Kd.C (Kd.int .u32) _ Ao26 t142.length t142:=(Kd.R_reads' HO144.out).2.2;have q028:(0:Int)≤((ji11):Int):=od_;have hcut28:=cut_from (P:=Tryd.prog) 28 68 .i64 Tryd.underlying28 hi028 1 hsz28 Ao26 t142.length co26 (ji11) q028 q28;have hr28:=Kd.C_drop (m:=((ji11):Int).toNat) (c:=co26) hC28 (by omega) hroom28;obtain ⟨A28,hA28⟩:∃ A1,A1=(if co26=((ji11):Int).toNat then Ao26 else (Ao26:Option Addr).map (·.add (((ji11):Int).toNat*1))):=⟨_,rfl⟩;obtain ⟨c28,hc28⟩:∃ c1,c1=co26 - ((ji11):Int).toNat:=⟨_,rfl⟩;have hy28:y146.length=t142.length - ((ji11):Int).toNat:=(by rw [Ny146.out,List.length_drop] <;> omega);rw [show (t142).drop ((ji11):Int).toNat=y146 from Ny146.out.symm] at hr28;replace hr28:Kd.C (Kd.int .u32) _ A28 y146.length y146:=(by rw [hA28];exact hr28);rw [← hy28,← hA28,← hc28] at hcut28;have HR149:=a_ hr28;have HC149:=a_ (show y146.length≤c28 from by rw [hy28,hc28];exact Nat.sub_le_sub_right hroom28 _);clear hr28 hC28 hroom28 hi028 hsz28 hc28;have KY28:=a_ hy28;have KA28:=a_ hA28;clear hy28 hA28;have KL28:=a_ (show ((ji11):Int).toNat≤t142.length from by omega);replace q28:=eq_true q28)|(refine goesM (some 24) Tryd.func77 #[.slice A28 y146.length c28,.int .i64 (Int.tmod t145 32)] ?_;(with_reducible refine (dyad_lower.calls k _ _ y146 (Int.tmod t145 32) t150 _ ?side1 ?side2 A14.out).mono ?_);(case side1=>repeat (first|exact (by repeat (first|(with_reducible exact HR149.out)|(with_reducible first|apply cA|apply cN|apply cD)|exact HR149.out))|(with_reducible first|apply cA|apply cN|apply cD)));(case side2=>exact HC149.out);rintro e w29 ⟨v151,rfl,ho0,hb⟩;refine ⟨_,rfl,?_⟩;have HO152:=a_ (Kd.Q_lower (Kd.Q_new' ho0 (Kd.R_lt (rr_ HO144))) (below_size (bl_ HB)));replace HO144:=a_ (Kd.R_elder' (rr_ HO144) (Kd.Q_base ho0) hb);replace BK141:=kb_ BK141 hb;replace HR149:=a_ (Kd.C_below (by repeat (first|(with_reducible exact HR149.out)|(with_reducible first|apply cA|apply cN|apply cD)|exact HR149.out)) hb);replace HB:=bs_ HB hb;(try clear hb);(try clear ho0);obtain ⟨hcz30_0,hcz30_1,hcz30_2⟩:=bc3 BK141;obtain ⟨hfz30_0,hfz30_1,hfz30_2⟩:=bz3 BK141))
      refine bodyPost_ret (results_ct rfl _ _ gb141 30 #[.bool false,.slice none 0 0,.int .i64 0] (0,0) _ rfl (bq_ BK141) Tryd.underlying30 rfl (by kernel_rfl)) rfl ?_
      exact ⟨_,by first|exact rf_|(simp only [← hji11];exact rf_),Kd.Q_of_R (by first|exact Kd.R_nil _ _ _ _ _|exact Kd.N_nil _ _ _ _ _|exact Kd.V_nil _ _ _ _ _|exact Kd.Q_nil _ _ _ _ _|exact Kd.S_nil _ _ _ _ _),bl_ HB⟩
     ·rw [if_neg c23] at H
      have c23b0:decide (a2<(wrap64 ((-1048576) - t145)))=false:=decide_eq_false c23
      clear c23
      by_cases c31:(t150.length:Int)>8192
      ·rw [if_pos c31] at H
       have c31b0:decide (8192<(t150.length:Int))=true:=decide_eq_true c31
       have c31b1:decide (8192<t150.length)=true:=decide_eq_true (by omega)
       clear c31
       simp only [Option.some.injEq,Prod.mk.injEq] at H
       obtain ⟨rfl,rfl,rfl,rfl⟩:=H
       go_enter Tryd.func56,Tryd.ntmps56
       go_wp2_with (first|((with_reducible refine gate_dst (N:=6) rfl ?_);(try (refine gate_guard (by rfl) ?_;dsimp only));refine be_ HB (N:=6) (cs:=#[.bool false,.slice none 0 0,.int .i64 0]) (t:=30) ?_;clear HB;intro gb141 hg w32 hb BK141 GE141 HB;clear hb hg)|(refine goesM (some 11) Tryd.func75 #[.slice A1 l1.length c1] ?_;(with_reducible refine (wide_Norm.calls k _ _ l1 t142 _ ?side1 ?side2 A4.out).mono ?_);(case side1=>exact cs_ (Kd.C_below HR1.out HB.out));(case side2=>exact HC1.out);rintro e w33 ⟨v143,rfl,ho0,hb⟩;refine ⟨_,rfl,?_⟩;have HO144:=a_ (Kd.R_lower ho0 (below_size (bl_ HB)));replace BK141:=kb_ BK141 hb;replace HB:=bs_ HB hb;(try clear hb);(try clear ho0);obtain ⟨Ao34,co34,eo34⟩:=Kd.R_slice HO144.out;subst eo34)|(refine goesM (some 17) Tryd.func76 #[.slice Ao34 t142.length co34] ?_;(with_reducible refine (wide_Low.calls k _ _ t142 t145 _ ?side1 ?side2 ?side3 A10.out).mono ?_);(case side1=>exact GlobLaid.below HG.out (bl_ HB));(case side2=>exact cs_ (Kd.R_reads' HO144.out).2.2);(case side3=>exact (Kd.R_reads' HO144.out).2.1);rintro e w35 ⟨rfl,hb⟩;refine ⟨_,rfl,?_⟩;replace HO144:=a_ (Kd.R_below (rr_ HO144) hb);replace BK141:=kb_ BK141 hb;replace HB:=bs_ HB hb;(try clear hb);have q36:((ji11):Int)≤((t142.length:Int):Int):=od_;obtain ⟨i036,hi036,_,hsz36,_⟩:=info_parts info68;have hroom36:t142.length≤co34:=(Kd.R_reads' HO144.out).2.1;have hC36:Kd.C (Kd.int .u32) _ Ao34 t142.length t142:=(Kd.R_reads' HO144.out).2.2;have q036:(0:Int)≤((ji11):Int):=od_;have hcut36:=cut_from (P:=Tryd.prog) 28 68 .i64 Tryd.underlying28 hi036 1 hsz36 Ao34 t142.length co34 (ji11) q036 q36;have hr36:=Kd.C_drop (m:=((ji11):Int).toNat) (c:=co34) hC36 (by omega) hroom36;obtain ⟨A36,hA36⟩:∃ A1,A1=(if co34=((ji11):Int).toNat then Ao34 else (Ao34:Option Addr).map (·.add (((ji11):Int).toNat*1))):=⟨_,rfl⟩;obtain ⟨c36,hc36⟩:∃ c1,c1=co34 - ((ji11):Int).toNat:=⟨_,rfl⟩;have hy36:y146.length=t142.length - ((ji11):Int).toNat:=(by rw [Ny146.out,List.length_drop] <;> omega);rw [show (t142).drop ((ji11):Int).toNat=y146 from Ny146.out.symm] at hr36;replace hr36:Kd.C (Kd.int .u32) _ A36 y146.length y146:=(by rw [hA36];exact hr36);rw [← hy36,← hA36,← hc36] at hcut36;have HR149:=a_ hr36;have HC149:=a_ (show y146.length≤c36 from by rw [hy36,hc36];exact Nat.sub_le_sub_right hroom36 _);clear hr36 hC36 hroom36 hi036 hsz36 hc36;have KY36:=a_ hy36;have KA36:=a_ hA36;clear hy36 hA36;have KL36:=a_ (show ((ji11):Int).toNat≤t142.length from by omega);replace q36:=eq_true q36)|(refine goesM (some 24) Tryd.func77 #[.slice A36 y146.length c36,.int .i64 (Int.tmod t145 32)] ?_;(with_reducible refine (dyad_lower.calls k _ _ y146 (Int.tmod t145 32) t150 _ ?side1 ?side2 A14.out).mono ?_);(case side1=>repeat (first|exact (by repeat (first|(with_reducible exact HR149.out)|(with_reducible first|apply cA|apply cN|apply cD)|exact HR149.out))|(with_reducible first|apply cA|apply cN|apply cD)));(case side2=>exact HC149.out);rintro e w37 ⟨v151,rfl,ho0,hb⟩;refine ⟨_,rfl,?_⟩;have HO152:=a_ (Kd.Q_lower (Kd.Q_new' ho0 (Kd.R_lt (rr_ HO144))) (below_size (bl_ HB)));replace HO144:=a_ (Kd.R_elder' (rr_ HO144) (Kd.Q_base ho0) hb);replace BK141:=kb_ BK141 hb;replace HR149:=a_ (Kd.C_below (by repeat (first|(with_reducible exact HR149.out)|(with_reducible first|apply cA|apply cN|apply cD)|exact HR149.out)) hb);replace HB:=bs_ HB hb;(try clear hb);(try clear ho0);obtain ⟨Ao38,co38,eo38,_⟩:=Kd.Q_slice HO152.out;subst eo38;obtain ⟨hcz39_0,hcz39_1,hcz39_2⟩:=bc3 BK141;obtain ⟨hfz39_0,hfz39_1,hfz39_2⟩:=bz3 BK141))
       refine bodyPost_ret (results_ct rfl _ _ gb141 30 #[.bool false,.slice none 0 0,.int .i64 0] (0,0) _ rfl (bq_ BK141) Tryd.underlying30 rfl (by kernel_rfl)) rfl ?_
       exact ⟨_,by first|exact rf_|(simp only [← hji11];exact rf_),Kd.Q_of_R (by first|exact Kd.R_nil _ _ _ _ _|exact Kd.N_nil _ _ _ _ _|exact Kd.V_nil _ _ _ _ _|exact Kd.Q_nil _ _ _ _ _|exact Kd.S_nil _ _ _ _ _),bl_ HB⟩
      ·rw [if_neg c31] at H
       have c31b0:decide (8192<(t150.length:Int))=false:=decide_eq_false c31
       have c31b1:decide (8192<t150.length)=false:=decide_eq_false (by omega)
       clear c31
       simp only [Option.some.injEq,Prod.mk.injEq] at H
       obtain ⟨rfl,rfl,rfl,rfl⟩:=H
       go_enter Tryd.func56,Tryd.ntmps56
       go_wp2_with (first|((with_reducible refine gate_dst (N:=6) rfl ?_);(try (refine gate_guard (by rfl) ?_;dsimp only));refine be_ HB (N:=6) (cs:=#[.bool false,.slice none 0 0,.int .i64 0]) (t:=30) ?_;clear HB;intro gb141 hg w40 hb BK141 GE141 HB;clear hb hg)|(refine goesM (some 11) Tryd.func75 #[.slice A1 l1.length c1] ?_;(with_reducible refine (wide_Norm.calls k _ _ l1 t142 _ ?side1 ?side2 A4.out).mono ?_);(case side1=>exact cs_ (Kd.C_below HR1.out HB.out));(case side2=>exact HC1.out);rintro e w41 ⟨v143,rfl,ho0,hb⟩;refine ⟨_,rfl,?_⟩;have HO144:=a_ (Kd.R_lower ho0 (below_size (bl_ HB)));replace BK141:=kb_ BK141 hb;replace HB:=bs_ HB hb;(try clear hb);(try clear ho0);obtain ⟨Ao42,co42,eo42⟩:=Kd.R_slice HO144.out;subst eo42)|(refine goesM (some 17) Tryd.func76 #[.slice Ao42 t142.length co42] ?_;(with_reducible refine (wide_Low.calls k _ _ t142 t145 _ ?side1 ?side2 ?side3 A10.out).mono ?_);(case side1=>exact GlobLaid.below HG.out (bl_ HB));(case side2=>exact cs_ (Kd.R_reads' HO144.out).2.2);(case side3=>exact (Kd.R_reads' HO144.out).2.1);rintro e w43 ⟨rfl,hb⟩;refine ⟨_,rfl,?_⟩;replace HO144:=a_ (Kd.R_below (rr_ HO144) hb);replace BK141:=kb_ BK141 hb;replace HB:=bs_ HB hb;(try clear hb);have q44:((ji11):Int)≤((t142.length:Int):Int):=od_;obtain ⟨i044,hi044,_,hsz44,_⟩:=info_parts info68;have hroom44:t142.length≤co42:=(Kd.R_reads' HO144.out).2.1;have hC44:Kd.C (Kd.int .u32) _ Ao42 t142.length t142:=(Kd.R_reads' HO144.out).2.2;have q044:(0:Int)≤((ji11):Int):=od_;have hcut44:=cut_from (P:=Tryd.prog) 28 68 .i64 Tryd.underlying28 hi044 1 hsz44 Ao42 t142.length co42 (ji11) q044 q44;have hr44:=Kd.C_drop (m:=((ji11):Int).toNat) (c:=co42) hC44 (by omega) hroom44;obtain ⟨A44,hA44⟩:∃ A1,A1=(if co42=((ji11):Int).toNat then Ao42 else (Ao42:Option Addr).map (·.add (((ji11):Int).toNat*1))):=⟨_,rfl⟩;obtain ⟨c44,hc44⟩:∃ c1,c1=co42 - ((ji11):Int).toNat:=⟨_,rfl⟩;have hy44:y146.length=t142.length - ((ji11):Int).toNat:=(by rw [Ny146.out,List.length_drop] <;> omega);rw [show (t142).drop ((ji11):Int).toNat=y146 from Ny146.out.symm] at hr44;replace hr44:Kd.C (Kd.int .u32) _ A44 y146.length y146:=(by rw [hA44];exact hr44);rw [← hy44,← hA44,← hc44] at hcut44;have HR149:=a_ hr44;have HC149:=a_ (show y146.length≤c44 from by rw [hy44,hc44];exact Nat.sub_le_sub_right hroom44 _);clear hr44 hC44 hroom44 hi044 hsz44 hc44;have KY44:=a_ hy44;have KA44:=a_ hA44;clear hy44 hA44;have KL44:=a_ (show ((ji11):Int).toNat≤t142.length from by omega);replace q44:=eq_true q44)|(refine goesM (some 24) Tryd.func77 #[.slice A44 y146.length c44,.int .i64 (Int.tmod t145 32)] ?_;(with_reducible refine (dyad_lower.calls k _ _ y146 (Int.tmod t145 32) t150 _ ?side1 ?side2 A14.out).mono ?_);(case side1=>repeat (first|exact (by repeat (first|(with_reducible exact HR149.out)|(with_reducible first|apply cA|apply cN|apply cD)|exact HR149.out))|(with_reducible first|apply cA|apply cN|apply cD)));(case side2=>exact HC149.out);rintro e w45 ⟨v151,rfl,ho0,hb⟩;refine ⟨_,rfl,?_⟩;have HO152:=a_ (Kd.Q_lower (Kd.Q_new' ho0 (Kd.R_lt (rr_ HO144))) (below_size (bl_ HB)));replace HO144:=a_ (Kd.R_elder' (rr_ HO144) (Kd.Q_base ho0) hb);replace BK141:=kb_ BK141 hb;replace HR149:=a_ (Kd.C_below (by repeat (first|(with_reducible exact HR149.out)|(with_reducible first|apply cA|apply cN|apply cD)|exact HR149.out)) hb);replace HB:=bs_ HB hb;(try clear hb);(try clear ho0);obtain ⟨Ao46,co46,eo46,_⟩:=Kd.Q_slice HO152.out;subst eo46;obtain ⟨hcz47_0,hcz47_1,hcz47_2⟩:=bc3 BK141;obtain ⟨hfz47_0,hfz47_1,hfz47_2⟩:=bz3 BK141))
       refine bodyPost_ret (results_ct rfl _ _ gb141 30 #[.bool a0,.slice Ao46 t150.length co46,.int .i64 (wrap64 (a2+t145))] (0,0) _ rfl (bq_ BK141) Tryd.underlying30 rfl (by kernel_rfl)) rfl ?_
       exact ⟨_,by first|exact rf_|(simp only [← hji11];exact rf_),by (with_reducible repeat (first|apply Kd.Q_alloc|apply Kd.Q_drewN|apply Kd.Q_drew));exact Kd.Q_mono (Kd.Q_far (p:=⟨gb141,2,none⟩) (Kd.Q_far (p:=⟨gb141,1,none⟩) (Kd.Q_far (p:=⟨gb141,0,none⟩) (Kd.Q_types HO152.out BK141.out (by decide)) (fun _ hk=>hk.2) (.bool a0)) (fun _ hk=>hk.2) (.slice Ao46 t150.length co46)) (fun _ hk=>hk.2) (.int .i64 (wrap64 (a2+t145)))) (fun _ hk=>trivial),bl_ HB⟩
   ·rw [if_neg c13] at H
    exact ab_ H
  ·rw [if_neg c12] at H
   exact ab_ H

def wide_Of.f (k:Nat) (a0:Int):Option (List Int):=(wide_Norm.f k (([(a0)%4294967296,(a0 / 4294967296)%4294967296]:List Int))).bind fun t156=>(some t156)
theorem wide_Of.calls (k:Nat) (a0:Int) (r:List Int) (w:World) (h:wide_Of.f k a0=some r) :
  Calls Tryd.prog 57 #[.int .u64 a0] w fun e w'=>∃ v0_:Value,e = .returned (v0_)∧Kd.R (Kd.int .u32) 68 w' w.heap.size (fun _=>True) v0_ r∧Below w.heap.size w w':=by
 have HB:=a_ (Below.refl w.heap.size w)
 have H:=h
 unfold wide_Of.f at H
 clear h
 obtain ⟨y153,hy153⟩:∃ y_:List Int,y_=(([(a0)%4294967296,(a0 / 4294967296)%4294967296]:List Int)):=⟨_,rfl⟩
 replace H:((wide_Norm.f k y153).bind fun t156=>(some t156))=some r:=by first|(rw [hy153];first|exact t1_ H|exact t2_ H)|exact t2_ H|exact t1_ H|(rw [hy153];exact H)|exact H
 have Ny153:=a_ hy153
 clear hy153
 obtain ⟨t156,A2,H⟩:=ob_ H
 try dsimp only at H
 obtain rfl:=Option.some.inj H
 go_enter Tryd.func57,Tryd.ntmps57
 go_wp2_with (first|((with_reducible refine gate_dst (N:=8) rfl ?_);refine Kd.R_lit (Kd.int .u32) _ 68 ?hg (N:=8) ?hd (xs:=([(a0)%4294967296,(a0 / 4294967296)%4294967296]:List Int)) (inner:=[.int .u32 ((a0)%4294967296),.int .u32 ((a0 / 4294967296)%4294967296)]) (ok:=fun _=>True) (okp:=fun _=>True) ?hr ?hp (fun _ hk=>hk) trivial (Below.refl _ _) (Nat.le_refl _) (by simp) ?_;(case hd=>rfl);(case hg=>rfl);(case hr=>first|(go_simp;done)|(go_simp;rfl));(case hp=>exact (Reps.one (show Kd.M (Kd.int .u32) _ _ _ ((a0)%4294967296) [.int .u32 ((a0)%4294967296)] from rfl) (Reps.one (show Kd.M (Kd.int .u32) _ _ _ ((a0 / 4294967296)%4294967296) [.int .u32 ((a0 / 4294967296)%4294967296)] from rfl) (Reps.none _ _))));intro v154 w3 ho4 hb hg_ hnew_;clear hg_ hnew_;(first|rw [← Ny153.out] at ho4|(simp only [Int.reduceToNat] at ho4;rw [← Ny153.out] at ho4));have HO155:=a_ (Kd.R_lower ho4 (below_size (bl_ HB)));replace HB:=bs_ HB hb;clear hb ho4;obtain ⟨Ao5,co5,eo5⟩:=Kd.R_slice HO155.out;subst eo5)|(refine goesM (some 9) Tryd.func75 #[.slice Ao5 y153.length co5] ?_;(with_reducible refine (wide_Norm.calls k _ _ y153 t156 _ ?side1 ?side2 A2.out).mono ?_);(case side1=>exact cs_ (Kd.R_reads' HO155.out).2.2);(case side2=>exact (Kd.R_reads' HO155.out).2.1);rintro e w6 ⟨v157,rfl,ho0,hb⟩;refine ⟨_,rfl,?_⟩;have HO158:=a_ (Kd.R_lower (Kd.R_new' ho0 (Kd.R_lt (rr_ HO155))) (below_size (bl_ HB)));replace HO155:=a_ (Kd.R_elder' (rr_ HO155) (Kd.R_base ho0) hb);replace HB:=bs_ HB hb;(try clear hb);(try clear ho0)))
 go_ret
 exact ⟨_,rf_,by (with_reducible repeat (first|apply rA|apply rN|apply rD));exact Kd.R_mono HO158.out (fun _ hk=>trivial),bl_ HB⟩
def dyad_both.f (k:Nat) (a0_0:Bool) (l0_1:List Int) (a0_2:Int) (a1_0:Bool) (l1_1:List Int) (a1_2:Int):Option (Bool × List Int × Int × Bool × List Int × Int × Int):=(dyad_form.f k a0_0 l0_1 a0_2).bind fun bt180=>(if bt180.2.2.2=0 then ((dyad_form.f k a1_0 l1_1 a1_2).bind fun bt186=>(some (bt180.1,bt180.2.1,bt180.2.2.1,bt186.1,bt186.2.1,bt186.2.2.1,bt186.2.2.2))) else (some (bt180.1,bt180.2.1,bt180.2.2.1,false,([]:List Int),0,bt180.2.2.2)))
theorem dyad_both.calls (k:Nat) (a0_0:Bool) (A0_1:Option Addr) (c0_1:Nat) (l0_1:List Int) (a0_2:Int) (a1_0:Bool) (A1_1:Option Addr) (c1_1:Nat) (l1_1:List Int) (a1_2:Int) (r1:Bool) (r2:List Int) (r3:Int) (r4:Bool) (r5:List Int) (r6:Int) (r7:Int) (w:World) (hG:GlobLaid w) (hr0_1:Kd.C (Kd.int .u32) w A0_1 l0_1.length l0_1) (hc0_1:l0_1.length≤c0_1) (hr1_1:Kd.C (Kd.int .u32) w A1_1 l1_1.length l1_1) (hc1_1:l1_1.length≤c1_1) (h:dyad_both.f k a0_0 l0_1 a0_2 a1_0 l1_1 a1_2=some (r1,r2,r3,r4,r5,r6,r7)) :
  Calls Tryd.prog 58 #[.agg #[.bool a0_0,.slice A0_1 l0_1.length c0_1,.int .i64 a0_2],.agg #[.bool a1_0,.slice A1_1 l1_1.length c1_1,.int .i64 a1_2]] w fun e w'=>∃ v1_ v4_:Value,e = .returned (.tuple #[.agg #[.bool r1,v1_,.int .i64 r3],.agg #[.bool r4,v4_,.int .i64 r6],.int .i64 r7])∧Kd.Q (Kd.int .u32) 68 w' w.heap.size (fun k_=>some k_≠(v4_:Value).ownBlock) v1_ r2∧Kd.Q (Kd.int .u32) 68 w' w.heap.size (fun k_=>some k_≠(v1_:Value).ownBlock) v4_ r5∧Below w.heap.size w w':=by
 have hu30:=Tryd.underlying30
 have HG:=a_ hG
 clear hG
 have HR0_1:=a_ hr0_1
 have HC0_1:=a_ hc0_1
 clear hr0_1 hc0_1
 have HR1_1:=a_ hr1_1
 have HC1_1:=a_ hc1_1
 clear hr1_1 hc1_1
 have HB:=a_ (Below.refl w.heap.size w)
 have H:=h
 unfold dyad_both.f at H
 clear h
 obtain ⟨⟨t180,t181,t184,t185⟩,A3,H⟩:=ob_ H
 try dsimp only at H
 by_cases c4:t185=0
 ·rw [if_pos c4] at H
  have c4b0:(t185 == 0)=true:=beq_iff_eq.mpr c4
  have c4b1:(t185 != 0)=false:=bne_eq_false_iff_eq.mpr c4
  clear c4
  obtain ⟨⟨t186,t187,t190,t191⟩,A5,H⟩:=ob_ H
  try dsimp only at H
  simp only [Option.some.injEq,Prod.mk.injEq] at H
  obtain ⟨rfl,rfl,rfl,rfl,rfl,rfl,rfl⟩:=H
  go_enter Tryd.func58,Tryd.ntmps58
  try go_wp2_with ((with_reducible refine g_ ?_);first|(refine be_ HB (N:=2) (cs:=#[.bool a0_0,.slice A0_1 l0_1.length c0_1,.int .i64 a0_2]) (t:=30) ?_;clear HB;intro gb176 hg w6 hb BK176 GE176 HB;clear hb hg)|(refine be_ HB (N:=3) (cs:=#[.bool a1_0,.slice A1_1 l1_1.length c1_1,.int .i64 a1_2]) (t:=30) ?_;clear HB;intro gb177 hg w7 hb BK177 GE177 HB;have NB176_177:=nlt_ BK176 hg;have NB177_176:=ngt_ BK176 hg;replace BK176:=kb_ BK176 hb;clear hb hg)|(refine be_ HB (N:=4) (cs:=#[.bool false,.slice none 0 0,.int .i64 0]) (t:=30) ?_;clear HB;intro gb178 hg w8 hb BK178 GE178 HB;have NB176_178:=nlt_ BK176 hg;have NB178_176:=ngt_ BK176 hg;replace BK176:=kb_ BK176 hb;have NB177_178:=nlt_ BK177 hg;have NB178_177:=ngt_ BK177 hg;replace BK177:=kb_ BK177 hb;clear hb hg)|(refine be_ HB (N:=5) (cs:=#[.bool false,.slice none 0 0,.int .i64 0]) (t:=30) ?_;clear HB;intro gb179 hg w9 hb BK179 GE179 HB;have NB176_179:=nlt_ BK176 hg;have NB179_176:=ngt_ BK176 hg;replace BK176:=kb_ BK176 hb;have NB177_179:=nlt_ BK177 hg;have NB179_177:=ngt_ BK177 hg;replace BK177:=kb_ BK177 hb;have NB178_179:=nlt_ BK178 hg;have NB179_178:=ngt_ BK178 hg;replace BK178:=kb_ BK178 hb;clear hb hg;have hnb10:=NB176_177.out;have hnc10:=NB177_176.out;have hnb11:=NB176_178.out;have hnc11:=NB178_176.out;have hnb12:=NB176_179.out;have hnc12:=NB179_176.out;obtain ⟨hcz13_0,hcz13_1,hcz13_2⟩:=bc3 BK176;obtain ⟨hfz13_0,hfz13_1,hfz13_2⟩:=bz3 BK176)|(refine goesM (some 14) Tryd.func56 #[.bool a0_0,.slice A0_1 l0_1.length c0_1,.int .i64 a0_2] ?_;(with_reducible refine (dyad_form.calls k a0_0 _ _ l0_1 a0_2 t180 t181 t184 t185 _ ?side1 ?side2 ?side3 A3.out).mono ?_);(case side1=>exact GlobLaid.below HG.out (bl_ HB));(case side2=>exact cs_ (Kd.C_below HR0_1.out HB.out));(case side3=>exact HC0_1.out);rintro e w14 ⟨v182,rfl,ho0,hb⟩;refine ⟨_,rfl,?_⟩;have HO183:=a_ (Kd.Q_lower ho0 (below_size (bl_ HB)));replace BK176:=kb_ BK176 hb;replace BK177:=kb_ BK177 hb;replace BK178:=kb_ BK178 hb;replace BK179:=kb_ BK179 hb;replace HB:=bs_ HB hb;(try clear hb);(try clear ho0);have hnb15:=NB178_177.out;have hnc15:=NB177_178.out;have hnb16:=NB178_179.out;have hnc16:=NB179_178.out;obtain ⟨hcz17_0,hcz17_1,hcz17_2⟩:=bc3 BK178;obtain ⟨hfz17_0,hfz17_1,hfz17_2⟩:=bz3 BK178;obtain ⟨Ao18,co18,eo18,_⟩:=Kd.Q_slice HO183.out;subst eo18;have hnb19:=NB177_179.out;have hnc19:=NB179_177.out;obtain ⟨hcz20_0,hcz20_1,hcz20_2⟩:=bc3 BK177;obtain ⟨hfz20_0,hfz20_1,hfz20_2⟩:=bz3 BK177)|(refine goesM (some 26) Tryd.func56 #[.bool a1_0,.slice A1_1 l1_1.length c1_1,.int .i64 a1_2] ?_;(with_reducible refine (dyad_form.calls k a1_0 _ _ l1_1 a1_2 t186 t187 t190 t191 _ ?side1 ?side2 ?side3 A5.out).mono ?_);(case side1=>exact GlobLaid.below HG.out (bl_ HB));(case side2=>exact Kd.C_below HR1_1.out (bl_ HB));(case side3=>exact HC1_1.out);rintro e w21 ⟨v188,rfl,ho0,hb⟩;refine ⟨_,rfl,?_⟩;have HO189:=a_ (Kd.Q_lower (Kd.Q_new' ho0 (Kd.Q_lt (by (with_reducible repeat (first|apply Kd.Q_alloc|apply Kd.Q_drewN|apply Kd.Q_drew));exact (Kd.Q_mono (Kd.Q_far (p:=⟨gb178,2,none⟩) (Kd.Q_far (p:=⟨gb178,1,none⟩) (Kd.Q_far (p:=⟨gb178,0,none⟩) (Kd.Q_types HO183.out BK178.out (by decide)) (fun _ hk=>hk.2) (.bool t180)) (fun _ hk=>hk.2) (.slice Ao18 t181.length co18)) (fun _ hk=>hk.2) (.int .i64 t184)) (fun _ h_=>h_.1))))) (below_size (bl_ HB)));replace HO183:=a_ (Kd.Q_elder' (by (with_reducible repeat (first|apply Kd.Q_alloc|apply Kd.Q_drewN|apply Kd.Q_drew));exact (Kd.Q_mono (Kd.Q_far (p:=⟨gb178,2,none⟩) (Kd.Q_far (p:=⟨gb178,1,none⟩) (Kd.Q_far (p:=⟨gb178,0,none⟩) (Kd.Q_types HO183.out BK178.out (by decide)) (fun _ hk=>hk.2) (.bool t180)) (fun _ hk=>hk.2) (.slice Ao18 t181.length co18)) (fun _ hk=>hk.2) (.int .i64 t184)) (fun _ h_=>h_.1))) (Kd.Q_base ho0) hb);replace BK176:=a_ (blk_below (g:=gb176) (o:=.cells #[.bool a0_0,.slice A0_1 l0_1.length c0_1,.int .i64 a0_2] 30 (0,0)) (bq_ BK176) hb);replace BK177:=a_ (blk_below (g:=gb177) (o:=.cells #[.bool a1_0,.slice A1_1 l1_1.length c1_1,.int .i64 a1_2] 30 (0,0)) (bq_ BK177) hb);replace BK178:=a_ (blk_below (g:=gb178) (o:=.cells #[.bool t180,.slice Ao18 t181.length co18,.int .i64 t184] 30 (0,0)) (bq_ BK178) hb);replace BK179:=a_ (blk_below (g:=gb179) (o:=.cells #[.bool false,.slice none 0 0,.int .i64 0] 30 (0,0)) (bq_ BK179) hb);replace HB:=bs_ HB hb;(try clear hb);(try clear ho0);obtain ⟨hcz22_0,hcz22_1,hcz22_2⟩:=bc3 BK179;obtain ⟨hfz22_0,hfz22_1,hfz22_2⟩:=bz3 BK179;obtain ⟨Ao23,co23,eo23,_⟩:=Kd.Q_slice HO189.out;subst eo23))
  have n0_:Aside0 (Kd.Q (Kd.int .u32) 68 (((w21.setCell ⟨gb179,0,none⟩ (.bool t186)).setCell ⟨gb179,1,none⟩ (.slice Ao23 t187.length co23)).setCell ⟨gb179,2,none⟩ (.int .i64 t190)) w.heap.size (fun k_=>some k_≠(.slice Ao23 t187.length co23:Value).ownBlock) (.slice Ao18 t181.length co18) t181):=⟨by (with_reducible repeat (first|apply Kd.Q_alloc|apply Kd.Q_drewN|apply Kd.Q_drew));exact Kd.Q_mono (Kd.Q_far (p:=⟨gb179,2,none⟩) (Kd.Q_far (p:=⟨gb179,1,none⟩) (Kd.Q_far (p:=⟨gb179,0,none⟩) (Kd.Q_types HO183.out BK179.out (by decide)) (fun _ hk=>hk.2) (.bool t186)) (fun _ hk=>hk.2) (.slice Ao23 t187.length co23)) (fun _ hk=>hk.2) (.int .i64 t190)) (fun _ hk=>hk.1.2)⟩
  have n1_:Aside0 (Kd.Q (Kd.int .u32) 68 (((w21.setCell ⟨gb179,0,none⟩ (.bool t186)).setCell ⟨gb179,1,none⟩ (.slice Ao23 t187.length co23)).setCell ⟨gb179,2,none⟩ (.int .i64 t190)) w.heap.size (fun k_=>some k_≠(.slice Ao18 t181.length co18:Value).ownBlock) (.slice Ao23 t187.length co23) t187):=⟨by (with_reducible repeat (first|apply Kd.Q_alloc|apply Kd.Q_drewN|apply Kd.Q_drew));exact Kd.Q_mono (Kd.Q_far (p:=⟨gb179,2,none⟩) (Kd.Q_far (p:=⟨gb179,1,none⟩) (Kd.Q_far (p:=⟨gb179,0,none⟩) (Kd.Q_types HO189.out BK179.out (by decide)) (fun _ hk=>hk.2) (.bool t186)) (fun _ hk=>hk.2) (.slice Ao23 t187.length co23)) (fun _ hk=>hk.2) (.int .i64 t190)) (fun _ hk=>hk.1.2)⟩
  have n2_:Aside0 ((((w21.setCell ⟨gb179,0,none⟩ (.bool t186)).setCell ⟨gb179,1,none⟩ (.slice Ao23 t187.length co23)).setCell ⟨gb179,2,none⟩ (.int .i64 t190)).heap[gb176]? = some (.cells #[.bool a0_0,.slice A0_1 l0_1.length c0_1,.int .i64 a0_2] 30 (0,0))):=⟨bq_ BK176⟩
  have n3_:Aside0 ((((w21.setCell ⟨gb179,0,none⟩ (.bool t186)).setCell ⟨gb179,1,none⟩ (.slice Ao23 t187.length co23)).setCell ⟨gb179,2,none⟩ (.int .i64 t190)).heap[gb177]? = some (.cells #[.bool a1_0,.slice A1_1 l1_1.length c1_1,.int .i64 a1_2] 30 (0,0))):=⟨bq_ BK177⟩
  have n4_:Aside0 ((((w21.setCell ⟨gb179,0,none⟩ (.bool t186)).setCell ⟨gb179,1,none⟩ (.slice Ao23 t187.length co23)).setCell ⟨gb179,2,none⟩ (.int .i64 t190)).heap[gb178]? = some (.cells #[.bool t180,.slice Ao18 t181.length co18,.int .i64 t184] 30 (0,0))):=⟨bq_ BK178⟩
  have n5_:Aside0 ((((w21.setCell ⟨gb179,0,none⟩ (.bool t186)).setCell ⟨gb179,1,none⟩ (.slice Ao23 t187.length co23)).setCell ⟨gb179,2,none⟩ (.int .i64 t190)).heap[gb179]? = some (.cells #[.bool t186,.slice Ao23 t187.length co23,.int .i64 t190] 30 (0,0))):=⟨bq_ BK179⟩
  have n6_:Aside0 (Below w.heap.size w (((w21.setCell ⟨gb179,0,none⟩ (.bool t186)).setCell ⟨gb179,1,none⟩ (.slice Ao23 t187.length co23)).setCell ⟨gb179,2,none⟩ (.int .i64 t190))):=⟨bl_ HB⟩
  (try clear HO183)
  (try clear HO189)
  (try clear BK176)
  (try clear BK177)
  (try clear BK178)
  (try clear BK179)
  (try clear HB)
  generalize (((w21.setCell ⟨gb179,0,none⟩ (.bool t186)).setCell ⟨gb179,1,none⟩ (.slice Ao23 t187.length co23)).setCell ⟨gb179,2,none⟩ (.int .i64 t190))=w24 at n0_ n1_ n2_ n3_ n4_ n5_ n6_ ⊢
  have HO183:=n0_
  have HO189:=n1_
  have BK176:=n2_
  have BK177:=n3_
  have BK178:=n4_
  have BK179:=n5_
  have HB:=n6_
  clear n0_ n1_ n2_ n3_ n4_ n5_ n6_
  have n0_:=a_ (Kd.Q_drew HO183.out)
  have n1_:=a_ (Kd.Q_drew HO189.out)
  have n2_:=a_ (blk_drew BK176.out)
  have n3_:=a_ (blk_drew BK177.out)
  have n4_:=a_ (blk_drew BK178.out)
  have n5_:=a_ (blk_drew BK179.out)
  have n6_:=a_ (below_drew1 HB.out)
  clear HO183
  clear HO189
  clear BK176
  clear BK177
  clear BK178
  clear BK179
  clear HB
  have HO183:=n0_
  have HO189:=n1_
  have BK176:=n2_
  have BK177:=n3_
  have BK178:=n4_
  have BK179:=n5_
  have HB:=n6_
  clear n0_ n1_ n2_ n3_ n4_ n5_ n6_
  refine start_ (n:=6) (S:=fun w'=>w'.cell? ⟨gb178,0,none⟩=some (.bool t180)∧w'.cell? ⟨gb178,1,none⟩=some (.slice Ao18 t181.length co18)∧w'.cell? ⟨gb178,2,none⟩=some (.int .i64 t184)∧w'.cell? ⟨gb179,0,none⟩=some (.bool t186)∧w'.cell? ⟨gb179,1,none⟩=some (.slice Ao23 t187.length co23)∧w'.cell? ⟨gb179,2,none⟩=some (.int .i64 t190)) (ds:=[4]) #[false,false,false,false,false,false] (by kernel_rfl) rfl rfl ⟨(bc_ BK178 0),(bc_ BK178 1),(bc_ BK178 2),(bc_ BK179 0),(bc_ BK179 1),(bc_ BK179 2)⟩ (fun hHeld=>?_)
  generalize w24.drew=w25 at HO183 HO189 BK176 BK177 BK178 BK179 HB hHeld ⊢
  refine pure_ (i:=2) (N:=some 31) (v:=?_) (a':=?_) #[false,false,true,false,false,false] rfl rfl (by kernel_rfl) (fun _ _ _ h=>h) (Or.inl ⟨by rfl,?_⟩) ?_ ?_
  rotate_left
  ·intro w'
   go_simp
   with_reducible rfl
  rotate_left
  ·exact nf_
  refine take_ (i:=0) (N:=some 29) (v:=?_) (a':=?_) #[true,false,true,false,false,false] rfl rfl (by kernel_rfl) (fun _ _ _ h=>h) (Or.inl ⟨by rfl,?_⟩) hHeld ?_ ?_
  rotate_left
  ·rintro w' ⟨s0,s1,s2,s3,s4,s5⟩
   go_simp
   with_reducible rfl
  rotate_left
  ·exact nf_
  refine take_ (i:=1) (N:=some 30) (v:=?_) (a':=?_) #[true,true,true,false,false,false] rfl rfl (by kernel_rfl) (fun _ _ _ h=>h) (Or.inl ⟨by rfl,?_⟩) hHeld ?_ ?_
  rotate_left
  ·rintro w' ⟨s0,s1,s2,s3,s4,s5⟩
   go_simp
   with_reducible rfl
  rotate_left
  ·exact nf_
  refine one_ (i:=3) (N:=none) #[true,true,true,true,false,false] rfl rfl (by kernel_rfl) (by decide) (fun K hK=>?_)
  have hs26:w25.cell? ⟨gb178,0,none⟩=some (.bool t180):=bc_ BK178 0
  have hfs26:=bz_ BK178 0
  have hns26_0:=NB176_178.out
  have hns26_1:=NB177_178.out
  have hns26_3:=NB179_178.out
  have hms26_0:=NB178_176.out
  have hms26_1:=NB178_177.out
  have hms26_3:=NB178_179.out
  have hs27:w25.cell? ⟨gb178,1,none⟩=some (.slice Ao18 t181.length co18):=bc_ BK178 1
  have hfs27:=bz_ BK178 1
  have hns27_0:=NB176_178.out
  have hns27_1:=NB177_178.out
  have hns27_3:=NB179_178.out
  have hms27_0:=NB178_176.out
  have hms27_1:=NB178_177.out
  have hms27_3:=NB178_179.out
  have hs28:w25.cell? ⟨gb178,2,none⟩=some (.int .i64 t184):=bc_ BK178 2
  have hfs28:=bz_ BK178 2
  have hns28_0:=NB176_178.out
  have hns28_1:=NB177_178.out
  have hns28_3:=NB179_178.out
  have hms28_0:=NB178_176.out
  have hms28_1:=NB178_177.out
  have hms28_3:=NB178_179.out
  refine skip_ (w1:=?_) (by rfl) rfl ?_ ?_
  rotate_left
  ·go_simp
   rfl
  refine hK.out _ _ ⟨((blk_cell (g:=gb178) (t:=30) (cs:=#[.bool t180,.slice Ao18 t181.length co18,.int .i64 t184]) (by refine blk_put (t:=30) (cs:=#[.bool t180,.slice Ao18 t181.length co18,.int .i64 t184]) ?_ 2 _ rfl;refine blk_put (t:=30) (cs:=#[.bool t180,.slice Ao18 t181.length co18,.int .i64 t184]) ?_ 1 _ rfl;refine blk_put (t:=30) (cs:=#[.bool t180,.slice Ao18 t181.length co18,.int .i64 t184]) ?_ 0 _ rfl;exact BK178.out) 0).trans rfl),((blk_cell (g:=gb178) (t:=30) (cs:=#[.bool t180,.slice Ao18 t181.length co18,.int .i64 t184]) (by refine blk_put (t:=30) (cs:=#[.bool t180,.slice Ao18 t181.length co18,.int .i64 t184]) ?_ 2 _ rfl;refine blk_put (t:=30) (cs:=#[.bool t180,.slice Ao18 t181.length co18,.int .i64 t184]) ?_ 1 _ rfl;refine blk_put (t:=30) (cs:=#[.bool t180,.slice Ao18 t181.length co18,.int .i64 t184]) ?_ 0 _ rfl;exact BK178.out) 1).trans rfl),((blk_cell (g:=gb178) (t:=30) (cs:=#[.bool t180,.slice Ao18 t181.length co18,.int .i64 t184]) (by refine blk_put (t:=30) (cs:=#[.bool t180,.slice Ao18 t181.length co18,.int .i64 t184]) ?_ 2 _ rfl;refine blk_put (t:=30) (cs:=#[.bool t180,.slice Ao18 t181.length co18,.int .i64 t184]) ?_ 1 _ rfl;refine blk_put (t:=30) (cs:=#[.bool t180,.slice Ao18 t181.length co18,.int .i64 t184]) ?_ 0 _ rfl;exact BK178.out) 2).trans rfl),((cell_far (p:=⟨gb178,_,none⟩) NB179_178.out _).trans (((cell_far (p:=⟨gb178,_,none⟩) NB179_178.out _).trans (((cell_far (p:=⟨gb178,_,none⟩) NB179_178.out _).trans (hHeld.2.2.2.1)))))),((cell_far (p:=⟨gb178,_,none⟩) NB179_178.out _).trans (((cell_far (p:=⟨gb178,_,none⟩) NB179_178.out _).trans (((cell_far (p:=⟨gb178,_,none⟩) NB179_178.out _).trans (hHeld.2.2.2.2.1)))))),((cell_far (p:=⟨gb178,_,none⟩) NB179_178.out _).trans (((cell_far (p:=⟨gb178,_,none⟩) NB179_178.out _).trans (((cell_far (p:=⟨gb178,_,none⟩) NB179_178.out _).trans (hHeld.2.2.2.2.2))))))⟩ (fun hHeld=>?_)
  clear hK K
  refine last_ (i:=4) (N:=none) #[true,true,true,true,true,false] rfl rfl (by kernel_rfl) (by decide) (fun K hK=>?_)
  have hs29:w25.cell? ⟨gb179,0,none⟩=some (.bool t186):=bc_ BK179 0
  have hfs29:=bz_ BK179 0
  have hns29_0:=NB176_179.out
  have hns29_1:=NB177_179.out
  have hns29_2:=NB178_179.out
  have hms29_0:=NB179_176.out
  have hms29_1:=NB179_177.out
  have hms29_2:=NB179_178.out
  have hs30:w25.cell? ⟨gb179,1,none⟩=some (.slice Ao23 t187.length co23):=bc_ BK179 1
  have hfs30:=bz_ BK179 1
  have hns30_0:=NB176_179.out
  have hns30_1:=NB177_179.out
  have hns30_2:=NB178_179.out
  have hms30_0:=NB179_176.out
  have hms30_1:=NB179_177.out
  have hms30_2:=NB179_178.out
  have hs31:w25.cell? ⟨gb179,2,none⟩=some (.int .i64 t190):=bc_ BK179 2
  have hfs31:=bz_ BK179 2
  have hns31_0:=NB176_179.out
  have hns31_1:=NB177_179.out
  have hns31_2:=NB178_179.out
  have hms31_0:=NB179_176.out
  have hms31_1:=NB179_177.out
  have hms31_2:=NB179_178.out
  refine skip_ (w1:=?_) (by rfl) rfl ?_ ?_
  rotate_left
  ·go_simp
   rfl
  refine hK.out _ _ ?_
  clear hK K
  refine pure_ (i:=5) (N:=some 6) (v:=?_) (a':=?_) #[true,true,true,true,true,true] rfl rfl (by kernel_rfl) (fun _ _ _ h=>h) (Or.inl ⟨by rfl,?_⟩) ?_ ?_
  rotate_left
  ·intro w'
   go_simp
   with_reducible rfl
  rotate_left
  ·exact nf_
  refine done_ (by kernel_rfl) ?_
  try go_wp2
  refine bodyPost_ret (results_list (rs:=[.cell 4 30,.cell 5 30,.tmp 6]) rfl (by simp) (.cell gb178 30 #[.bool t180,.slice Ao18 t181.length co18,.int .i64 t184] (0,0) _ rfl (by (with_reducible repeat (first|apply bN|apply bD|apply bA));refine blk_far ?_ NB178_179.out _;(with_reducible repeat (first|apply bN|apply bD|apply bA));refine blk_far ?_ NB178_179.out _;(with_reducible repeat (first|apply bN|apply bD|apply bA));refine blk_far ?_ NB178_179.out _;(with_reducible repeat (first|apply bN|apply bD|apply bA));refine blk_put (cs:=#[.bool t180,.slice Ao18 t181.length co18,.int .i64 t184]) ?_ 2 _ rfl;(with_reducible repeat (first|apply bN|apply bD|apply bA));refine blk_put (cs:=#[.bool t180,.slice Ao18 t181.length co18,.int .i64 t184]) ?_ 1 _ rfl;(with_reducible repeat (first|apply bN|apply bD|apply bA));refine blk_put (cs:=#[.bool t180,.slice Ao18 t181.length co18,.int .i64 t184]) ?_ 0 _ rfl;exact bk_ BK178) Tryd.underlying30 rfl (by kernel_rfl) (.cell gb179 30 #[.bool t186,.slice Ao23 t187.length co23,.int .i64 t190] (0,0) _ rfl (by (with_reducible repeat (first|apply bN|apply bD|apply bA));refine blk_put (cs:=#[.bool t186,.slice Ao23 t187.length co23,.int .i64 t190]) ?_ 2 _ rfl;(with_reducible repeat (first|apply bN|apply bD|apply bA));refine blk_put (cs:=#[.bool t186,.slice Ao23 t187.length co23,.int .i64 t190]) ?_ 1 _ rfl;(with_reducible repeat (first|apply bN|apply bD|apply bA));refine blk_put (cs:=#[.bool t186,.slice Ao23 t187.length co23,.int .i64 t190]) ?_ 0 _ rfl;(with_reducible repeat (first|apply bN|apply bD|apply bA));refine blk_far ?_ NB179_178.out _;(with_reducible repeat (first|apply bN|apply bD|apply bA));refine blk_far ?_ NB179_178.out _;(with_reducible repeat (first|apply bN|apply bD|apply bA));refine blk_far ?_ NB179_178.out _;exact bk_ BK179) Tryd.underlying30 rfl (by kernel_rfl) (.tmp .nil)))) rfl ?_
  exact ⟨_,_,rf_,by (with_reducible repeat (first|apply Kd.Q_alloc|apply Kd.Q_drewN|apply Kd.Q_drew));exact Kd.Q_mono (Kd.Q_far (p:=⟨gb179,2,none⟩) (Kd.Q_far (p:=⟨gb179,1,none⟩) (Kd.Q_far (p:=⟨gb179,0,none⟩) (Kd.Q_far (p:=⟨gb178,2,none⟩) (Kd.Q_far (p:=⟨gb178,1,none⟩) (Kd.Q_far (p:=⟨gb178,0,none⟩) (Kd.Q_types (Kd.Q_types HO183.out BK178.out (by decide)) BK179.out (by decide)) (fun _ hk=>hk.1.2) (.bool t180)) (fun _ hk=>hk.1.2) (.slice Ao18 t181.length co18)) (fun _ hk=>hk.1.2) (.int .i64 t184)) (fun _ hk=>hk.2) (.bool t186)) (fun _ hk=>hk.2) (.slice Ao23 t187.length co23)) (fun _ hk=>hk.2) (.int .i64 t190)) (fun _ hk=>hk.1.1),by (with_reducible repeat (first|apply Kd.Q_alloc|apply Kd.Q_drewN|apply Kd.Q_drew));exact Kd.Q_mono (Kd.Q_far (p:=⟨gb179,2,none⟩) (Kd.Q_far (p:=⟨gb179,1,none⟩) (Kd.Q_far (p:=⟨gb179,0,none⟩) (Kd.Q_far (p:=⟨gb178,2,none⟩) (Kd.Q_far (p:=⟨gb178,1,none⟩) (Kd.Q_far (p:=⟨gb178,0,none⟩) (Kd.Q_types (Kd.Q_types HO189.out BK178.out (by decide)) BK179.out (by decide)) (fun _ hk=>hk.1.2) (.bool t180)) (fun _ hk=>hk.1.2) (.slice Ao18 t181.length co18)) (fun _ hk=>hk.1.2) (.int .i64 t184)) (fun _ hk=>hk.2) (.bool t186)) (fun _ hk=>hk.2) (.slice Ao23 t187.length co23)) (fun _ hk=>hk.2) (.int .i64 t190)) (fun _ hk=>hk.1.1),bl_ HB⟩
 ·rw [if_neg c4] at H
  have c4b0:(t185 == 0)=false:=beq_eq_false_iff_ne.mpr c4
  have c4b1:(t185 != 0)=true:=bne_iff_ne.mpr c4
  simp only [Option.some.injEq,Prod.mk.injEq] at H
  obtain ⟨rfl,rfl,rfl,rfl,rfl,rfl,rfl⟩:=H
  go_enter Tryd.func58,Tryd.ntmps58
  try go_wp2_with ((with_reducible refine g_ ?_);first|(refine be_ HB (N:=2) (cs:=#[.bool a0_0,.slice A0_1 l0_1.length c0_1,.int .i64 a0_2]) (t:=30) ?_;clear HB;intro gb176 hg w32 hb BK176 GE176 HB;clear hb hg)|(refine be_ HB (N:=3) (cs:=#[.bool a1_0,.slice A1_1 l1_1.length c1_1,.int .i64 a1_2]) (t:=30) ?_;clear HB;intro gb177 hg w33 hb BK177 GE177 HB;have NB176_177:=nlt_ BK176 hg;have NB177_176:=ngt_ BK176 hg;replace BK176:=kb_ BK176 hb;clear hb hg)|(refine be_ HB (N:=4) (cs:=#[.bool false,.slice none 0 0,.int .i64 0]) (t:=30) ?_;clear HB;intro gb178 hg w34 hb BK178 GE178 HB;have NB176_178:=nlt_ BK176 hg;have NB178_176:=ngt_ BK176 hg;replace BK176:=kb_ BK176 hb;have NB177_178:=nlt_ BK177 hg;have NB178_177:=ngt_ BK177 hg;replace BK177:=kb_ BK177 hb;clear hb hg)|(refine be_ HB (N:=5) (cs:=#[.bool false,.slice none 0 0,.int .i64 0]) (t:=30) ?_;clear HB;intro gb179 hg w35 hb BK179 GE179 HB;have NB176_179:=nlt_ BK176 hg;have NB179_176:=ngt_ BK176 hg;replace BK176:=kb_ BK176 hb;have NB177_179:=nlt_ BK177 hg;have NB179_177:=ngt_ BK177 hg;replace BK177:=kb_ BK177 hb;have NB178_179:=nlt_ BK178 hg;have NB179_178:=ngt_ BK178 hg;replace BK178:=kb_ BK178 hb;clear hb hg;have hnb36:=NB176_177.out;have hnc36:=NB177_176.out;have hnb37:=NB176_178.out;have hnc37:=NB178_176.out;have hnb38:=NB176_179.out;have hnc38:=NB179_176.out;obtain ⟨hcz39_0,hcz39_1,hcz39_2⟩:=bc3 BK176;obtain ⟨hfz39_0,hfz39_1,hfz39_2⟩:=bz3 BK176)|(refine goesM (some 14) Tryd.func56 #[.bool a0_0,.slice A0_1 l0_1.length c0_1,.int .i64 a0_2] ?_;(with_reducible refine (dyad_form.calls k a0_0 _ _ l0_1 a0_2 t180 t181 t184 t185 _ ?side1 ?side2 ?side3 A3.out).mono ?_);(case side1=>exact GlobLaid.below HG.out (bl_ HB));(case side2=>exact cs_ (Kd.C_below HR0_1.out HB.out));(case side3=>exact HC0_1.out);rintro e w40 ⟨v182,rfl,ho0,hb⟩;refine ⟨_,rfl,?_⟩;have HO183:=a_ (Kd.Q_lower ho0 (below_size (bl_ HB)));replace BK176:=kb_ BK176 hb;replace BK177:=kb_ BK177 hb;replace BK178:=kb_ BK178 hb;replace BK179:=kb_ BK179 hb;replace HB:=bs_ HB hb;(try clear hb);(try clear ho0);have hnb41:=NB178_177.out;have hnc41:=NB177_178.out;have hnb42:=NB178_179.out;have hnc42:=NB179_178.out;obtain ⟨hcz43_0,hcz43_1,hcz43_2⟩:=bc3 BK178;obtain ⟨hfz43_0,hfz43_1,hfz43_2⟩:=bz3 BK178;obtain ⟨Ao44,co44,eo44,_⟩:=Kd.Q_slice HO183.out;subst eo44))
  have n0_:Aside0 (Kd.Q (Kd.int .u32) 68 (((w40.setCell ⟨gb178,0,none⟩ (.bool t180)).setCell ⟨gb178,1,none⟩ (.slice Ao44 t181.length co44)).setCell ⟨gb178,2,none⟩ (.int .i64 t184)) w.heap.size (fun _=>True) (.slice Ao44 t181.length co44) t181):=⟨by (with_reducible repeat (first|apply Kd.Q_alloc|apply Kd.Q_drewN|apply Kd.Q_drew));exact Kd.Q_mono (Kd.Q_far (p:=⟨gb178,2,none⟩) (Kd.Q_far (p:=⟨gb178,1,none⟩) (Kd.Q_far (p:=⟨gb178,0,none⟩) (Kd.Q_types HO183.out BK178.out (by decide)) (fun _ hk=>hk.2) (.bool t180)) (fun _ hk=>hk.2) (.slice Ao44 t181.length co44)) (fun _ hk=>hk.2) (.int .i64 t184)) (fun _ hk=>trivial)⟩
  have n1_:Aside0 ((((w40.setCell ⟨gb178,0,none⟩ (.bool t180)).setCell ⟨gb178,1,none⟩ (.slice Ao44 t181.length co44)).setCell ⟨gb178,2,none⟩ (.int .i64 t184)).heap[gb176]? = some (.cells #[.bool a0_0,.slice A0_1 l0_1.length c0_1,.int .i64 a0_2] 30 (0,0))):=⟨bq_ BK176⟩
  have n2_:Aside0 ((((w40.setCell ⟨gb178,0,none⟩ (.bool t180)).setCell ⟨gb178,1,none⟩ (.slice Ao44 t181.length co44)).setCell ⟨gb178,2,none⟩ (.int .i64 t184)).heap[gb177]? = some (.cells #[.bool a1_0,.slice A1_1 l1_1.length c1_1,.int .i64 a1_2] 30 (0,0))):=⟨bq_ BK177⟩
  have n3_:Aside0 ((((w40.setCell ⟨gb178,0,none⟩ (.bool t180)).setCell ⟨gb178,1,none⟩ (.slice Ao44 t181.length co44)).setCell ⟨gb178,2,none⟩ (.int .i64 t184)).heap[gb178]? = some (.cells #[.bool t180,.slice Ao44 t181.length co44,.int .i64 t184] 30 (0,0))):=⟨bq_ BK178⟩
  have n4_:Aside0 ((((w40.setCell ⟨gb178,0,none⟩ (.bool t180)).setCell ⟨gb178,1,none⟩ (.slice Ao44 t181.length co44)).setCell ⟨gb178,2,none⟩ (.int .i64 t184)).heap[gb179]? = some (.cells #[.bool false,.slice none 0 0,.int .i64 0] 30 (0,0))):=⟨bq_ BK179⟩
  have n5_:Aside0 (Below w.heap.size w (((w40.setCell ⟨gb178,0,none⟩ (.bool t180)).setCell ⟨gb178,1,none⟩ (.slice Ao44 t181.length co44)).setCell ⟨gb178,2,none⟩ (.int .i64 t184))):=⟨bl_ HB⟩
  (try clear HO183)
  (try clear BK176)
  (try clear BK177)
  (try clear BK178)
  (try clear BK179)
  (try clear HB)
  generalize (((w40.setCell ⟨gb178,0,none⟩ (.bool t180)).setCell ⟨gb178,1,none⟩ (.slice Ao44 t181.length co44)).setCell ⟨gb178,2,none⟩ (.int .i64 t184))=w45 at n0_ n1_ n2_ n3_ n4_ n5_ ⊢
  have HO183:=n0_
  have BK176:=n1_
  have BK177:=n2_
  have BK178:=n3_
  have BK179:=n4_
  have HB:=n5_
  clear n0_ n1_ n2_ n3_ n4_ n5_
  have n0_:=a_ (Kd.Q_drew HO183.out)
  have n1_:=a_ (blk_drew BK176.out)
  have n2_:=a_ (blk_drew BK177.out)
  have n3_:=a_ (blk_drew BK178.out)
  have n4_:=a_ (blk_drew BK179.out)
  have n5_:=a_ (below_drew1 HB.out)
  clear HO183
  clear BK176
  clear BK177
  clear BK178
  clear BK179
  clear HB
  have HO183:=n0_
  have BK176:=n1_
  have BK177:=n2_
  have BK178:=n3_
  have BK179:=n4_
  have HB:=n5_
  clear n0_ n1_ n2_ n3_ n4_ n5_
  refine start_ (n:=6) (S:=fun w'=>w'.cell? ⟨gb178,0,none⟩=some (.bool t180)∧w'.cell? ⟨gb178,1,none⟩=some (.slice Ao44 t181.length co44)∧w'.cell? ⟨gb178,2,none⟩=some (.int .i64 t184)∧w'.cell? ⟨gb179,0,none⟩=some (.bool false)∧w'.cell? ⟨gb179,1,none⟩=some (.slice none 0 0)∧w'.cell? ⟨gb179,2,none⟩=some (.int .i64 0)) (ds:=[4]) #[false,false,false,false,false,false] (by kernel_rfl) rfl rfl ⟨(bc_ BK178 0),(bc_ BK178 1),(bc_ BK178 2),(bc_ BK179 0),(bc_ BK179 1),(bc_ BK179 2)⟩ (fun hHeld=>?_)
  generalize w45.drew=w46 at HO183 BK176 BK177 BK178 BK179 HB hHeld ⊢
  refine pure_ (i:=2) (N:=some 31) (v:=?_) (a':=?_) #[false,false,true,false,false,false] rfl rfl (by kernel_rfl) (fun _ _ _ h=>h) (Or.inl ⟨by rfl,?_⟩) ?_ ?_
  rotate_left
  ·intro w'
   go_simp
   with_reducible rfl
  rotate_left
  ·exact nf_
  refine take_ (i:=0) (N:=some 29) (v:=?_) (a':=?_) #[true,false,true,false,false,false] rfl rfl (by kernel_rfl) (fun _ _ _ h=>h) (Or.inl ⟨by rfl,?_⟩) hHeld ?_ ?_
  rotate_left
  ·rintro w' ⟨s0,s1,s2,s3,s4,s5⟩
   go_simp
   with_reducible rfl
  rotate_left
  ·exact nf_
  refine take_ (i:=1) (N:=some 30) (v:=?_) (a':=?_) #[true,true,true,false,false,false] rfl rfl (by kernel_rfl) (fun _ _ _ h=>h) (Or.inl ⟨by rfl,?_⟩) hHeld ?_ ?_
  rotate_left
  ·rintro w' ⟨s0,s1,s2,s3,s4,s5⟩
   go_simp
   with_reducible rfl
  rotate_left
  ·exact nf_
  refine one_ (i:=3) (N:=none) #[true,true,true,true,false,false] rfl rfl (by kernel_rfl) (by decide) (fun K hK=>?_)
  have hs47:w46.cell? ⟨gb178,0,none⟩=some (.bool t180):=bc_ BK178 0
  have hfs47:=bz_ BK178 0
  have hns47_0:=NB176_178.out
  have hns47_1:=NB177_178.out
  have hns47_3:=NB179_178.out
  have hms47_0:=NB178_176.out
  have hms47_1:=NB178_177.out
  have hms47_3:=NB178_179.out
  have hs48:w46.cell? ⟨gb178,1,none⟩=some (.slice Ao44 t181.length co44):=bc_ BK178 1
  have hfs48:=bz_ BK178 1
  have hns48_0:=NB176_178.out
  have hns48_1:=NB177_178.out
  have hns48_3:=NB179_178.out
  have hms48_0:=NB178_176.out
  have hms48_1:=NB178_177.out
  have hms48_3:=NB178_179.out
  have hs49:w46.cell? ⟨gb178,2,none⟩=some (.int .i64 t184):=bc_ BK178 2
  have hfs49:=bz_ BK178 2
  have hns49_0:=NB176_178.out
  have hns49_1:=NB177_178.out
  have hns49_3:=NB179_178.out
  have hms49_0:=NB178_176.out
  have hms49_1:=NB178_177.out
  have hms49_3:=NB178_179.out
  refine skip_ (w1:=?_) (by rfl) rfl ?_ ?_
  rotate_left
  ·go_simp
   rfl
  refine hK.out _ _ ⟨((blk_cell (g:=gb178) (t:=30) (cs:=#[.bool t180,.slice Ao44 t181.length co44,.int .i64 t184]) (by refine blk_put (t:=30) (cs:=#[.bool t180,.slice Ao44 t181.length co44,.int .i64 t184]) ?_ 2 _ rfl;refine blk_put (t:=30) (cs:=#[.bool t180,.slice Ao44 t181.length co44,.int .i64 t184]) ?_ 1 _ rfl;refine blk_put (t:=30) (cs:=#[.bool t180,.slice Ao44 t181.length co44,.int .i64 t184]) ?_ 0 _ rfl;exact BK178.out) 0).trans rfl),((blk_cell (g:=gb178) (t:=30) (cs:=#[.bool t180,.slice Ao44 t181.length co44,.int .i64 t184]) (by refine blk_put (t:=30) (cs:=#[.bool t180,.slice Ao44 t181.length co44,.int .i64 t184]) ?_ 2 _ rfl;refine blk_put (t:=30) (cs:=#[.bool t180,.slice Ao44 t181.length co44,.int .i64 t184]) ?_ 1 _ rfl;refine blk_put (t:=30) (cs:=#[.bool t180,.slice Ao44 t181.length co44,.int .i64 t184]) ?_ 0 _ rfl;exact BK178.out) 1).trans rfl),((blk_cell (g:=gb178) (t:=30) (cs:=#[.bool t180,.slice Ao44 t181.length co44,.int .i64 t184]) (by refine blk_put (t:=30) (cs:=#[.bool t180,.slice Ao44 t181.length co44,.int .i64 t184]) ?_ 2 _ rfl;refine blk_put (t:=30) (cs:=#[.bool t180,.slice Ao44 t181.length co44,.int .i64 t184]) ?_ 1 _ rfl;refine blk_put (t:=30) (cs:=#[.bool t180,.slice Ao44 t181.length co44,.int .i64 t184]) ?_ 0 _ rfl;exact BK178.out) 2).trans rfl),((cell_far (p:=⟨gb178,_,none⟩) NB179_178.out _).trans (((cell_far (p:=⟨gb178,_,none⟩) NB179_178.out _).trans (((cell_far (p:=⟨gb178,_,none⟩) NB179_178.out _).trans (hHeld.2.2.2.1)))))),((cell_far (p:=⟨gb178,_,none⟩) NB179_178.out _).trans (((cell_far (p:=⟨gb178,_,none⟩) NB179_178.out _).trans (((cell_far (p:=⟨gb178,_,none⟩) NB179_178.out _).trans (hHeld.2.2.2.2.1)))))),((cell_far (p:=⟨gb178,_,none⟩) NB179_178.out _).trans (((cell_far (p:=⟨gb178,_,none⟩) NB179_178.out _).trans (((cell_far (p:=⟨gb178,_,none⟩) NB179_178.out _).trans (hHeld.2.2.2.2.2))))))⟩ (fun hHeld=>?_)
  clear hK K
  refine last_ (i:=4) (N:=none) #[true,true,true,true,true,false] rfl rfl (by kernel_rfl) (by decide) (fun K hK=>?_)
  have hs50:w46.cell? ⟨gb179,0,none⟩=some (.bool false):=bc_ BK179 0
  have hfs50:=bz_ BK179 0
  have hns50_0:=NB176_179.out
  have hns50_1:=NB177_179.out
  have hns50_2:=NB178_179.out
  have hms50_0:=NB179_176.out
  have hms50_1:=NB179_177.out
  have hms50_2:=NB179_178.out
  have hs51:w46.cell? ⟨gb179,1,none⟩=some (.slice none 0 0):=bc_ BK179 1
  have hfs51:=bz_ BK179 1
  have hns51_0:=NB176_179.out
  have hns51_1:=NB177_179.out
  have hns51_2:=NB178_179.out
  have hms51_0:=NB179_176.out
  have hms51_1:=NB179_177.out
  have hms51_2:=NB179_178.out
  have hs52:w46.cell? ⟨gb179,2,none⟩=some (.int .i64 0):=bc_ BK179 2
  have hfs52:=bz_ BK179 2
  have hns52_0:=NB176_179.out
  have hns52_1:=NB177_179.out
  have hns52_2:=NB178_179.out
  have hms52_0:=NB179_176.out
  have hms52_1:=NB179_177.out
  have hms52_2:=NB179_178.out
  refine skip_ (w1:=?_) (by rfl) rfl ?_ ?_
  rotate_left
  ·go_simp
   rfl
  refine hK.out _ _ ?_
  clear hK K
  refine pure_ (i:=5) (N:=some 6) (v:=?_) (a':=?_) #[true,true,true,true,true,true] rfl rfl (by kernel_rfl) (fun _ _ _ h=>h) (Or.inl ⟨by rfl,?_⟩) ?_ ?_
  rotate_left
  ·intro w'
   go_simp
   with_reducible rfl
  rotate_left
  ·exact nf_
  refine done_ (by kernel_rfl) ?_
  try go_wp2
  refine bodyPost_ret (results_list (rs:=[.cell 4 30,.cell 5 30,.tmp 6]) rfl (by simp) (.cell gb178 30 #[.bool t180,.slice Ao44 t181.length co44,.int .i64 t184] (0,0) _ rfl (by (with_reducible repeat (first|apply bN|apply bD|apply bA));refine blk_far ?_ NB178_179.out _;(with_reducible repeat (first|apply bN|apply bD|apply bA));refine blk_far ?_ NB178_179.out _;(with_reducible repeat (first|apply bN|apply bD|apply bA));refine blk_far ?_ NB178_179.out _;(with_reducible repeat (first|apply bN|apply bD|apply bA));refine blk_put (cs:=#[.bool t180,.slice Ao44 t181.length co44,.int .i64 t184]) ?_ 2 _ rfl;(with_reducible repeat (first|apply bN|apply bD|apply bA));refine blk_put (cs:=#[.bool t180,.slice Ao44 t181.length co44,.int .i64 t184]) ?_ 1 _ rfl;(with_reducible repeat (first|apply bN|apply bD|apply bA));refine blk_put (cs:=#[.bool t180,.slice Ao44 t181.length co44,.int .i64 t184]) ?_ 0 _ rfl;exact bk_ BK178) Tryd.underlying30 rfl (by kernel_rfl) (.cell gb179 30 #[.bool false,.slice none 0 0,.int .i64 0] (0,0) _ rfl (by (with_reducible repeat (first|apply bN|apply bD|apply bA));refine blk_put (cs:=#[.bool false,.slice none 0 0,.int .i64 0]) ?_ 2 _ rfl;(with_reducible repeat (first|apply bN|apply bD|apply bA));refine blk_put (cs:=#[.bool false,.slice none 0 0,.int .i64 0]) ?_ 1 _ rfl;(with_reducible repeat (first|apply bN|apply bD|apply bA));refine blk_put (cs:=#[.bool false,.slice none 0 0,.int .i64 0]) ?_ 0 _ rfl;(with_reducible repeat (first|apply bN|apply bD|apply bA));refine blk_far ?_ NB179_178.out _;(with_reducible repeat (first|apply bN|apply bD|apply bA));refine blk_far ?_ NB179_178.out _;(with_reducible repeat (first|apply bN|apply bD|apply bA));refine blk_far ?_ NB179_178.out _;exact bk_ BK179) Tryd.underlying30 rfl (by kernel_rfl) (.tmp .nil)))) rfl ?_
  exact ⟨_,_,rf_,by (with_reducible repeat (first|apply Kd.Q_alloc|apply Kd.Q_drewN|apply Kd.Q_drew));exact Kd.Q_mono (Kd.Q_far (p:=⟨gb179,2,none⟩) (Kd.Q_far (p:=⟨gb179,1,none⟩) (Kd.Q_far (p:=⟨gb179,0,none⟩) (Kd.Q_far (p:=⟨gb178,2,none⟩) (Kd.Q_far (p:=⟨gb178,1,none⟩) (Kd.Q_far (p:=⟨gb178,0,none⟩) (Kd.Q_types (Kd.Q_types HO183.out BK178.out (by decide)) BK179.out (by decide)) (fun _ hk=>hk.1.2) (.bool t180)) (fun _ hk=>hk.1.2) (.slice Ao44 t181.length co44)) (fun _ hk=>hk.1.2) (.int .i64 t184)) (fun _ hk=>hk.2) (.bool false)) (fun _ hk=>hk.2) (.slice none 0 0)) (fun _ hk=>hk.2) (.int .i64 0)) (fun _ hk=>(by simp [Value.ownBlock])),Kd.Q_of_R (by first|exact Kd.R_nil _ _ _ _ _|exact Kd.N_nil _ _ _ _ _|exact Kd.V_nil _ _ _ _ _|exact Kd.Q_nil _ _ _ _ _|exact Kd.S_nil _ _ _ _ _),bl_ HB⟩
def wide_down.l0:Nat→List Int→Int→List Int→List Int→Int→Int→Option (List Int)
 | 0,_,_,_,_,_,_=>none
 | k+1,x0,x1,x5,x12,x13,x14=>if x14<x13 then (if 0≤x14 then (if x14<(x12.length:Int) then (if (wrap64 (x14+1))<(x0.length:Int) then (if 0≤(wrap64 (x14+1)) then (if 0≤x1 then (if x14<(x5.length:Int) then (wide_down.l0 k x0 x1 (x5.set (x14:Int).toNat ((shr .u64 (Go.bits .or .u64 (IntKind.u64.wrap (rd x12 x14)) (IntKind.u64.wrap ((IntKind.u64.wrap (rd x0 (wrap64 (x14+1))))*4294967296))) x1)%4294967296)) x12 x13 (wrap64 (x14+1))) else (none)) else (none)) else (none)) else (if 0≤x1 then (if x14<(x5.length:Int) then (wide_down.l0 k x0 x1 (x5.set (x14:Int).toNat ((shr .u64 (IntKind.u64.wrap (rd x12 x14)) x1)%4294967296)) x12 x13 (wrap64 (x14+1))) else (none)) else (none))) else (none)) else (none)) else (some x5)
def wide_down.f (k:Nat) (l0:List Int) (a1:Int):Option (List Int):=if 0≤(l0.length:Int) then (if ((l0.length:Int):Int).toNat≤70368744177664 then (wide_down.l0 k l0 a1 (List.replicate ((l0.length:Int):Int).toNat 0) l0 (l0.length:Int) 0) else (none)) else (none)
theorem wide_down.calls (k:Nat) (A0:Option Addr) (c0:Nat) (l0:List Int) (a1:Int) (r:List Int) (w:World) (hr0:Kd.C (Kd.int .u32) w A0 l0.length l0) (hc0:l0.length≤c0) (h:wide_down.f k l0 a1=some r) :
  Calls Tryd.prog 79 #[.slice A0 l0.length c0,.int .i64 a1] w fun e w'=>∃ v0_:Value,e = .returned (v0_)∧Kd.R (Kd.int .u32) 68 w' w.heap.size (fun _=>True) v0_ r∧Below w.heap.size w w':=by
 have HR0:=a_ hr0
 have HC0:=a_ hc0
 clear hr0 hc0
 have HB:=a_ (Below.refl w.heap.size w)
 have H:=h
 unfold wide_down.f at H
 clear h
 by_cases c3:0≤(l0.length:Int)
 ·rw [if_pos c3] at H
  have c3b0:=eq_true c3
  have c3b1:decide (0≤(l0.length:Int))=true:=decide_eq_true c3
  clear c3
  by_cases c4:((l0.length:Int):Int).toNat≤70368744177664
  ·rw [if_pos c4] at H
   have c4b0:=eq_true c4
   have c4b1:decide (((l0.length:Int):Int).toNat≤70368744177664)=true:=decide_eq_true c4
   clear c4
   obtain ⟨y203,hy203⟩:∃ y_:List Int,y_=(List.replicate ((l0.length:Int):Int).toNat 0):=⟨_,rfl⟩
   replace H:(wide_down.l0 k l0 a1 y203 l0 (l0.length:Int) 0)=some r:=by first|(rw [hy203];first|exact t1_ H|exact t2_ H)|exact t2_ H|exact t1_ H|(rw [hy203];exact H)|exact H
   have Ny203:=a_ hy203
   clear hy203
   have H':=a_ H
   clear H
   go_enter Tryd.func79,Tryd.ntmps79
   go_wp2_with (first|((with_reducible refine gate_dst (N:=11) rfl ?_);refine Kd.R_make (Kd.int .u32) _ 68 rfl (N:=11) rfl 28 _ _ rfl (l0.length:Int) rfl rfl Tryd.underlying28 (.int .u32 0) 4 info68 rfl (by decide) (by omega) 0 (ok:=fun _=>True) (okp:=fun _=>True) rfl (fun _ hk=>hk) trivial od_ (Nat.le_trans (Nat.mul_le_mul_right _ (od_:(l0.length:Int).toNat≤70368744177664)) (by omega)) (Below.refl _ _) (Nat.le_refl _) ?_;intro v204 w5 ho6 hb hg_ hnew_;clear hg_ hnew_;(first|rw [← Ny203.out] at ho6|(simp only [Int.reduceToNat] at ho6;rw [← Ny203.out] at ho6));have HO205:=a_ (Kd.R_lower ho6 (below_size (bl_ HB)));replace HB:=bs_ HB hb;clear hb ho6))
   go_loopg [14] k (fun kq v14 w'=>∃ (x5_1:List Int) (x14_1:Int),v14 = .int .i64 x14_1∧Aside0 (wide_down.l0 kq l0 a1 x5_1 l0 (l0.length:Int) x14_1=some r)∧Aside0 (kq≤k)∧Aside0 (Kd.R (Kd.int .u32) 68 w' w.heap.size (fun _=>True) v204 x5_1)∧Aside0 (Below w.heap.size w w'))
   case atStart=>exact ⟨(y203),(0),rb_,H',⟨Nat.le_refl _⟩,⟨rr_ HO205⟩,⟨bl_ HB⟩⟩
   case round =>
    clear H'
    try clear p2
    try clear c3
    try clear c3b0
    try clear c3b1
    try clear c4
    try clear c4b0
    try clear c4b1
    obtain ⟨x5_1,x14_1,rfl,HA,HK1,HO_5,HB⟩:=hrel
    cases gk with
    | zero=>exact absurd HA.out (by simp [wide_down.l0])
    | succ k1 =>
     have H:=HA.out
     clear HA
     simp only [wide_down.l0] at H
     by_cases c7:x14_1<(l0.length:Int)
     ·rw [if_pos c7] at H
      have c7b0:decide (x14_1<(l0.length:Int))=true:=decide_eq_true c7
      clear c7
      by_cases c8:0≤x14_1
      ·rw [if_pos c8] at H
       have c8b0:decide (0≤x14_1)=true:=decide_eq_true c8
       clear c8
       by_cases c9:x14_1<(l0.length:Int)
       ·rw [if_pos c9] at H
        have c9b0:decide (x14_1<(l0.length:Int))=true:=decide_eq_true c9
        clear c9
        by_cases c10:(wrap64 (x14_1+1))<(l0.length:Int)
        ·rw [if_pos c10] at H
         have c10b0:decide ((wrap64 (x14_1+1))<(l0.length:Int))=true:=decide_eq_true c10
         clear c10
         obtain ⟨ji11,hji11⟩:∃ j_:Int,(wrap64 (x14_1+1))=j_:=⟨_,rfl⟩
         replace H:(if 0≤(ji11) then (if 0≤a1 then (if x14_1<(x5_1.length:Int) then (wide_down.l0 k1 l0 a1 (x5_1.set (x14_1:Int).toNat ((shr .u64 (Go.bits .or .u64 (IntKind.u64.wrap (rd l0 x14_1)) (IntKind.u64.wrap ((IntKind.u64.wrap (rd l0 (ji11)))*4294967296))) a1)%4294967296)) l0 (l0.length:Int) ji11) else (none)) else (none)) else (none))=some r:=by first|(rw [hji11] at H;exact H)|(simp only [hji11] at H ⊢;exact H)
         (try rw [hji11] at c10b0)
         have hji11w:(IntKind.i64.wrap (x14_1+1))=ji11:=(i64_w _).trans hji11
         by_cases c12:0≤(ji11)
         ·rw [if_pos c12] at H
          have c12b0:decide (0≤(ji11))=true:=decide_eq_true c12
          clear c12
          by_cases c13:0≤a1
          ·rw [if_pos c13] at H
           have c13b0:=eq_true c13
           have c13b1:decide (0≤a1)=true:=decide_eq_true c13
           clear c13
           obtain ⟨ji14,hji14⟩:∃ j_:Int,(shr .u64 (Go.bits .or .u64 (IntKind.u64.wrap (rd l0 x14_1)) (IntKind.u64.wrap ((IntKind.u64.wrap (rd l0 (ji11)))*4294967296))) a1)=j_:=⟨_,rfl⟩
           replace H:(if x14_1<(x5_1.length:Int) then (wide_down.l0 k1 l0 a1 (x5_1.set (x14_1:Int).toNat ((ji14)%4294967296)) l0 (l0.length:Int) ji11) else (none))=some r:=by first|(rw [hji14] at H;exact H)|(simp only [hji14] at H ⊢;exact H)
           have hji14_:((Go.bits .or .u64 (IntKind.u64.wrap (rd l0 x14_1)) (IntKind.u64.wrap ((IntKind.u64.wrap (rd l0 (ji11)))*4294967296))) / 2^min a1.toNat 64)=ji14:=hji14
           have hji14z:a1≤64→((Go.bits .or .u64 (IntKind.u64.wrap (rd l0 x14_1)) (IntKind.u64.wrap ((IntKind.u64.wrap (rd l0 (ji11)))*4294967296))) / 2^a1.toNat)=ji14:=shr_small hji14
           by_cases c15:x14_1<(x5_1.length:Int)
           ·rw [if_pos c15] at H
            have c15b0:decide (x14_1<(x5_1.length:Int))=true:=decide_eq_true c15
            clear c15
            obtain ⟨y208,hy208⟩:∃ y_:List Int,y_=(x5_1.set (x14_1:Int).toNat ((ji14)%4294967296)):=⟨_,rfl⟩
            replace H:(wide_down.l0 k1 l0 a1 y208 l0 (l0.length:Int) ji11)=some r:=by first|(rw [hy208];first|exact t1_ H|exact t2_ H)|exact t2_ H|exact t1_ H|(rw [hy208];exact H)|exact H
            have Ny208:=a_ hy208
            clear hy208
            have H':=a_ H
            clear H
            have p206:0≤(x14_1:Int):=od_
            have q206:x14_1<(l0.length:Int):=od_
            obtain ⟨ad206,e206,hx206_0⟩:=Kd.at_int HR0.out x14_1 p206 q206
            cases e206
            replace hx206_0:=(HB.out.cell (World.block_lt_of_cell? w _ hx206_0)).trans hx206_0
            replace p206:=eq_true p206
            replace q206:=eq_true q206
            have p207:0≤((ji11):Int):=od_
            have q207:(ji11)<(l0.length:Int):=od_
            obtain ⟨ad207,e207,hx207_0⟩:=Kd.at_int HR0.out (ji11) p207 q207
            obtain rfl:ad206=ad207:=(by injection e207)
            replace hx207_0:=(HB.out.cell (World.block_lt_of_cell? w _ hx207_0)).trans hx207_0
            replace p207:=eq_true p207
            replace q207:=eq_true q207
            have p16:0≤(x14_1:Int):=od_
            have q16:(x14_1:Int)<((x5_1.length:Int):Int):=od_
            obtain ⟨go16,co16,eo16,gb16,gl16,cl16,HG16⟩:=Kd.R_form HO_5.out (by omega)
            (first|cases eo16|(injection eo16 with ea_ en_ ec_;(first|subst ea_|(injection ea_ with ea_;subst ea_));subst ec_;clear en_))
            have GB16:=a_ gb16
            have GG16:=a_ HG16
            clear gb16 gl16 HG16
            obtain ⟨hx16_0,hf16_0⟩:=Kd.R_celln 0 HO_5.out (x14_1:Int) p16 q16
            (try simp only [Int.toNat_natCast] at hx16_0 hf16_0)
            replace p16:=eq_true p16
            replace q16:=eq_true q16
            have HP17:=Kd.R_putg HO_5.out (x14_1:Int) ((ji14)%4294967296)
            go_wp2_with (first|((with_reducible refine gate_store (t:=68) (p:=41) rfl ?_);refine store_event (t:=68) (p:=41) (v:=?vo_w18) (w1:=(wr.setCell ⟨go16,(x14_1:Int).toNat,none⟩ (.int .u32 ((ji14)%4294967296)))) ?hg ?ho ?hn ?hr ?_;(case ho=>rfl);(case hg=>rfl);(case hn=>rfl);(case hr=>first|(go_simp;done)|(go_simp;rfl));intro w18 hw;have hg:wr.grownBy w18 (some go16):=(by rw [hw];exact HP17.2);have hp_:Kd.R (Kd.int .u32) 68 w18 w.heap.size (fun _=>True) (.slice (some ⟨go16,0,none⟩) x5_1.length co16) y208:=(by rw [hw,Ny208.out];exact HP17.1);clear HP17;replace HO_5:=a_ hp_;replace HB:=a_ ((by rw [hw];exact below_set (HB.out) GB16.out:Below w.heap.size w w18));clear hg hw hp_))
            go_roundg k1
            case measure=>have:=HK1.out;omega
            case rel=>exact ⟨(y208),(ji11),(by first|rfl|(simp;done)|(simp only [← hji11] <;> (first|rfl|simp))|(simp [*];done)),H',⟨by have:=HK1.out;omega⟩,⟨rr_ HO_5⟩,⟨bl_ HB⟩⟩
           ·rw [if_neg c15] at H
            exact ab_ H
          ·rw [if_neg c13] at H
           exact ab_ H
         ·rw [if_neg c12] at H
          exact ab_ H
        ·rw [if_neg c10] at H
         have c10b0:decide ((wrap64 (x14_1+1))<(l0.length:Int))=false:=decide_eq_false c10
         clear c10
         by_cases c19:0≤a1
         ·rw [if_pos c19] at H
          have c19b0:=eq_true c19
          have c19b1:decide (0≤a1)=true:=decide_eq_true c19
          clear c19
          obtain ⟨ji20,hji20⟩:∃ j_:Int,(shr .u64 (IntKind.u64.wrap (rd l0 x14_1)) a1)=j_:=⟨_,rfl⟩
          replace H:(if x14_1<(x5_1.length:Int) then (wide_down.l0 k1 l0 a1 (x5_1.set (x14_1:Int).toNat ((ji20)%4294967296)) l0 (l0.length:Int) (wrap64 (x14_1+1))) else (none))=some r:=by first|(rw [hji20] at H;exact H)|(simp only [hji20] at H ⊢;exact H)
          have hji20_:((IntKind.u64.wrap (rd l0 x14_1)) / 2^min a1.toNat 64)=ji20:=hji20
          have hji20z:a1≤64→((IntKind.u64.wrap (rd l0 x14_1)) / 2^a1.toNat)=ji20:=shr_small hji20
          by_cases c21:x14_1<(x5_1.length:Int)
          ·rw [if_pos c21] at H
           have c21b0:decide (x14_1<(x5_1.length:Int))=true:=decide_eq_true c21
           clear c21
           obtain ⟨y209,hy209⟩:∃ y_:List Int,y_=(x5_1.set (x14_1:Int).toNat ((ji20)%4294967296)):=⟨_,rfl⟩
           replace H:(wide_down.l0 k1 l0 a1 y209 l0 (l0.length:Int) (wrap64 (x14_1+1)))=some r:=by first|(rw [hy209];first|exact t1_ H|exact t2_ H)|exact t2_ H|exact t1_ H|(rw [hy209];exact H)|exact H
           have Ny209:=a_ hy209
           clear hy209
           have H':=a_ H
           clear H
           have p206:0≤(x14_1:Int):=od_
           have q206:x14_1<(l0.length:Int):=od_
           obtain ⟨ad206,e206,hx206_0⟩:=Kd.at_int HR0.out x14_1 p206 q206
           cases e206
           replace hx206_0:=(HB.out.cell (World.block_lt_of_cell? w _ hx206_0)).trans hx206_0
           replace p206:=eq_true p206
           replace q206:=eq_true q206
           have p22:0≤(x14_1:Int):=od_
           have q22:(x14_1:Int)<((x5_1.length:Int):Int):=od_
           obtain ⟨go22,co22,eo22,gb22,gl22,cl22,HG22⟩:=Kd.R_form HO_5.out (by omega)
           (first|cases eo22|(injection eo22 with ea_ en_ ec_;(first|subst ea_|(injection ea_ with ea_;subst ea_));subst ec_;clear en_))
           have GB22:=a_ gb22
           have GG22:=a_ HG22
           clear gb22 gl22 HG22
           obtain ⟨hx22_0,hf22_0⟩:=Kd.R_celln 0 HO_5.out (x14_1:Int) p22 q22
           (try simp only [Int.toNat_natCast] at hx22_0 hf22_0)
           replace p22:=eq_true p22
           replace q22:=eq_true q22
           have HP23:=Kd.R_putg HO_5.out (x14_1:Int) ((ji20)%4294967296)
           go_wp2_with (first|((with_reducible refine gate_store (t:=68) (p:=41) rfl ?_);refine store_event (t:=68) (p:=41) (v:=?vo_w24) (w1:=(wr.setCell ⟨go22,(x14_1:Int).toNat,none⟩ (.int .u32 ((ji20)%4294967296)))) ?hg ?ho ?hn ?hr ?_;(case ho=>rfl);(case hg=>rfl);(case hn=>rfl);(case hr=>first|(go_simp;done)|(go_simp;rfl));intro w24 hw;have hg:wr.grownBy w24 (some go22):=(by rw [hw];exact HP23.2);have hp_:Kd.R (Kd.int .u32) 68 w24 w.heap.size (fun _=>True) (.slice (some ⟨go22,0,none⟩) x5_1.length co22) y209:=(by rw [hw,Ny209.out];exact HP23.1);clear HP23;replace HO_5:=a_ hp_;replace HB:=a_ ((by rw [hw];exact below_set (HB.out) GB22.out:Below w.heap.size w w24));clear hg hw hp_))
           go_roundg k1
           case measure=>have:=HK1.out;omega
           case rel=>exact ⟨(y209),(wrap64 (x14_1+1)),rb_,H',⟨by have:=HK1.out;omega⟩,⟨rr_ HO_5⟩,⟨bl_ HB⟩⟩
          ·rw [if_neg c21] at H
           exact ab_ H
         ·rw [if_neg c19] at H
          exact ab_ H
       ·rw [if_neg c9] at H
        exact ab_ H
      ·rw [if_neg c8] at H
       exact ab_ H
     ·rw [if_neg c7] at H
      have c7b0:decide (x14_1<(l0.length:Int))=false:=decide_eq_false c7
      clear c7
      obtain rfl:=Option.some.inj H
      go_wp2
      go_ret
      exact ⟨_,rf_,rr_ HO_5,bl_ HB⟩
  ·rw [if_neg c4] at H
   exact ab_ H
 ·rw [if_neg c3] at H
  exact ab_ H

set_option maxHeartbeats 1000000 in
theorem cut_exact (A:Option Addr) (c:Nat) (l0:List Int) (w:World) (hr:Kd.C (Kd.int .u32) w A l0.length l0) (hc:l0.length≤c) :
  Calls Tryd.prog 78 #[.slice A l0.length c] w fun e w'=>e = .returned (.slice A (trimN l0 l0.length) c)∧w=w':=by
 have hu:=Tryd.underlying28
 have HR:=a_ hr
 have HC:=a_ hc
 clear hr hc
 generalize hN:trimN l0 l0.length=N
 have HN:=a_ hN
 clear hN
 go_enter Tryd.func78,Tryd.ntmps78
 go_wp2
 go_loop [0] (fun t=>∃ m:Nat,m≤l0.length∧Aside0 (trimN l0 m=N)∧t = .slice A m c) (fun t=>match t with|.slice _ m _=>m|_=>0)
 case atStart=>exact ⟨l0.length,Nat.le_refl _,HN,rfl⟩
 case round =>
  clear HN
  obtain ⟨m,hm,HM,rfl⟩:=hrel
  by_cases h0:m=0
  ·subst h0
   go_wp2
   go_ret
   exact ⟨by rw [← HM.out];rfl,rfl⟩
  ·obtain ⟨j,hj⟩:∃ j:Int,IntKind.i64.wrap ((m:Int) - 1)=j:=⟨_,rfl⟩
   have hjm:j=(m:Int) - 1:=by rw [← hj,i64_w];unfold wrap64;have:=HR.out.2.1;omega
   obtain ⟨ad,e,hx⟩:=Kd.at_int HR.out j (by omega) (by omega)
   subst e
   have c1:decide (0<(m:Int))=true:=decide_eq_true (by omega)
   have c2:decide (0<m)=true:=decide_eq_true (by omega)
   have p1:decide (j<(m:Int))=true:=decide_eq_true (by omega)
   have p2:decide (0≤j)=true:=decide_eq_true (by omega)
   have p0:=eq_true (show 0≤j by omega)
   have p4:=eq_true (show j<(m:Int) by omega)
   have p5:=eq_true (show j≤(m:Int) by omega)
   have p3:decide (j≤(m:Int))=true:=decide_eq_true (by omega)
   have HJ:=a_ (show j=(m:Int) - 1∧0<m from ⟨hjm,by omega⟩)
   obtain ⟨i0,hi0,_,hsz,_⟩:=info_parts info68
   have hcut:=cut_to (P:=Tryd.prog) 28 68 .i64 Tryd.underlying28 hi0 (some ad) m c j (by omega) (by omega) (by have:=HC.out;omega)
   have e2:trimN l0 m=if rd l0 j=0 then trimN l0 j.toNat else m:=by
    obtain ⟨q,rfl⟩:∃ q,m=q+1:=⟨m - 1,by omega⟩
    rw [trimN,show j=(q:Int) by omega];rfl
   have E2:=a_ e2
   clear e2 hjm h0 hi0 hsz
   by_cases hz:rd l0 j=0
   ·have HM':Aside0 (trimN l0 j.toNat=N):=by
     have:=HM.out
     rw [E2.out,if_pos hz] at this
     exact a_ this
    have c3:(rd l0 j == 0)=true:=beq_iff_eq.mpr hz
    clear hz HM E2
    go_wp2
    go_round
    case rel=>exact ⟨j.toNat,by have:=HJ.out;omega,HM',rfl⟩
    case measure=>have:=HJ.out;show j.toNat<m;omega
   ·have HM':Aside0 (m=N):=by
     have:=HM.out
     rw [E2.out,if_neg hz] at this
     exact a_ this
    have c3:(rd l0 j == 0)=false:=beq_eq_false_iff_ne.mpr hz
    clear hz HM E2
    go_wp2
    go_ret
    exact ⟨by first|rfl|(rw [← HM'.out];rfl),rfl⟩
def fitV (A:Option Addr) (N:Nat):Array Value:=if 8192<N then #[.slice none 0 0,.int .i64 2] else #[.slice A N N,.int .i64 0]
set_option maxHeartbeats 1000000 in
theorem fits_exact (A:Option Addr) (c:Nat) (l0:List Int) (w:World) (hr:Kd.C (Kd.int .u32) w A l0.length l0) (hc:l0.length≤c) :
  Calls Tryd.prog 80 #[.slice A l0.length c] w fun e w'=>e = .returned (.tuple (fitV A (trimN l0 l0.length)))∧w=w':=by
 have hu:=Tryd.underlying28
 have hle:=trimN_le l0 l0.length
 have H:=a_ (show trimN l0 l0.length≤l0.length∧l0.length≤c from ⟨hle,hc⟩)
 have K:=cut_exact A c l0 w hr hc
 have hm:l0.length≤9223372036854775807:=hr.2.1
 have HM:=a_ hm
 clear hle hm
 generalize trimN l0 l0.length=N at *
 obtain ⟨i0,hi0,_,hsz,_⟩:=info_parts info68
 have hcut:=cut_full (P:=Tryd.prog) 28 68 .i64 .i64 Tryd.underlying28 hi0 A N c (N:Int) (by omega) (by omega) (by have:=H.out;omega)
 rw [Int.toNat_natCast] at hcut
 clear hi0 hsz hr hc
 have KA:=a_ K
 clear K
 by_cases h:8192<N
 ·have c1:decide (8192<(N:Int))=true:=decide_eq_true (by omega)
  have c2:decide (8192<N)=true:=decide_eq_true h
  have HH:=a_ h
  clear h
  go_enter Tryd.func80,Tryd.ntmps80
  go_wp2_with ((go_at_call 78;refine KA.out.mono ?_);rintro e w' ⟨rfl,rfl⟩)
  go_ret2
  exact ⟨by unfold fitV;rw [if_pos HH.out];rfl,rfl⟩
 ·have c1:decide (8192<(N:Int))=false:=decide_eq_false (by omega)
  have c2:decide (8192<N)=false:=decide_eq_false h
  have HH:=a_ h
  clear h
  go_enter Tryd.func80,Tryd.ntmps80
  go_wp2_with ((go_at_call 78;refine KA.out.mono ?_);rintro e w' ⟨rfl,rfl⟩)
  go_ret2
  exact ⟨by unfold fitV;rw [if_neg HH.out];rfl,rfl⟩
def fit1 (xs:List Int):List Int:=if 8192<trimN xs xs.length then [] else trm xs
def fit2 (xs:List Int):Int:=if 8192<trimN xs xs.length then 2 else 0
/-- fits of a row of the call's own: the row, made shorter, without room behind it; or none, if it is long. -/
theorem R_fits {ops:Array Oper} {rest:List Oper} {o:Oper} {a:Act} {Q:Exit→Act→World→Prop} {W:World} (N:Tmp) (hd:o.dst=some N) (hgd:o.guard=none) (s:Operand)
  (hop:o.op = .call { callee:=.value (.func 80),args:=#[s],argTypes:=#[28] }) (base:Nat) (ok:Nat→Prop) (v:Value) (xs:List Int) (hs:a.eval s=v) (HO:(Kd.int .u32).R 68 W base ok v xs)
  (h:∀ v1,(Kd.int .u32).Q 68 W base ok v1 (fit1 xs)→(v1.ownBlock=none∨v1.ownBlock=v.ownBlock)→wpList Tryd.prog ops Q rest (a.put (some N) (.tuple #[v1,.int .i64 (fit2 xs)])) W):wpList Tryd.prog ops Q (o::rest) a W:=by
 obtain ⟨A,c,rfl,hl,hC⟩:=Kd.R_reads HO
 refine goesL_ (some N) hd hgd Tryd.func80 (by kernel_rfl) rfl #[.slice A xs.length c] hop (by simp [hs]) ?_
 refine (fits_exact A c xs W hC hl).mono ?_
 rintro e w' ⟨rfl,rfl⟩
 refine ⟨_,rfl,?_⟩
 unfold fitV
 unfold fit1 fit2 at h
 by_cases hb:8192<trimN xs xs.length
 ·rw [if_pos hb]
  rw [if_pos hb,if_pos hb] at h
  exact h _ (Kd.Q_nil _ _ _ _ _) (.inl rfl)
 ·rw [if_neg hb]
  rw [if_neg hb,if_neg hb] at h
  refine h _ (Kd.Q_full (Kd.Q_take (Kd.Q_of_R HO) (trimN_le xs xs.length))) (.inr ?_)
  cases A <;> rfl
def wide_fits.f (l0:List Int):Option (List Int × Int):=some (fit1 l0,fit2 l0)
def wide_up.l0:Nat→Int→List Int→List Int→Int→Int→Option (List Int)
 | 0,_,_,_,_,_=>none
 | k+1,x1,x5,x13,x14,x15=>if x15<x14 then (if 0≤x15 then (if x15<(x13.length:Int) then (if 0≤x1 then (if x15<(x5.length:Int) then (if 0≤(wrap64 (x15+1)) then (if (wrap64 (x15+1))<(x5.length:Int) then (wide_up.l0 k x1 ((x5.set (x15:Int).toNat (Go.bits .or .u32 (rd x5 x15) ((shl .u64 (IntKind.u64.wrap (rd x13 x15)) x1)%4294967296))).set ((wrap64 (x15+1)):Int).toNat (((shl .u64 (IntKind.u64.wrap (rd x13 x15)) x1) / 4294967296)%4294967296)) x13 x14 (wrap64 (x15+1))) else (none)) else (none)) else (none)) else (none)) else (none)) else (none)) else (some x5)
def wide_up.f (k:Nat) (l0:List Int) (a1:Int):Option (List Int):=if 0≤(wrap64 ((l0.length:Int)+1)) then (if (wrap64 ((l0.length:Int)+1):Int).toNat≤70368744177664 then (wide_up.l0 k a1 (List.replicate (wrap64 ((l0.length:Int)+1):Int).toNat 0) l0 (l0.length:Int) 0) else (none)) else (none)
theorem wide_up.calls (k:Nat) (A0:Option Addr) (c0:Nat) (l0:List Int) (a1:Int) (r:List Int) (w:World) (hr0:Kd.C (Kd.int .u32) w A0 l0.length l0) (hc0:l0.length≤c0) (h:wide_up.f k l0 a1=some r) :
  Calls Tryd.prog 81 #[.slice A0 l0.length c0,.int .i64 a1] w fun e w'=>∃ v0_:Value,e = .returned (v0_)∧Kd.R (Kd.int .u32) 68 w' w.heap.size (fun _=>True) v0_ r∧Below w.heap.size w w':=by
 have HR0:=a_ hr0
 have HC0:=a_ hc0
 clear hr0 hc0
 have HB:=a_ (Below.refl w.heap.size w)
 have H:=h
 unfold wide_up.f at H
 clear h
 obtain ⟨ji3,hji3⟩:∃ j_:Int,(wrap64 ((l0.length:Int)+1))=j_:=⟨_,rfl⟩
 replace H:(if 0≤(ji3) then (if (ji3:Int).toNat≤70368744177664 then (wide_up.l0 k a1 (List.replicate (ji3:Int).toNat 0) l0 (l0.length:Int) 0) else (none)) else (none))=some r:=by first|(rw [hji3] at H;exact H)|(simp only [hji3] at H ⊢;exact H)
 have hji3w:(IntKind.i64.wrap ((l0.length:Int)+1))=ji3:=(i64_w _).trans hji3
 by_cases c4:0≤(ji3)
 ·rw [if_pos c4] at H
  have c4b0:=eq_true c4
  have c4b1:decide (0≤(ji3))=true:=decide_eq_true c4
  clear c4
  by_cases c5:(ji3:Int).toNat≤70368744177664
  ·rw [if_pos c5] at H
   have c5b0:=eq_true c5
   have c5b1:decide ((ji3:Int).toNat≤70368744177664)=true:=decide_eq_true c5
   clear c5
   obtain ⟨y210,hy210⟩:∃ y_:List Int,y_=(List.replicate (ji3:Int).toNat 0):=⟨_,rfl⟩
   replace H:(wide_up.l0 k a1 y210 l0 (l0.length:Int) 0)=some r:=by first|(rw [hy210];first|exact t1_ H|exact t2_ H)|exact t2_ H|exact t1_ H|(rw [hy210];exact H)|exact H
   have Ny210:=a_ hy210
   clear hy210
   have H':=a_ H
   clear H
   go_enter Tryd.func81,Tryd.ntmps81
   go_wp2_with (first|((with_reducible refine gate_dst (N:=12) rfl ?_);refine Kd.R_make (Kd.int .u32) _ 68 rfl (N:=12) rfl 28 _ _ rfl ji3 rfl rfl Tryd.underlying28 (.int .u32 0) 4 info68 rfl (by decide) (by omega) 0 (ok:=fun _=>True) (okp:=fun _=>True) rfl (fun _ hk=>hk) trivial od_ (Nat.le_trans (Nat.mul_le_mul_right _ (od_:ji3.toNat≤70368744177664)) (by omega)) (Below.refl _ _) (Nat.le_refl _) ?_;intro v211 w6 ho7 hb hg_ hnew_;clear hg_ hnew_;(first|rw [← Ny210.out] at ho7|(simp only [Int.reduceToNat] at ho7;rw [← Ny210.out] at ho7));have HO212:=a_ (Kd.R_lower ho7 (below_size (bl_ HB)));replace HB:=bs_ HB hb;clear hb ho7))
   go_loopg [15] k (fun kq v15 w'=>∃ (x5_1:List Int) (x15_1:Int),v15 = .int .i64 x15_1∧Aside0 (wide_up.l0 kq a1 x5_1 l0 (l0.length:Int) x15_1=some r)∧Aside0 (kq≤k)∧Aside0 (Kd.R (Kd.int .u32) 68 w' w.heap.size (fun _=>True) v211 x5_1)∧Aside0 (Below w.heap.size w w'))
   case atStart=>exact ⟨(y210),(0),rb_,H',⟨Nat.le_refl _⟩,⟨rr_ HO212⟩,⟨bl_ HB⟩⟩
   case round =>
    clear H'
    try clear p2
    try clear c4
    try clear c4b0
    try clear c4b1
    try clear c5
    try clear c5b0
    try clear c5b1
    try clear p6
    obtain ⟨x5_1,x15_1,rfl,HA,HK1,HO_5,HB⟩:=hrel
    cases gk with
    | zero=>exact absurd HA.out (by simp [wide_up.l0])
    | succ k1 =>
     have H:=HA.out
     clear HA
     simp only [wide_up.l0] at H
     by_cases c8:x15_1<(l0.length:Int)
     ·rw [if_pos c8] at H
      have c8b0:decide (x15_1<(l0.length:Int))=true:=decide_eq_true c8
      clear c8
      by_cases c9:0≤x15_1
      ·rw [if_pos c9] at H
       have c9b0:decide (0≤x15_1)=true:=decide_eq_true c9
       clear c9
       by_cases c10:x15_1<(l0.length:Int)
       ·rw [if_pos c10] at H
        have c10b0:decide (x15_1<(l0.length:Int))=true:=decide_eq_true c10
        clear c10
        by_cases c11:0≤a1
        ·rw [if_pos c11] at H
         have c11b0:=eq_true c11
         have c11b1:decide (0≤a1)=true:=decide_eq_true c11
         clear c11
         obtain ⟨ji12,hji12⟩:∃ j_:Int,(shl .u64 (IntKind.u64.wrap (rd l0 x15_1)) a1)=j_:=⟨_,rfl⟩
         replace H:(if x15_1<(x5_1.length:Int) then (if 0≤(wrap64 (x15_1+1)) then (if (wrap64 (x15_1+1))<(x5_1.length:Int) then (wide_up.l0 k1 a1 ((x5_1.set (x15_1:Int).toNat (Go.bits .or .u32 (rd x5_1 x15_1) ((ji12)%4294967296))).set ((wrap64 (x15_1+1)):Int).toNat (((ji12) / 4294967296)%4294967296)) l0 (l0.length:Int) (wrap64 (x15_1+1))) else (none)) else (none)) else (none))=some r:=by first|(rw [hji12] at H;exact H)|(simp only [hji12] at H ⊢;exact H)
         have hji12_:(IntKind.u64.wrap ((IntKind.u64.wrap (rd l0 x15_1))*2^min a1.toNat 64))=ji12:=hji12
         have hji12z:a1≤64→(IntKind.u64.wrap ((IntKind.u64.wrap (rd l0 x15_1))*2^a1.toNat))=ji12:=shl_small hji12
         by_cases c13:x15_1<(x5_1.length:Int)
         ·rw [if_pos c13] at H
          have c13b0:decide (x15_1<(x5_1.length:Int))=true:=decide_eq_true c13
          clear c13
          obtain ⟨y215,hy215⟩:∃ y_:List Int,y_=(x5_1.set (x15_1:Int).toNat (Go.bits .or .u32 (rd x5_1 x15_1) ((ji12)%4294967296))):=⟨_,rfl⟩
          replace H:(if 0≤(wrap64 (x15_1+1)) then (if (wrap64 (x15_1+1))<(x5_1.length:Int) then (wide_up.l0 k1 a1 (y215.set ((wrap64 (x15_1+1)):Int).toNat (((ji12) / 4294967296)%4294967296)) l0 (l0.length:Int) (wrap64 (x15_1+1))) else (none)) else (none))=some r:=by first|(rw [hy215];first|exact t1_ H|exact t2_ H)|exact t2_ H|exact t1_ H|(rw [hy215];exact H)|exact H
          have Ny215:=a_ hy215
          clear hy215
          obtain ⟨ji15,hji15⟩:∃ j_:Int,(wrap64 (x15_1+1))=j_:=⟨_,rfl⟩
          replace H:(if 0≤(ji15) then (if (ji15)<(x5_1.length:Int) then (wide_up.l0 k1 a1 (y215.set ((ji15):Int).toNat (((ji12) / 4294967296)%4294967296)) l0 (l0.length:Int) ji15) else (none)) else (none))=some r:=by first|(rw [hji15] at H;exact H)|(simp only [hji15] at H ⊢;exact H)
          have hji15w:(IntKind.i64.wrap (x15_1+1))=ji15:=(i64_w _).trans hji15
          by_cases c16:0≤(ji15)
          ·rw [if_pos c16] at H
           have c16b0:decide (0≤(ji15))=true:=decide_eq_true c16
           clear c16
           by_cases c17:(ji15)<(x5_1.length:Int)
           ·rw [if_pos c17] at H
            have c17b0:decide ((ji15)<(x5_1.length:Int))=true:=decide_eq_true c17
            clear c17
            obtain ⟨y216,hy216⟩:∃ y_:List Int,y_=(y215.set ((ji15):Int).toNat (((ji12) / 4294967296)%4294967296)):=⟨_,rfl⟩
            replace H:(wide_up.l0 k1 a1 y216 l0 (l0.length:Int) ji15)=some r:=by first|(rw [hy216];first|exact t1_ H|exact t2_ H)|exact t2_ H|exact t1_ H|(rw [hy216];exact H)|exact H
            have Ny216:=a_ hy216
            clear hy216
            have H':=a_ H
            clear H
            have p213:0≤(x15_1:Int):=od_
            have q213:x15_1<(l0.length:Int):=od_
            obtain ⟨ad213,e213,hx213_0⟩:=Kd.at_int HR0.out x15_1 p213 q213
            cases e213
            replace hx213_0:=(HB.out.cell (World.block_lt_of_cell? w _ hx213_0)).trans hx213_0
            replace p213:=eq_true p213
            replace q213:=eq_true q213
            obtain ⟨Ao19,co19,eo19⟩:=Kd.R_slice HO_5.out
            subst eo19
            have p214:0≤(x15_1:Int):=od_
            have q214:x15_1<(x5_1.length:Int):=od_
            obtain ⟨ad214,e214,hx214_0⟩:=Kd.at_int (Kd.R_reads' HO_5.out).2.2 x15_1 p214 q214
            cases e214
            replace p214:=eq_true p214
            replace q214:=eq_true q214
            have p14:0≤(x15_1:Int):=od_
            have q14:(x15_1:Int)<((x5_1.length:Int):Int):=od_
            obtain ⟨go14,co14,eo14,gb14,gl14,cl14,HG14⟩:=Kd.R_form HO_5.out (by omega)
            (first|cases eo14|(injection eo14 with ea_ en_ ec_;(first|subst ea_|(injection ea_ with ea_;subst ea_));subst ec_;clear en_))
            have GB14:=a_ gb14
            have GG14:=a_ HG14
            clear gb14 gl14 HG14
            (first|simp only [add_plain] at hx214_0|skip)
            obtain ⟨hx14_0,hf14_0⟩:=Kd.R_celln 0 HO_5.out (x15_1:Int) p14 q14
            (try simp only [Int.toNat_natCast] at hx14_0 hf14_0)
            replace p14:=eq_true p14
            replace q14:=eq_true q14
            have HP20:=Kd.R_putg HO_5.out (x15_1:Int) (Go.bits .or .u32 (rd x5_1 x15_1) ((ji12)%4294967296))
            go_wp2_with (first|((with_reducible refine gate_store (t:=68) (p:=31) rfl ?_);refine store_event (t:=68) (p:=31) (v:=?vo_w21) (w1:=(wr.setCell ⟨go14,(x15_1:Int).toNat,none⟩ (.int .u32 (Go.bits .or .u32 (rd x5_1 x15_1) ((ji12)%4294967296))))) ?hg ?ho ?hn ?hr ?_;(case ho=>rfl);(case hg=>rfl);(case hn=>rfl);(case hr=>first|(go_simp;done)|(go_simp;rfl));intro w21 hw;have hg:wr.grownBy w21 (some go14):=(by rw [hw];exact HP20.2);have hp_:Kd.R (Kd.int .u32) 68 w21 w.heap.size (fun _=>True) (.slice (some ⟨go14,0,none⟩) x5_1.length co19) y215:=(by rw [hw,Ny215.out];exact HP20.1);clear HP20;replace HO_5:=a_ hp_;replace HB:=a_ ((by rw [hw];exact below_set (HB.out) GB14.out:Below w.heap.size w w21));clear hg hw hp_;have p18:0≤((ji15):Int):=od_;have q18:((ji15):Int)<((x5_1.length:Int):Int):=od_;obtain ⟨hx18_0,hf18_0⟩:=Kd.R_celln 0 HO_5.out ((ji15):Int) p18 q18;(try simp only [Int.toNat_natCast] at hx18_0 hf18_0);replace p18:=eq_true p18;replace q18:=eq_true q18;obtain ⟨hy22_,hz22_⟩:=Kd.R_celln 0 HO_5.out ((ji15):Int) od_ od_;have HP22:=Kd.R_putg HO_5.out ((ji15):Int) (((ji12) / 4294967296)%4294967296))|((with_reducible refine gate_store (t:=68) (p:=38) rfl ?_);refine store_event (t:=68) (p:=38) (v:=?vo_w23) (w1:=(w21.setCell ⟨go14,((ji15):Int).toNat,none⟩ (.int .u32 (((ji12) / 4294967296)%4294967296)))) ?hg ?ho ?hn ?hr ?_;(case ho=>rfl);(case hg=>rfl);(case hn=>rfl);(case hr=>first|(go_simp;done)|(go_simp;rfl));intro w23 hw;have hg:w21.grownBy w23 (some go14):=(by rw [hw];exact HP22.2);have hp_:Kd.R (Kd.int .u32) 68 w23 w.heap.size (fun _=>True) (.slice (some ⟨go14,0,none⟩) x5_1.length co19) y216:=(by rw [hw,Ny216.out];exact HP22.1);clear HP22;replace HO_5:=a_ hp_;replace HB:=a_ ((by rw [hw];exact below_set (HB.out) GB14.out:Below w.heap.size w w23));clear hg hw hp_))
            go_roundg k1
            case measure=>have:=HK1.out;omega
            case rel=>exact ⟨(y216),(ji15),(by first|rfl|(simp;done)|(simp only [← hji15] <;> (first|rfl|simp))|(simp [*];done)),H',⟨by have:=HK1.out;omega⟩,⟨rr_ HO_5⟩,⟨bl_ HB⟩⟩
           ·rw [if_neg c17] at H
            exact ab_ H
          ·rw [if_neg c16] at H
           exact ab_ H
         ·rw [if_neg c13] at H
          exact ab_ H
        ·rw [if_neg c11] at H
         exact ab_ H
       ·rw [if_neg c10] at H
        exact ab_ H
      ·rw [if_neg c9] at H
       exact ab_ H
     ·rw [if_neg c8] at H
      have c8b0:decide (x15_1<(l0.length:Int))=false:=decide_eq_false c8
      clear c8
      obtain rfl:=Option.some.inj H
      go_wp2
      go_ret
      exact ⟨_,by first|exact rf_|(simp only [← hji3];exact rf_),rr_ HO_5,bl_ HB⟩
  ·rw [if_neg c5] at H
   exact ab_ H
 ·rw [if_neg c4] at H
  exact ab_ H
def wide_Shift.j0:Nat→List Int→Int→Bool→Option (List Int × Int)
 | 0,_,_,_=>none
 | k+1,x0,x1,x13=>if x13=true then (some (([]:List Int),0)) else (if x1<0 then (if 0≤(wrap64 (Int.tdiv (wrap64 (-x1)) 32)) then (if (wrap64 (Int.tdiv (wrap64 (-x1)) 32))≤(x0.length:Int) then ((wide_down.f k (x0.drop ((wrap64 (Int.tdiv (wrap64 (-x1)) 32)):Int).toNat) (Int.tmod (wrap64 (-x1)) 32)).bind fun t226=>((wide_Norm.f k t226).bind fun t229=>(some (t229,0)))) else (none)) else (none)) else ((wide_Len.f k x0).bind fun t232=>(if x1>(wrap64 (262144 - t232)) then (some (([]:List Int),2)) else (if 0≤(wrap64 (Int.tdiv x1 32)) then (if (wrap64 (Int.tdiv x1 32))≤(wrap64 ((wrap64 ((wrap64 (Int.tdiv x1 32))+(x0.length:Int)))+1)) then (if (wrap64 ((wrap64 ((wrap64 (Int.tdiv x1 32))+(x0.length:Int)))+1):Int).toNat≤70368744177664 then ((some (List.replicate (wrap64 (Int.tdiv x1 32):Int).toNat 0:List Int)).bind fun y233=>((wide_up.f k x0 (Int.tmod x1 32)).bind fun t236=>(if y233.length+t236.length<35184372088832 then ((some (y233++t236:List Int)).bind fun y239=>(some ((fit1 y239),fit2 y239))) else (none)))) else (none)) else (none)) else (none)))))
def wide_Shift.f (k:Nat) (l0:List Int) (a1:Int):Option (List Int × Int):=(wide_cut.f k l0).bind fun t217=>(if (t217.length:Int)>8192 then (some (([]:List Int),2)) else (if (t217.length:Int)=0 then (wide_Shift.j0 k t217 a1 true) else ((wide_Len.f k t217).bind fun t220=>(wide_Shift.j0 k t217 a1 (decide (a1≤(wrap64 (-t220))))))))
theorem wide_Shift.calls (k:Nat) (A0:Option Addr) (c0:Nat) (l0:List Int) (a1:Int) (r1:List Int) (r2:Int) (w:World) (hr0:Kd.C (Kd.int .u32) w A0 l0.length l0) (hc0:l0.length≤c0) (h:wide_Shift.f k l0 a1=some (r1,r2)) :
  Calls Tryd.prog 59 #[.slice A0 l0.length c0,.int .i64 a1] w fun e w'=>∃ v0_:Value,e = .returned (.tuple #[v0_,.int .i64 r2])∧Kd.Q (Kd.int .u32) 68 w' w.heap.size (fun _=>True) v0_ r1∧Below w.heap.size w w':=by
 have HR0:=a_ hr0
 have HC0:=a_ hc0
 clear hr0 hc0
 have HB:=a_ (Below.refl w.heap.size w)
 have H:=h
 unfold wide_Shift.f at H
 clear h
 obtain ⟨t217,A3,H⟩:=ob_ H
 try dsimp only at H
 by_cases c4:(t217.length:Int)>8192
 ·rw [if_pos c4] at H
  have c4b0:decide (8192<(t217.length:Int))=true:=decide_eq_true c4
  have c4b1:decide (8192<t217.length)=true:=decide_eq_true (by omega)
  clear c4
  simp only [Option.some.injEq,Prod.mk.injEq] at H
  obtain ⟨rfl,rfl⟩:=H
  go_enter Tryd.func59,Tryd.ntmps59
  go_wp2_with (first|(refine goesM (some 8) Tryd.func78 #[.slice A0 l0.length c0] ?_;(with_reducible refine (wide_cut.calls k (fun k_=>k_<w.heap.size) _ _ l0 t217 _ ?side1 A3.out).mono ?_);(case side1=>exact Kd.V_mk HC0.out (Kd.F_below (Kd.C_F (Kd.heap_int .u32) HR0.out) (bl_ HB)));rintro e w5 ⟨v218,rfl,ho0,hb⟩;refine ⟨_,rfl,?_⟩;have HO219:=a_ (Kd.V_lower (Kd.V_mono (ok':=fun k_=>True) ho0 (fun k_ hk_=>trivial)) (below_size (bl_ HB)));replace HB:=bs_ HB hb;(try clear hb);(try clear ho0);obtain ⟨Ao6,co6,eo6⟩:=Kd.V_slice HO219.out;subst eo6))
  go_ret2
  exact ⟨_,rf_,Kd.Q_of_R (by first|exact Kd.R_nil _ _ _ _ _|exact Kd.N_nil _ _ _ _ _|exact Kd.V_nil _ _ _ _ _|exact Kd.Q_nil _ _ _ _ _|exact Kd.S_nil _ _ _ _ _),bl_ HB⟩
 ·rw [if_neg c4] at H
  have c4b0:decide (8192<(t217.length:Int))=false:=decide_eq_false c4
  have c4b1:decide (8192<t217.length)=false:=decide_eq_false (by omega)
  clear c4
  have HC7:=a_ H
  clear H
  go_enter Tryd.func59,Tryd.ntmps59
  go_upto_region 4 with (first|(refine goesM (some 8) Tryd.func78 #[.slice A0 l0.length c0] ?_;(with_reducible refine (wide_cut.calls k (fun k_=>k_<w.heap.size) _ _ l0 t217 _ ?side1 A3.out).mono ?_);(case side1=>exact Kd.V_mk HC0.out (Kd.F_below (Kd.C_F (Kd.heap_int .u32) HR0.out) (bl_ HB)));rintro e w8 ⟨v218,rfl,ho0,hb⟩;refine ⟨_,rfl,?_⟩;have HO219:=a_ (Kd.V_lower (Kd.V_mono (ok':=fun k_=>True) ho0 (fun k_ hk_=>trivial)) (below_size (bl_ HB)));replace HB:=bs_ HB hb;(try clear hb);(try clear ho0);obtain ⟨Ao9,co9,eo9⟩:=Kd.V_slice HO219.out;subst eo9))
  (try simp only [Act.put,List.setIfInBounds_toArray,List.set_cons_zero,List.set_cons_succ])
  obtain ⟨bz10,hbz10⟩:∃ b_:Bool,decide (8192<(t217.length:Int))=b_:=⟨_,rfl⟩
  (try rw [hbz10])
  go_cut [13] (fun v13 wc=>∃ (kq:Nat) (x13_6:Bool),v13 = .bool x13_6∧Aside0 (wide_Shift.j0 kq t217 a1 x13_6=some (r1,r2))∧Aside0 (kq≤k)∧Aside0 (Kd.V (Kd.int .u32) 68 wc w.heap.size (fun _=>True) (.slice Ao9 t217.length co9) t217)∧Aside0 (Below w.heap.size w wc))
  case first =>
   have H:=HC7.out
   clear HC7
   by_cases c11:(t217.length:Int)=0
   ·rw [if_pos c11] at H
    have c11b0:((t217.length:Int) == 0)=true:=beq_iff_eq.mpr c11
    have c11b1:((t217.length:Int) != 0)=false:=bne_eq_false_iff_eq.mpr c11
    clear c11
    (first|rw [c11b0]|(simp only [i64_w,i32_w];rw [c11b0])|rw [c11b1]|skip)
    have H':=a_ H
    clear H
    go_wp2
    go_meet
    case rel=>exact ⟨_,(true),rb_,H',⟨om_⟩,⟨vv_ HO219⟩,⟨bl_ HB⟩⟩
   ·rw [if_neg c11] at H
    have c11b0:((t217.length:Int) == 0)=false:=beq_eq_false_iff_ne.mpr c11
    have c11b1:((t217.length:Int) != 0)=true:=bne_iff_ne.mpr c11
    have c11b2:¬ (t217=[]):=fun h_=>c11 (by rw [h_];rfl)
    (first|rw [c11b0]|(simp only [i64_w,i32_w];rw [c11b0])|rw [c11b1]|skip)
    obtain ⟨t220,A12,H⟩:=ob_ H
    try dsimp only at H
    have H':=a_ H
    clear H
    go_wp2_with (first|(go_at_call 65;(try simp only [i64_w,i32_w]);(with_reducible refine (wide_Len.calls k _ _ t217 t220 _ ?side1 ?side2 A12.out).mono ?_);(case side1=>exact cs_ (Kd.V_reads' HO219.out).2.2);(case side2=>exact (Kd.V_reads' HO219.out).2.1);rintro e w13 ⟨rfl,hb⟩;replace HO219:=a_ (Kd.V_below (vv_ HO219) hb);replace HB:=bs_ HB hb;(try clear hb)))
    go_meet
    case rel=>exact ⟨_,(decide (a1≤(wrap64 (-t220)))),rb_,H',⟨om_⟩,⟨vv_ HO219⟩,⟨bl_ HB⟩⟩
  case rest =>
   clear HC7
   try clear c1
   try clear p2
   try clear c4
   try clear c4b0
   try clear c4b1
   try clear c5
   try clear p6
   try clear c7
   try clear c11
   try clear c11b0
   try clear c11b1
   try clear c11b2
   obtain ⟨kq,x13_6,rfl,HA,HJ6,HO_0,HB⟩:=hcut
   cases kq with
   | zero=>exact absurd HA.out (by simp [wide_Shift.j0])
   | succ kj6 =>
    have H:=HA.out
    clear HA
    simp only [wide_Shift.j0] at H
    by_cases c14:x13_6=true
    ·subst c14
     have H1:(some (([]:List Int),0))=some (r1,r2):=by rw [if_pos rfl] at H;exact H
     clear H
     have H:=H1
     clear H1
     simp only [Option.some.injEq,Prod.mk.injEq] at H
     obtain ⟨rfl,rfl⟩:=H
     go_wp2
     go_ret2
     exact ⟨_,rf_,Kd.Q_of_R (by first|exact Kd.R_nil _ _ _ _ _|exact Kd.N_nil _ _ _ _ _|exact Kd.V_nil _ _ _ _ _|exact Kd.Q_nil _ _ _ _ _|exact Kd.S_nil _ _ _ _ _),bl_ HB⟩
    ·replace c14:=Bool.eq_false_iff.mpr c14
     subst c14
     have H1:(if a1<0 then (if 0≤(wrap64 (Int.tdiv (wrap64 (-a1)) 32)) then (if (wrap64 (Int.tdiv (wrap64 (-a1)) 32))≤(t217.length:Int) then ((wide_down.f kj6 (t217.drop ((wrap64 (Int.tdiv (wrap64 (-a1)) 32)):Int).toNat) (Int.tmod (wrap64 (-a1)) 32)).bind fun t226=>((wide_Norm.f kj6 t226).bind fun t229=>(some (t229,0)))) else (none)) else (none)) else ((wide_Len.f kj6 t217).bind fun t232=>(if a1>(wrap64 (262144 - t232)) then (some (([]:List Int),2)) else (if 0≤(wrap64 (Int.tdiv a1 32)) then (if (wrap64 (Int.tdiv a1 32))≤(wrap64 ((wrap64 ((wrap64 (Int.tdiv a1 32))+(t217.length:Int)))+1)) then (if (wrap64 ((wrap64 ((wrap64 (Int.tdiv a1 32))+(t217.length:Int)))+1):Int).toNat≤70368744177664 then ((some (List.replicate (wrap64 (Int.tdiv a1 32):Int).toNat 0:List Int)).bind fun y233=>((wide_up.f kj6 t217 (Int.tmod a1 32)).bind fun t236=>(if y233.length+t236.length<35184372088832 then ((some (y233++t236:List Int)).bind fun y239=>(some ((fit1 y239),fit2 y239))) else (none)))) else (none)) else (none)) else (none)))))=some (r1,r2):=by rw [if_neg (show ¬ (false=true) by decide)] at H;exact H
     clear H
     have H:=H1
     clear H1
     by_cases c15:a1<0
     ·rw [if_pos c15] at H
      have c15b0:decide (a1<0)=true:=decide_eq_true c15
      clear c15
      obtain ⟨ji16,hji16⟩:∃ j_:Int,(wrap64 (Int.tdiv (wrap64 (-a1)) 32))=j_:=⟨_,rfl⟩
      replace H:(if 0≤(ji16) then (if (ji16)≤(t217.length:Int) then ((wide_down.f kj6 (t217.drop ((ji16):Int).toNat) (Int.tmod (wrap64 (-a1)) 32)).bind fun t226=>((wide_Norm.f kj6 t226).bind fun t229=>(some (t229,0)))) else (none)) else (none))=some (r1,r2):=by first|(rw [hji16] at H;exact H)|(simp only [hji16] at H ⊢;exact H)
      have hji16w:(IntKind.i64.wrap (Int.tdiv (wrap64 (-a1)) 32))=ji16:=(i64_w _).trans hji16
      by_cases c17:0≤(ji16)
      ·rw [if_pos c17] at H
       have c17b0:=eq_true c17
       have c17b1:decide (0≤(ji16))=true:=decide_eq_true c17
       clear c17
       by_cases c18:(ji16)≤(t217.length:Int)
       ·rw [if_pos c18] at H
        have c18b0:=eq_true c18
        have c18b1:decide ((ji16)≤(t217.length:Int))=true:=decide_eq_true c18
        clear c18
        obtain ⟨y221,hy221⟩:∃ y_:List Int,y_=(t217.drop ((ji16):Int).toNat):=⟨_,rfl⟩
        replace H:((wide_down.f kj6 y221 (Int.tmod (wrap64 (-a1)) 32)).bind fun t226=>((wide_Norm.f kj6 t226).bind fun t229=>(some (t229,0))))=some (r1,r2):=by first|(rw [hy221];first|exact t1_ H|exact t2_ H)|exact t2_ H|exact t1_ H|(rw [hy221];exact H)|exact H
        have Ny221:=a_ hy221
        clear hy221
        obtain ⟨t226,A19,H⟩:=ob_ H
        try dsimp only at H
        obtain ⟨t229,A20,H⟩:=ob_ H
        try dsimp only at H
        simp only [Option.some.injEq,Prod.mk.injEq] at H
        obtain ⟨rfl,rfl⟩:=H
        have q21:((ji16):Int)≤((t217.length:Int):Int):=od_
        obtain ⟨i021,hi021,_,hsz21,_⟩:=info_parts info68
        have hroom21:t217.length≤co9:=(Kd.V_reads' HO_0.out).2.1
        have hC21:Kd.F (Kd.int .u32) _ _ Ao9 t217.length t217:=(Kd.V_at (base:=w.heap.size) HO_0.out).2.2
        have q021:(0:Int)≤((ji16):Int):=od_
        have hcut21:=cut_from (P:=Tryd.prog) 28 68 .i64 Tryd.underlying28 hi021 1 hsz21 Ao9 t217.length co9 (ji16) q021 q21
        have hr21:=Kd.F_cut (m:=((ji16):Int).toNat) (c:=co9) hC21 (by omega) hroom21
        obtain ⟨A21,hA21⟩:∃ A1,A1=(if co9=((ji16):Int).toNat then Ao9 else (Ao9:Option Addr).map (·.add (((ji16):Int).toNat*1))):=⟨_,rfl⟩
        obtain ⟨c21,hc21⟩:∃ c1,c1=co9 - ((ji16):Int).toNat:=⟨_,rfl⟩
        have hy21:y221.length=t217.length - ((ji16):Int).toNat:=(by rw [Ny221.out,List.length_drop] <;> omega)
        rw [show (t217).drop ((ji16):Int).toNat=y221 from Ny221.out.symm] at hr21
        replace hr21:Kd.F (Kd.int .u32) _ _ A21 y221.length y221:=(by rw [hA21];exact hr21)
        rw [← hy21,← hA21,← hc21] at hcut21
        have HO225:=a_ (show Kd.V (Kd.int .u32) 68 _ w.heap.size _ (.slice A21 y221.length c21) y221 from Kd.V_mk (by rw [hy21,hc21];exact Nat.sub_le_sub_right hroom21 _) hr21)
        have HC225:=a_ (show y221.length≤c21 from by rw [hy21,hc21];exact Nat.sub_le_sub_right hroom21 _)
        clear hr21 hC21 hroom21 hi021 hsz21 hc21
        have KY21:=a_ hy21
        have KA21:=a_ hA21
        clear hy21 hA21
        replace q21:=eq_true q21
        go_wp2_with (first|(refine goesM (some 35) Tryd.func79 #[.slice A21 y221.length c21,.int .i64 (Int.tmod (wrap64 (-a1)) 32)] ?_;(with_reducible refine (wide_down.calls kj6 _ _ y221 (Int.tmod (wrap64 (-a1)) 32) t226 _ ?side1 ?side2 A19.out).mono ?_);(case side1=>exact cs_ (Kd.V_reads' HO225.out).2.2);(case side2=>exact (Kd.V_reads' HO225.out).2.1);rintro e w22 ⟨v227,rfl,ho0,hb⟩;refine ⟨_,rfl,?_⟩;replace HO_0:=a_ (Kd.V_elder' (vv_ HO_0) (Kd.R_base ho0) hb);replace HO225:=a_ (Kd.V_elder' (vv_ HO225) (Kd.R_base ho0) hb);have HO228:=a_ (Kd.R_lower ho0 (below_size (bl_ HB)));replace HB:=bs_ HB hb;(try clear hb);(try clear ho0);obtain ⟨Ao23,co23,eo23⟩:=Kd.R_slice HO228.out;subst eo23)|(refine goesM (some 36) Tryd.func75 #[.slice Ao23 t226.length co23] ?_;(with_reducible refine (wide_Norm.calls kj6 _ _ t226 t229 _ ?side1 ?side2 A20.out).mono ?_);(case side1=>exact cs_ (Kd.R_reads' HO228.out).2.2);(case side2=>exact (Kd.R_reads' HO228.out).2.1);rintro e w24 ⟨v230,rfl,ho0,hb⟩;refine ⟨_,rfl,?_⟩;replace HO_0:=a_ (Kd.V_elder' (vv_ HO_0) (Kd.R_base ho0) hb);replace HO225:=a_ (Kd.V_elder' (vv_ HO225) (Kd.R_base ho0) hb);have HO231:=a_ (Kd.R_lower (Kd.R_new' ho0 (Kd.R_lt (rr_ HO228))) (below_size (bl_ HB)));replace HO228:=a_ (Kd.R_elder' (rr_ HO228) (Kd.R_base ho0) hb);replace HB:=bs_ HB hb;(try clear hb);(try clear ho0)))
        go_ret2
        exact ⟨_,by first|exact rf_|(simp only [← hji16];exact rf_),Kd.Q_of_R (by (with_reducible repeat (first|apply rA|apply rN|apply rD));exact Kd.R_mono HO231.out (fun _ hk=>trivial)),bl_ HB⟩
       ·rw [if_neg c18] at H
        exact ab_ H
      ·rw [if_neg c17] at H
       exact ab_ H
     ·rw [if_neg c15] at H
      have c15b0:decide (a1<0)=false:=decide_eq_false c15
      clear c15
      obtain ⟨t232,A25,H⟩:=ob_ H
      try dsimp only at H
      by_cases c26:a1>(wrap64 (262144 - t232))
      ·rw [if_pos c26] at H
       have c26b0:decide ((wrap64 (262144 - t232))<a1)=true:=decide_eq_true c26
       clear c26
       simp only [Option.some.injEq,Prod.mk.injEq] at H
       obtain ⟨rfl,rfl⟩:=H
       go_wp2_with (first|(refine goesM (some 40) Tryd.func65 #[.slice Ao9 t217.length co9] ?_;(with_reducible refine (wide_Len.calls kj6 _ _ t217 t232 _ ?side1 ?side2 A25.out).mono ?_);(case side1=>exact cs_ (Kd.V_reads' HO_0.out).2.2);(case side2=>exact (Kd.V_reads' HO_0.out).2.1);rintro e w27 ⟨rfl,hb⟩;refine ⟨_,rfl,?_⟩;replace HO_0:=a_ (Kd.V_below (vv_ HO_0) hb);replace HB:=bs_ HB hb;(try clear hb)))
       go_ret2
       exact ⟨_,rf_,Kd.Q_of_R (by first|exact Kd.R_nil _ _ _ _ _|exact Kd.N_nil _ _ _ _ _|exact Kd.V_nil _ _ _ _ _|exact Kd.Q_nil _ _ _ _ _|exact Kd.S_nil _ _ _ _ _),bl_ HB⟩
      ·rw [if_neg c26] at H
       have c26b0:decide ((wrap64 (262144 - t232))<a1)=false:=decide_eq_false c26
       clear c26
       obtain ⟨ji28,hji28⟩:∃ j_:Int,(wrap64 (Int.tdiv a1 32))=j_:=⟨_,rfl⟩
       replace H:(if 0≤(ji28) then (if (ji28)≤(wrap64 ((wrap64 ((ji28)+(t217.length:Int)))+1)) then (if (wrap64 ((wrap64 ((ji28)+(t217.length:Int)))+1):Int).toNat≤70368744177664 then ((some (List.replicate (ji28:Int).toNat 0:List Int)).bind fun y233=>((wide_up.f kj6 t217 (Int.tmod a1 32)).bind fun t236=>(if y233.length+t236.length<35184372088832 then ((some (y233++t236:List Int)).bind fun y239=>(some ((fit1 y239),fit2 y239))) else (none)))) else (none)) else (none)) else (none))=some (r1,r2):=by first|(rw [hji28] at H;exact H)|(simp only [hji28] at H ⊢;exact H)
       (try rw [hji28] at A25)
       have hji28w:(IntKind.i64.wrap (Int.tdiv a1 32))=ji28:=(i64_w _).trans hji28
       by_cases c29:0≤(ji28)
       ·rw [if_pos c29] at H
        have c29b0:=eq_true c29
        have c29b1:decide (0≤(ji28))=true:=decide_eq_true c29
        clear c29
        by_cases c30:(ji28)≤(wrap64 ((wrap64 ((ji28)+(t217.length:Int)))+1))
        ·rw [if_pos c30] at H
         have c30b0:=eq_true c30
         have c30b1:decide ((ji28)≤(wrap64 ((wrap64 ((ji28)+(t217.length:Int)))+1)))=true:=decide_eq_true c30
         by_cases c31:(wrap64 ((wrap64 ((ji28)+(t217.length:Int)))+1):Int).toNat≤70368744177664
         ·rw [if_pos c31] at H
          have c31b0:=eq_true c31
          have c31b1:decide ((wrap64 ((wrap64 ((ji28)+(t217.length:Int)))+1):Int).toNat≤70368744177664)=true:=decide_eq_true c31
          obtain ⟨y233,hy233⟩:∃ y_:List Int,y_=(List.replicate (ji28:Int).toNat 0):=⟨_,rfl⟩
          replace H:((wide_up.f kj6 t217 (Int.tmod a1 32)).bind fun t236=>(if y233.length+t236.length<35184372088832 then ((some (y233++t236:List Int)).bind fun y239=>(some ((fit1 y239),fit2 y239))) else (none)))=some (r1,r2):=by first|(rw [hy233];first|exact t1_ H|exact t2_ H)|exact t2_ H|exact t1_ H|(rw [hy233];exact H)|exact H
          have Ny233:=a_ hy233
          clear hy233
          obtain ⟨t236,A32,H⟩:=ob_ H
          try dsimp only at H
          by_cases c33:y233.length+t236.length<35184372088832
          ·rw [if_pos c33] at H
           have LMc33:=a_ c33
           clear c33
           obtain ⟨y239,hy239⟩:∃ y_:List Int,y_=(y233++t236):=⟨_,rfl⟩
           replace H:(some ((fit1 y239),fit2 y239))=some (r1,r2):=by first|(rw [hy239];first|exact t1_ H|exact t2_ H)|exact t2_ H|exact t1_ H|(rw [hy239];exact H)|exact H
           have Ny239:=a_ hy239
           clear hy239
           obtain ⟨y242,hy242⟩:∃ y_:List Int,y_=(fit1 y239):=⟨_,rfl⟩
           replace H:(some (y242,fit2 y239))=some (r1,r2):=by first|(rw [hy242];first|exact t1_ H|exact t2_ H)|exact t2_ H|exact t1_ H|(rw [hy242];exact H)|exact H
           have Ny242:=a_ hy242
           clear hy242
           simp only [Option.some.injEq,Prod.mk.injEq] at H
           obtain ⟨rfl,rfl⟩:=H
           go_wp2_with (first|(refine goesM (some 40) Tryd.func65 #[.slice Ao9 t217.length co9] ?_;(with_reducible refine (wide_Len.calls kj6 _ _ t217 t232 _ ?side1 ?side2 A25.out).mono ?_);(case side1=>exact cs_ (Kd.V_reads' HO_0.out).2.2);(case side2=>exact (Kd.V_reads' HO_0.out).2.1);rintro e w34 ⟨rfl,hb⟩;refine ⟨_,rfl,?_⟩;replace HO_0:=a_ (Kd.V_below (vv_ HO_0) hb);replace HB:=bs_ HB hb;(try clear hb))|((with_reducible refine gate_dst (N:=51) rfl ?_);refine Kd.R_makec (Kd.int .u32) _ 68 rfl (N:=51) rfl 28 _ _ rfl ji28 _ rfl rfl Tryd.underlying28 (.int .u32 0) 4 info68 rfl (by decide) (by omega) 0 (ok:=fun _=>True) (okp:=fun _=>True) rfl (fun _ hk=>hk) trivial od_ od_ (Nat.le_trans (Nat.mul_le_mul_right _ (od_:_≤70368744177664)) (by omega)) (Below.refl _ _) (Nat.le_refl _) ?_;intro v234 w35 ho36 hb hg_ hnew_;clear hg_ hnew_;(first|rw [← Ny233.out] at ho36|(simp only [Int.reduceToNat] at ho36;rw [← Ny233.out] at ho36));replace HO_0:=a_ (Kd.V_elder' (vv_ HO_0) (Kd.R_base ho36) hb);have HO235:=a_ (Kd.R_lower ho36 (below_size (bl_ HB)));replace HB:=bs_ HB hb;clear hb ho36)|(refine goesM (some 56) Tryd.func81 #[.slice Ao9 t217.length co9,.int .i64 (Int.tmod a1 32)] ?_;(with_reducible refine (wide_up.calls kj6 _ _ t217 (Int.tmod a1 32) t236 _ ?side1 ?side2 A32.out).mono ?_);(case side1=>exact cs_ (Kd.V_reads' HO_0.out).2.2);(case side2=>exact (Kd.V_reads' HO_0.out).2.1);rintro e w37 ⟨v237,rfl,ho0,hb⟩;refine ⟨_,rfl,?_⟩;replace HO_0:=a_ (Kd.V_elder' (vv_ HO_0) (Kd.R_base ho0) hb);have HO238:=a_ (Kd.R_lower (Kd.R_new' ho0 (Kd.R_lt (rr_ HO235))) (below_size (bl_ HB)));replace HO235:=a_ (Kd.R_elder' (rr_ HO235) (Kd.R_base ho0) hb);replace HB:=bs_ HB hb;(try clear hb);(try clear ho0);obtain ⟨Ao39,co39,eo39⟩:=Kd.R_slice HO238.out;subst eo39)|((with_reducible refine gate_builtin (b:=.append) (xs:=#[.tmp 52,.tmp 56]) rfl ?_);at_builtin;refine Kd.R_append_rows (Kd.int .u32) (w0:=w) w.heap.size rfl (.tmp 52) (.tmp 56) 28 68 (.int .u32 0) 4 rfl Tryd.underlying28 info68 rfl (by decide) (by omega) v234 y233 t236 _ _ _ (fun k_=>some k_≠(.slice Ao39 t236.length co39:Value).ownBlock) (fun _=>False) rfl rfl ?aO ?aR (fun _ _ h=>h) (fun _ h=>h.elim) ?aF ?aB ?aS ?aL ?_;(case aR=>repeat (first|exact (Kd.R_reads' HO238.out).2.2|(with_reducible first|apply cA|apply cN|apply cD)));(case aB=>exact (bl_ HB));(case aF=>exact (fun k_ hk=>Kd.fresh' (Kd.R_lt (rr_ HO238)) k_ hk));(case aO=>exact (by (with_reducible repeat (first|apply rA|apply rN|apply rD));exact Kd.R_mono HO235.out (fun _ hk=>hk.2)));(case aS=>exact (below_size (bl_ HB)));(case aL=>have:=LMc33.out;omega);intro v240 w38 ho hb hg hat;rw [← Ny239.out] at ho;replace HO_0:=a_ (Kd.V_afterv (ok:=(fun k_=>some k_≠(.slice Ao39 t236.length co39:Value).ownBlock)) (by (with_reducible repeat (first|apply Kd.V_alloc|apply Kd.V_drewN|apply Kd.V_drew));exact Kd.V_mono HO_0.out (fun _ hk=>by first|exact ⟨hk.2,hk.1.2⟩|(revert hk;simp only [and_imp];intros;(repeat' apply And.intro) <;> assumption))) hg hat);replace HO238:=a_ (Kd.R_after (ok:=(fun _=>True)) (rr_ HO238) hg hat);replace HB:=a_ hb;have HO241:=a_ ho;clear ho hb hg hat)|((with_reducible refine gate_callee (f:=80) rfl ?_);refine R_fits 58 rfl rfl (.tmp 57) rfl w.heap.size (fun k_=>some k_≠(.slice Ao39 t236.length co39:Value).ownBlock) v240 y239 rfl ?aO ?_;(case aO=>exact (rr_ HO241));intro v243 ho hat;rw [← Ny242.out] at ho;replace HO238:=a_ (Kd.R_mono HO238.out (fun _ hk=>trivial));have HO244:=a_ ho;clear ho hat))
           go_ret2
           exact ⟨_,by first|exact rf_|(simp only [← hji28];exact rf_),by (with_reducible repeat (first|apply Kd.Q_alloc|apply Kd.Q_drewN|apply Kd.Q_drew));exact Kd.Q_mono HO244.out (fun _ hk=>trivial),bl_ HB⟩
          ·rw [if_neg c33] at H
           exact ab_ H
         ·rw [if_neg c31] at H
          exact ab_ H
        ·rw [if_neg c30] at H
         exact ab_ H
       ·rw [if_neg c29] at H
        exact ab_ H

def bits_Add32.f (a0:Int) (a1:Int) (a2:Int):Option (Int × Int):=some ((IntKind.u64.wrap ((IntKind.u64.wrap ((IntKind.u64.wrap (a0))+(IntKind.u64.wrap (a1))))+(IntKind.u64.wrap (a2))))%4294967296,((IntKind.u64.wrap ((IntKind.u64.wrap ((IntKind.u64.wrap (a0))+(IntKind.u64.wrap (a1))))+(IntKind.u64.wrap (a2)))) / 4294967296)%4294967296)
theorem bits_Add32.calls (a0:Int) (a1:Int) (a2:Int) (r1:Int) (r2:Int) (w:World) (h:bits_Add32.f a0 a1 a2=some (r1,r2)) :
  Calls Tryd.prog 82 #[.int .u32 a0,.int .u32 a1,.int .u32 a2] w fun e w'=>e = .returned (.tuple #[.int .u32 r1,.int .u32 r2])∧Drawn0 w w':=by
 have H:=h
 unfold bits_Add32.f at H
 clear h
 simp only [Option.some.injEq,Prod.mk.injEq] at H
 obtain ⟨rfl,rfl⟩:=H
 go_enter Tryd.func82,Tryd.ntmps82
 go_wp2
 go_ret2
 exact ⟨rb_,dr_⟩
mutual
def dyad_sum.j0:Nat→List Int→List Int→Option (List Int)
 | 0,_,_=>none
 | k+1,x0,x1=>if 0≤(wrap64 ((x0.length:Int)+1)) then (if (wrap64 ((x0.length:Int)+1):Int).toNat≤70368744177664 then (dyad_sum.l0 k x0 x1 (List.replicate (wrap64 ((x0.length:Int)+1):Int).toNat 0) 0 (x0.length:Int) 0) else (none)) else (none)
def dyad_sum.l0:Nat→List Int→List Int→List Int→Int→Int→Int→Option (List Int)
 | 0,_,_,_,_,_,_=>none
 | k+1,x0,x1,x5,x6,x21,x22=>if x22<x21 then (if x22<(x1.length:Int) then (if 0≤x22 then (if x22<(x0.length:Int) then ((bits_Add32.f (rd x0 x22) (rd x1 x22) x6).bind fun bt250=>(if x22<(x5.length:Int) then (dyad_sum.l0 k x0 x1 (x5.set (x22:Int).toNat bt250.1) bt250.2 x21 (wrap64 (x22+1))) else (none))) else (none)) else (none)) else (if 0≤x22 then (if x22<(x0.length:Int) then ((bits_Add32.f (rd x0 x22) 0 x6).bind fun bt254=>(if x22<(x5.length:Int) then (dyad_sum.l0 k x0 x1 (x5.set (x22:Int).toNat bt254.1) bt254.2 x21 (wrap64 (x22+1))) else (none))) else (none)) else (none))) else (if 0≤(x0.length:Int) then (if (x0.length:Int)<(x5.length:Int) then (some (x5.set ((x0.length:Int):Int).toNat x6)) else (none)) else (none))
end
def dyad_sum.f (k:Nat) (l0:List Int) (l1:List Int):Option (List Int):=if (l0.length:Int)<(l1.length:Int) then (dyad_sum.j0 k l1 l0) else (dyad_sum.j0 k l0 l1)
theorem dyad_sum.calls (k:Nat) (P0_:Nat→Prop) (A0:Option Addr) (c0:Nat) (l0:List Int) (P1_:Nat→Prop) (A1:Option Addr) (c1:Nat) (l1:List Int) (r:List Int) (w:World) (hs0:Kd.V (Kd.int .u32) 68 w w.heap.size (fun k_=>P0_ k_) (.slice A0 l0.length c0) l0) (hs1:Kd.V (Kd.int .u32) 68 w w.heap.size (fun k_=>P1_ k_) (.slice A1 l1.length c1) l1) (h:dyad_sum.f k l0 l1=some r) :
  Calls Tryd.prog 60 #[.slice A0 l0.length c0,.slice A1 l1.length c1] w fun e w'=>∃ v0_:Value,e = .returned (v0_)∧Kd.R (Kd.int .u32) 68 w' w.heap.size (fun k_=>(w.heap.size≤k_)) v0_ r∧Below w.heap.size w w':=by
 have HO0:=a_ (show Kd.V (Kd.int .u32) 68 w w.heap.size (fun k_=>((P0_ k_∨P1_ k_)∨w.heap.size≤k_)) (.slice A0 l0.length c0) l0 from Kd.V_mono hs0 (fun k_ hk=>.inl (.inl hk)))
 have HO1:=a_ (show Kd.V (Kd.int .u32) 68 w w.heap.size (fun k_=>((P0_ k_∨P1_ k_)∨w.heap.size≤k_)) (.slice A1 l1.length c1) l1 from Kd.V_mono hs1 (fun k_ hk=>.inl (.inr hk)))
 have HB:=a_ (Below.refl w.heap.size w)
 have H:=h
 unfold dyad_sum.f at H
 clear h
 have HC3:=a_ H
 clear H
 go_enter Tryd.func60,Tryd.ntmps60
 go_upto_if 13 with (fail)
 obtain ⟨bz4,hbz4⟩:∃ b_:Bool,decide ((l0.length:Int)<(l1.length:Int))=b_:=⟨_,rfl⟩
 (try rw [hbz4])
 go_cut [0,1] (fun v0 v1 wc=>∃ (kq:Nat) (x0_2:List Int) (x1_2:List Int),Aside0 (dyad_sum.j0 kq x0_2 x1_2=some r)∧Aside0 (kq≤k)∧Aside0 (Kd.V (Kd.int .u32) 68 wc w.heap.size (fun k_=>((P0_ k_∨P1_ k_)∨w.heap.size≤k_)) v0 x0_2)∧Aside0 (Kd.V (Kd.int .u32) 68 wc w.heap.size (fun k_=>((P0_ k_∨P1_ k_)∨w.heap.size≤k_)) v1 x1_2)∧Aside0 (Below w.heap.size w wc))
 case first =>
  have H:=HC3.out
  clear HC3
  by_cases c5:(l0.length:Int)<(l1.length:Int)
  ·rw [if_pos c5] at H
   have c5b0:decide ((l0.length:Int)<(l1.length:Int))=true:=decide_eq_true c5
   have c5b1:decide (l0.length<l1.length)=true:=decide_eq_true (Int.ofNat_lt.mp c5)
   have c5b2:(l0.length<l1.length)=True:=eq_true (Int.ofNat_lt.mp c5)
   (try obtain rfl:bz4=true:=hbz4.symm.trans c5b0)
   clear c5
   (first|rw [c5b0]|(simp only [i64_w,i32_w];rw [c5b0])|rw [c5b1]|skip)
   have H':=a_ H
   clear H
   go_wp2
   go_meet
   case rel=>exact ⟨_,(l1),(l0),H',⟨om_⟩,⟨vv_ HO1⟩,⟨vv_ HO0⟩,⟨bl_ HB⟩⟩
  ·rw [if_neg c5] at H
   have c5b0:decide ((l0.length:Int)<(l1.length:Int))=false:=decide_eq_false c5
   have c5b1:decide (l0.length<l1.length)=false:=decide_eq_false (fun h=>c5 (Int.ofNat_lt.mpr h))
   have c5b2:(l0.length<l1.length)=False:=eq_false (fun h=>c5 (Int.ofNat_lt.mpr h))
   (try obtain rfl:bz4=false:=hbz4.symm.trans c5b0)
   clear c5
   (first|rw [c5b0]|(simp only [i64_w,i32_w];rw [c5b0])|rw [c5b1]|skip)
   have H':=a_ H
   clear H
   go_wp2
   go_meet
   case rel=>exact ⟨_,(l0),(l1),H',⟨om_⟩,⟨vv_ HO0⟩,⟨vv_ HO1⟩,⟨bl_ HB⟩⟩
 case rest =>
  clear HC3
  try clear c1
  try clear p2
  try clear c5
  try clear c5b0
  try clear c5b1
  try clear c5b2
  obtain ⟨kq,x0_2,x1_2,HA,HJ2,HO_0,HO_1,HB⟩:=hcut
  cases kq with
  | zero=>exact absurd HA.out (by simp [dyad_sum.j0])
  | succ kj2 =>
   have H:=HA.out
   clear HA
   simp only [dyad_sum.j0] at H
   obtain ⟨ji6,hji6⟩:∃ j_:Int,(wrap64 ((x0_2.length:Int)+1))=j_:=⟨_,rfl⟩
   replace H:(if 0≤(ji6) then (if (ji6:Int).toNat≤70368744177664 then (dyad_sum.l0 kj2 x0_2 x1_2 (List.replicate (ji6:Int).toNat 0) 0 (x0_2.length:Int) 0) else (none)) else (none))=some r:=by first|(rw [hji6] at H;exact H)|(simp only [hji6] at H ⊢;exact H)
   have hji6w:(IntKind.i64.wrap ((x0_2.length:Int)+1))=ji6:=(i64_w _).trans hji6
   by_cases c7:0≤(ji6)
   ·rw [if_pos c7] at H
    have c7b0:=eq_true c7
    have c7b1:decide (0≤(ji6))=true:=decide_eq_true c7
    clear c7
    by_cases c8:(ji6:Int).toNat≤70368744177664
    ·rw [if_pos c8] at H
     have c8b0:=eq_true c8
     have c8b1:decide ((ji6:Int).toNat≤70368744177664)=true:=decide_eq_true c8
     clear c8
     obtain ⟨y245,hy245⟩:∃ y_:List Int,y_=(List.replicate (ji6:Int).toNat 0):=⟨_,rfl⟩
     replace H:(dyad_sum.l0 kj2 x0_2 x1_2 y245 0 (x0_2.length:Int) 0)=some r:=by first|(rw [hy245];first|exact t1_ H|exact t2_ H)|exact t2_ H|exact t1_ H|(rw [hy245];exact H)|exact H
     have Ny245:=a_ hy245
     clear hy245
     have H':=a_ H
     clear H
     obtain ⟨Ao9,co9,eo9⟩:=Kd.V_slice HO_0.out
     subst eo9
     go_wp2_with (first|((with_reducible refine gate_dst (N:=19) rfl ?_);refine Kd.R_make (Kd.int .u32) _ 68 rfl (N:=19) rfl 28 _ _ rfl ji6 rfl rfl Tryd.underlying28 (.int .u32 0) 4 info68 rfl (by decide) (by omega) 0 (ok:=fun _=>True) (okp:=fun _=>True) rfl (fun _ hk=>hk) trivial od_ (Nat.le_trans (Nat.mul_le_mul_right _ (od_:ji6.toNat≤70368744177664)) (by omega)) (Below.refl _ _) (Nat.le_refl _) ?_;intro v246 w10 ho11 hb hg_ hnew_;clear hg_ hnew_;(first|rw [← Ny245.out] at ho11|(simp only [Int.reduceToNat] at ho11;rw [← Ny245.out] at ho11));replace HO_0:=a_ (Kd.V_elder' (vv_ HO_0) (Kd.R_base ho11) hb);replace HO_1:=a_ (Kd.V_elder' (vv_ HO_1) (Kd.R_base ho11) hb);have HO247:=a_ (Kd.R_lower (Kd.R_newM (M:=fun k_=>(w.heap.size≤k_)) ho11 (below_size (bl_ HB)) (fun k_ h_=>h_)) (below_size (bl_ HB)));replace HB:=bs_ HB hb;clear hb ho11))
     go_loopg [6,22] kj2 (fun kq v6 v22 w'=>∃ (x5_2:List Int) (x6_2:Int) (x22_2:Int),v6 = .int .u32 x6_2∧v22 = .int .i64 x22_2∧Aside0 (dyad_sum.l0 kq x0_2 x1_2 x5_2 x6_2 (x0_2.length:Int) x22_2=some r)∧Aside0 (kq≤kj2)∧Aside0 (Kd.V (Kd.int .u32) 68 w' w.heap.size (fun k_=>((P0_ k_∨P1_ k_)∨w.heap.size≤k_)∧some k_≠(v246:Value).ownBlock) (.slice Ao9 x0_2.length co9) x0_2)∧Aside0 (Kd.V (Kd.int .u32) 68 w' w.heap.size (fun k_=>((P0_ k_∨P1_ k_)∨w.heap.size≤k_)∧some k_≠(v246:Value).ownBlock) u1 x1_2)∧Aside0 (Kd.R (Kd.int .u32) 68 w' w.heap.size (fun k_=>(w.heap.size≤k_)) v246 x5_2)∧Aside0 (Below w.heap.size w w'))
     case atStart=>exact ⟨(y245),(0),(0),rb_,rb_,H',⟨Nat.le_refl _⟩,⟨vv_ HO_0⟩,⟨vv_ HO_1⟩,⟨by (with_reducible repeat (first|apply rA|apply rN|apply rD));exact Kd.R_mono HO247.out (fun _ hk=>hk.1)⟩,⟨bl_ HB⟩⟩
     case round =>
      clear H'
      try clear c1
      try clear p2
      try clear c5
      try clear c5b0
      try clear c5b1
      try clear c5b2
      try clear c6
      try clear p6
      try clear c7
      try clear c7b0
      try clear c7b1
      try clear c8
      try clear c8b0
      try clear c8b1
      try clear p2
      obtain ⟨x5_2,x6_2,x22_2,rfl,rfl,HA,HK2,HO_0,HO_1,HO_5,HB⟩:=hrel
      cases gk with
      | zero=>exact absurd HA.out (by simp [dyad_sum.l0])
      | succ k2 =>
       have H:=HA.out
       clear HA
       simp only [dyad_sum.l0] at H
       by_cases c12:x22_2<(x0_2.length:Int)
       ·rw [if_pos c12] at H
        have c12b0:decide (x22_2<(x0_2.length:Int))=true:=decide_eq_true c12
        clear c12
        by_cases c13:x22_2<(x1_2.length:Int)
        ·rw [if_pos c13] at H
         have c13b0:decide (x22_2<(x1_2.length:Int))=true:=decide_eq_true c13
         clear c13
         by_cases c14:0≤x22_2
         ·rw [if_pos c14] at H
          have c14b0:decide (0≤x22_2)=true:=decide_eq_true c14
          clear c14
          by_cases c15:x22_2<(x0_2.length:Int)
          ·rw [if_pos c15] at H
           have c15b0:decide (x22_2<(x0_2.length:Int))=true:=decide_eq_true c15
           clear c15
           obtain ⟨⟨t250,t251⟩,A16,H⟩:=ob_ H
           try dsimp only at H
           by_cases c17:x22_2<(x5_2.length:Int)
           ·rw [if_pos c17] at H
            have c17b0:decide (x22_2<(x5_2.length:Int))=true:=decide_eq_true c17
            clear c17
            obtain ⟨y252,hy252⟩:∃ y_:List Int,y_=(x5_2.set (x22_2:Int).toNat t250):=⟨_,rfl⟩
            replace H:(dyad_sum.l0 k2 x0_2 x1_2 y252 t251 (x0_2.length:Int) (wrap64 (x22_2+1)))=some r:=by first|(rw [hy252];first|exact t1_ H|exact t2_ H)|exact t2_ H|exact t1_ H|(rw [hy252];exact H)|exact H
            have Ny252:=a_ hy252
            clear hy252
            have H':=a_ H
            clear H
            obtain ⟨Ao19,co19,eo19⟩:=Kd.V_slice HO_1.out
            subst eo19
            have p248:0≤(x22_2:Int):=od_
            have q248:x22_2<(x1_2.length:Int):=od_
            obtain ⟨ad248,e248,hx248_0⟩:=Kd.at_int (Kd.V_reads' HO_1.out).2.2 x22_2 p248 q248
            cases e248
            replace p248:=eq_true p248
            replace q248:=eq_true q248
            have p249:0≤(x22_2:Int):=od_
            have q249:x22_2<(x0_2.length:Int):=od_
            obtain ⟨ad249,e249,hx249_0⟩:=Kd.at_int (Kd.V_reads' HO_0.out).2.2 x22_2 p249 q249
            cases e249
            replace p249:=eq_true p249
            replace q249:=eq_true q249
            go_wp2_with (first|(refine goesM (some 42) Tryd.func82 #[.int .u32 (rd x0_2 x22_2),.int .u32 (rd x1_2 x22_2),.int .u32 x6_2] ?_;(with_reducible refine (bits_Add32.calls (rd x0_2 x22_2) (rd x1_2 x22_2) x6_2 t250 t251 _ A16.out).mono ?_);rintro e w' ⟨rfl,⟨nd,rfl⟩⟩;refine ⟨_,rfl,?_⟩;(try (rw [drewN_self wr];generalize hq_:World.drewN wr _=wr;have n0_:Aside0 (Kd.V (Kd.int .u32) 68 wr w.heap.size (fun k_=>((P0_ k_∨P1_ k_)∨w.heap.size≤k_)∧some k_≠(v246:Value).ownBlock) (.slice (some ad249) x0_2.length co9) x0_2):=⟨by rw [← hq_];exact (vv_ HO_0)⟩;have n1_:Aside0 (Kd.V (Kd.int .u32) 68 wr w.heap.size (fun k_=>((P0_ k_∨P1_ k_)∨w.heap.size≤k_)∧some k_≠(v246:Value).ownBlock) (.slice (some ad248) x1_2.length co19) x1_2):=⟨by rw [← hq_];exact (vv_ HO_1)⟩;have n2_:Aside0 (Kd.R (Kd.int .u32) 68 wr w.heap.size (fun k_=>(w.heap.size≤k_)) v246 x5_2):=⟨by rw [← hq_];exact (rr_ HO_5)⟩;have n3_:Aside0 (Below w.heap.size w wr):=⟨by rw [← hq_];exact (bl_ HB)⟩;clear HO_0 HO_1 HO_5 HB hq_;have HO_0:=n0_;have HO_1:=n1_;have HO_5:=n2_;have HB:=n3_;clear n0_ n1_ n2_ n3_));have p18:0≤(x22_2:Int):=od_;have q18:(x22_2:Int)<((x5_2.length:Int):Int):=od_;obtain ⟨go18,co18,eo18,gb18,gl18,cl18,HG18⟩:=Kd.R_form HO_5.out (by omega);(first|cases eo18|(injection eo18 with ea_ en_ ec_;(first|subst ea_|(injection ea_ with ea_;subst ea_));subst ec_;clear en_));have GB18:=a_ gb18;have GG18:=a_ HG18;clear gb18 gl18 HG18;obtain ⟨hx18_0,hf18_0⟩:=Kd.R_celln 0 HO_5.out (x22_2:Int) p18 q18;(try simp only [Int.toNat_natCast] at hx18_0 hf18_0);replace p18:=eq_true p18;replace q18:=eq_true q18;obtain ⟨hy20_,hz20_⟩:=Kd.R_celln 0 HO_5.out (x22_2:Int) od_ od_;have HP20:=Kd.R_putg HO_5.out (x22_2:Int) t250)|((with_reducible refine gate_store (t:=68) (p:=45) rfl ?_);refine store_event (t:=68) (p:=45) (v:=?vo_w21) (w1:=(wr.setCell ⟨go18,(x22_2:Int).toNat,none⟩ (.int .u32 t250))) ?hg ?ho ?hn ?hr ?_;(case ho=>rfl);(case hg=>rfl);(case hn=>rfl);(case hr=>first|(go_simp;done)|(go_simp;rfl));intro w21 hw;have hg:wr.grownBy w21 (some go18):=(by rw [hw];exact HP20.2);have hp_:Kd.R (Kd.int .u32) 68 w21 w.heap.size (fun k_=>(w.heap.size≤k_)) (.slice (some ⟨go18,0,none⟩) x5_2.length co18) y252:=(by rw [hw,Ny252.out];exact HP20.1);clear HP20;replace HO_0:=a_ (Kd.V_afterv (v:=(.slice (some ⟨go18,0,none⟩) x5_2.length co18)) (v1:=(.slice (some ⟨go18,0,none⟩) x5_2.length co18)) (ok:=(fun k_=>((P0_ k_∨P1_ k_)∨w.heap.size≤k_))) (vv_ HO_0) hg (.inl rfl));replace HO_1:=a_ (Kd.V_afterv (v:=(.slice (some ⟨go18,0,none⟩) x5_2.length co18)) (v1:=(.slice (some ⟨go18,0,none⟩) x5_2.length co18)) (ok:=(fun k_=>((P0_ k_∨P1_ k_)∨w.heap.size≤k_))) (vv_ HO_1) hg (.inl rfl));replace HO_5:=a_ hp_;replace HB:=a_ ((by rw [hw];exact below_set (HB.out) GB18.out:Below w.heap.size w w21));clear hg hw hp_))
            go_roundg k2
            case measure=>have:=HJ2.out;have:=HK2.out;omega
            case rel=>exact ⟨(y252),(t251),(wrap64 (x22_2+1)),rb_,rb_,H',⟨by have:=HJ2.out;have:=HK2.out;omega⟩,⟨vv_ HO_0⟩,⟨vv_ HO_1⟩,⟨rr_ HO_5⟩,⟨bl_ HB⟩⟩
           ·rw [if_neg c17] at H
            exact ab_ H
          ·rw [if_neg c15] at H
           exact ab_ H
         ·rw [if_neg c14] at H
          exact ab_ H
        ·rw [if_neg c13] at H
         have c13b0:decide (x22_2<(x1_2.length:Int))=false:=decide_eq_false c13
         clear c13
         by_cases c22:0≤x22_2
         ·rw [if_pos c22] at H
          have c22b0:decide (0≤x22_2)=true:=decide_eq_true c22
          clear c22
          by_cases c23:x22_2<(x0_2.length:Int)
          ·rw [if_pos c23] at H
           have c23b0:decide (x22_2<(x0_2.length:Int))=true:=decide_eq_true c23
           clear c23
           obtain ⟨⟨t254,t255⟩,A24,H⟩:=ob_ H
           try dsimp only at H
           by_cases c25:x22_2<(x5_2.length:Int)
           ·rw [if_pos c25] at H
            have c25b0:decide (x22_2<(x5_2.length:Int))=true:=decide_eq_true c25
            clear c25
            obtain ⟨y256,hy256⟩:∃ y_:List Int,y_=(x5_2.set (x22_2:Int).toNat t254):=⟨_,rfl⟩
            replace H:(dyad_sum.l0 k2 x0_2 x1_2 y256 t255 (x0_2.length:Int) (wrap64 (x22_2+1)))=some r:=by first|(rw [hy256];first|exact t1_ H|exact t2_ H)|exact t2_ H|exact t1_ H|(rw [hy256];exact H)|exact H
            have Ny256:=a_ hy256
            clear hy256
            have H':=a_ H
            clear H
            obtain ⟨Ao27,co27,eo27⟩:=Kd.V_slice HO_1.out
            subst eo27
            have p253:0≤(x22_2:Int):=od_
            have q253:x22_2<(x0_2.length:Int):=od_
            obtain ⟨ad253,e253,hx253_0⟩:=Kd.at_int (Kd.V_reads' HO_0.out).2.2 x22_2 p253 q253
            cases e253
            replace p253:=eq_true p253
            replace q253:=eq_true q253
            go_wp2_with (first|(refine goesM (some 42) Tryd.func82 #[.int .u32 (rd x0_2 x22_2),.int .u32 0,.int .u32 x6_2] ?_;(with_reducible refine (bits_Add32.calls (rd x0_2 x22_2) 0 x6_2 t254 t255 _ A24.out).mono ?_);rintro e w' ⟨rfl,⟨nd,rfl⟩⟩;refine ⟨_,rfl,?_⟩;(try (rw [drewN_self wr];generalize hq_:World.drewN wr _=wr;have n0_:Aside0 (Kd.V (Kd.int .u32) 68 wr w.heap.size (fun k_=>((P0_ k_∨P1_ k_)∨w.heap.size≤k_)∧some k_≠(v246:Value).ownBlock) (.slice (some ad253) x0_2.length co9) x0_2):=⟨by rw [← hq_];exact (vv_ HO_0)⟩;have n1_:Aside0 (Kd.V (Kd.int .u32) 68 wr w.heap.size (fun k_=>((P0_ k_∨P1_ k_)∨w.heap.size≤k_)∧some k_≠(v246:Value).ownBlock) (.slice Ao27 x1_2.length co27) x1_2):=⟨by rw [← hq_];exact (vv_ HO_1)⟩;have n2_:Aside0 (Kd.R (Kd.int .u32) 68 wr w.heap.size (fun k_=>(w.heap.size≤k_)) v246 x5_2):=⟨by rw [← hq_];exact (rr_ HO_5)⟩;have n3_:Aside0 (Below w.heap.size w wr):=⟨by rw [← hq_];exact (bl_ HB)⟩;clear HO_0 HO_1 HO_5 HB hq_;have HO_0:=n0_;have HO_1:=n1_;have HO_5:=n2_;have HB:=n3_;clear n0_ n1_ n2_ n3_));have p26:0≤(x22_2:Int):=od_;have q26:(x22_2:Int)<((x5_2.length:Int):Int):=od_;obtain ⟨go26,co26,eo26,gb26,gl26,cl26,HG26⟩:=Kd.R_form HO_5.out (by omega);(first|cases eo26|(injection eo26 with ea_ en_ ec_;(first|subst ea_|(injection ea_ with ea_;subst ea_));subst ec_;clear en_));have GB26:=a_ gb26;have GG26:=a_ HG26;clear gb26 gl26 HG26;obtain ⟨hx26_0,hf26_0⟩:=Kd.R_celln 0 HO_5.out (x22_2:Int) p26 q26;(try simp only [Int.toNat_natCast] at hx26_0 hf26_0);replace p26:=eq_true p26;replace q26:=eq_true q26;obtain ⟨hy28_,hz28_⟩:=Kd.R_celln 0 HO_5.out (x22_2:Int) od_ od_;have HP28:=Kd.R_putg HO_5.out (x22_2:Int) t254)|((with_reducible refine gate_store (t:=68) (p:=45) rfl ?_);refine store_event (t:=68) (p:=45) (v:=?vo_w29) (w1:=(wr.setCell ⟨go26,(x22_2:Int).toNat,none⟩ (.int .u32 t254))) ?hg ?ho ?hn ?hr ?_;(case ho=>rfl);(case hg=>rfl);(case hn=>rfl);(case hr=>first|(go_simp;done)|(go_simp;rfl));intro w29 hw;have hg:wr.grownBy w29 (some go26):=(by rw [hw];exact HP28.2);have hp_:Kd.R (Kd.int .u32) 68 w29 w.heap.size (fun k_=>(w.heap.size≤k_)) (.slice (some ⟨go26,0,none⟩) x5_2.length co26) y256:=(by rw [hw,Ny256.out];exact HP28.1);clear HP28;replace HO_0:=a_ (Kd.V_afterv (v:=(.slice (some ⟨go26,0,none⟩) x5_2.length co26)) (v1:=(.slice (some ⟨go26,0,none⟩) x5_2.length co26)) (ok:=(fun k_=>((P0_ k_∨P1_ k_)∨w.heap.size≤k_))) (vv_ HO_0) hg (.inl rfl));replace HO_1:=a_ (Kd.V_afterv (v:=(.slice (some ⟨go26,0,none⟩) x5_2.length co26)) (v1:=(.slice (some ⟨go26,0,none⟩) x5_2.length co26)) (ok:=(fun k_=>((P0_ k_∨P1_ k_)∨w.heap.size≤k_))) (vv_ HO_1) hg (.inl rfl));replace HO_5:=a_ hp_;replace HB:=a_ ((by rw [hw];exact below_set (HB.out) GB26.out:Below w.heap.size w w29));clear hg hw hp_))
            go_roundg k2
            case measure=>have:=HJ2.out;have:=HK2.out;omega
            case rel=>exact ⟨(y256),(t255),(wrap64 (x22_2+1)),rb_,rb_,H',⟨by have:=HJ2.out;have:=HK2.out;omega⟩,⟨vv_ HO_0⟩,⟨vv_ HO_1⟩,⟨rr_ HO_5⟩,⟨bl_ HB⟩⟩
           ·rw [if_neg c25] at H
            exact ab_ H
          ·rw [if_neg c23] at H
           exact ab_ H
         ·rw [if_neg c22] at H
          exact ab_ H
       ·rw [if_neg c12] at H
        have c12b0:decide (x22_2<(x0_2.length:Int))=false:=decide_eq_false c12
        clear c12
        by_cases c30:0≤(x0_2.length:Int)
        ·rw [if_pos c30] at H
         have c30b0:decide (0≤(x0_2.length:Int))=true:=decide_eq_true c30
         have c30b1:decide (0≤x0_2.length)=true:=decide_eq_true (by omega)
         clear c30
         by_cases c31:(x0_2.length:Int)<(x5_2.length:Int)
         ·rw [if_pos c31] at H
          have c31b0:decide ((x0_2.length:Int)<(x5_2.length:Int))=true:=decide_eq_true c31
          have c31b1:decide (x0_2.length<x5_2.length)=true:=decide_eq_true (Int.ofNat_lt.mp c31)
          have c31b2:(x0_2.length<x5_2.length)=True:=eq_true (Int.ofNat_lt.mp c31)
          clear c31
          obtain ⟨y257,hy257⟩:∃ y_:List Int,y_=(x5_2.set ((x0_2.length:Int):Int).toNat x6_2):=⟨_,rfl⟩
          replace H:(some y257)=some r:=by first|(rw [hy257];first|exact t1_ H|exact t2_ H)|exact t2_ H|exact t1_ H|(rw [hy257];exact H)|exact H
          have Ny257:=a_ hy257
          clear hy257
          obtain rfl:=Option.some.inj H
          have p32:0≤((x0_2.length:Int):Int):=od_
          have q32:((x0_2.length:Int):Int)<((x5_2.length:Int):Int):=od_
          obtain ⟨go32,co32,eo32,gb32,gl32,cl32,HG32⟩:=Kd.R_form HO_5.out (by omega)
          (first|cases eo32|(injection eo32 with ea_ en_ ec_;(first|subst ea_|(injection ea_ with ea_;subst ea_));subst ec_;clear en_))
          have GB32:=a_ gb32
          have GG32:=a_ HG32
          clear gb32 gl32 HG32
          obtain ⟨hx32_0,hf32_0⟩:=Kd.R_celln 0 HO_5.out ((x0_2.length:Int):Int) p32 q32
          (try simp only [Int.toNat_natCast] at hx32_0 hf32_0)
          replace p32:=eq_true p32
          replace q32:=eq_true q32
          have HP33:=Kd.R_putg HO_5.out ((x0_2.length:Int):Int) x6_2
          go_wp2_with (first|((with_reducible refine gate_store (t:=68) (p:=51) rfl ?_);refine store_event (t:=68) (p:=51) (v:=?vo_w34) (w1:=(wr.setCell ⟨go32,((x0_2.length:Int):Int).toNat,none⟩ (.int .u32 x6_2))) ?hg ?ho ?hn ?hr ?_;(case ho=>rfl);(case hg=>rfl);(case hn=>rfl);(case hr=>first|(go_simp;done)|(go_simp;rfl));intro w34 hw;have hg:wr.grownBy w34 (some go32):=(by rw [hw];exact HP33.2);have hp_:Kd.R (Kd.int .u32) 68 w34 w.heap.size (fun k_=>(w.heap.size≤k_)) (.slice (some ⟨go32,0,none⟩) x5_2.length co32) y257:=(by rw [hw,Ny257.out];exact HP33.1);clear HP33;replace HO_0:=a_ (Kd.V_afterv (v:=(.slice (some ⟨go32,0,none⟩) x5_2.length co32)) (v1:=(.slice (some ⟨go32,0,none⟩) x5_2.length co32)) (ok:=(fun k_=>((P0_ k_∨P1_ k_)∨w.heap.size≤k_))) (vv_ HO_0) hg (.inl rfl));replace HO_1:=a_ (Kd.V_afterv (v:=(.slice (some ⟨go32,0,none⟩) x5_2.length co32)) (v1:=(.slice (some ⟨go32,0,none⟩) x5_2.length co32)) (ok:=(fun k_=>((P0_ k_∨P1_ k_)∨w.heap.size≤k_))) (vv_ HO_1) hg (.inl rfl));replace HO_5:=a_ hp_;replace HB:=a_ ((by rw [hw];exact below_set (HB.out) GB32.out:Below w.heap.size w w34));clear hg hw hp_))
          go_ret
          exact ⟨_,by first|exact rf_|(simp only [← hji6];exact rf_),rr_ HO_5,bl_ HB⟩
         ·rw [if_neg c31] at H
          exact ab_ H
        ·rw [if_neg c30] at H
         exact ab_ H
    ·rw [if_neg c8] at H
     exact ab_ H
   ·rw [if_neg c7] at H
    exact ab_ H
def wide_Cmp.l0:Nat→List Int→List Int→Int→Option (Int)
 | 0,_,_,_=>none
 | k+1,x0,x1,x5=>if x5≥0 then (if 0≤x5 then (if x5<(x0.length:Int) then (if x5<(x1.length:Int) then (if (rd x0 x5)<(rd x1 x5) then (some (-1)) else (if (rd x0 x5)>(rd x1 x5) then (some 1) else (wide_Cmp.l0 k x0 x1 (wrap64 (x5 - 1))))) else (none)) else (none)) else (none)) else (some 0)
def wide_Cmp.f (k:Nat) (l0:List Int) (l1:List Int):Option (Int):=(wide_cut.f k l0).bind fun t258=>((wide_cut.f k l1).bind fun t261=>(if (t258.length:Int)<(t261.length:Int) then (some (-1)) else (if (t258.length:Int)>(t261.length:Int) then (some 1) else (wide_Cmp.l0 k t258 t261 (wrap64 ((t258.length:Int) - 1))))))
theorem wide_Cmp.calls (k:Nat) (A0:Option Addr) (c0:Nat) (l0:List Int) (A1:Option Addr) (c1:Nat) (l1:List Int) (r:Int) (w:World) (hr0:Kd.C (Kd.int .u32) w A0 l0.length l0) (hc0:l0.length≤c0) (hr1:Kd.C (Kd.int .u32) w A1 l1.length l1) (hc1:l1.length≤c1) (h:wide_Cmp.f k l0 l1=some r) :
  Calls Tryd.prog 61 #[.slice A0 l0.length c0,.slice A1 l1.length c1] w fun e w'=>e = .returned (.int .i64 r)∧Below w.heap.size w w':=by
 have HR0:=a_ hr0
 have HC0:=a_ hc0
 clear hr0 hc0
 have HR1:=a_ hr1
 have HC1:=a_ hc1
 clear hr1 hc1
 have HB:=a_ (Below.refl w.heap.size w)
 have H:=h
 unfold wide_Cmp.f at H
 clear h
 obtain ⟨t258,A3,H⟩:=ob_ H
 try dsimp only at H
 obtain ⟨t261,A4,H⟩:=ob_ H
 try dsimp only at H
 by_cases c5:(t258.length:Int)<(t261.length:Int)
 ·rw [if_pos c5] at H
  have c5b0:decide ((t258.length:Int)<(t261.length:Int))=true:=decide_eq_true c5
  have c5b1:decide (t258.length<t261.length)=true:=decide_eq_true (Int.ofNat_lt.mp c5)
  have c5b2:(t258.length<t261.length)=True:=eq_true (Int.ofNat_lt.mp c5)
  clear c5
  obtain rfl:=Option.some.inj H
  go_enter Tryd.func61,Tryd.ntmps61
  go_wp2_with (first|(go_at_call 78;(try simp only [i64_w,i32_w]);(with_reducible refine (wide_cut.calls k (fun k_=>k_<w.heap.size) _ _ l0 t258 _ ?side1 A3.out).mono ?_);(case side1=>exact Kd.V_mk HC0.out (Kd.F_below (Kd.C_F (Kd.heap_int .u32) HR0.out) (bl_ HB)));rintro e w6 ⟨v259,rfl,ho0,hb⟩;have HO260:=a_ (Kd.V_lower (Kd.V_mono (ok':=fun k_=>True) ho0 (fun k_ hk_=>trivial)) (below_size (bl_ HB)));replace HB:=bs_ HB hb;(try clear hb);(try clear ho0))|(go_at_call 78;(try simp only [i64_w,i32_w]);(with_reducible refine (wide_cut.calls k (fun k_=>k_<w.heap.size) _ _ l1 t261 _ ?side1 A4.out).mono ?_);(case side1=>exact Kd.V_mk HC1.out (Kd.F_below (Kd.C_F (Kd.heap_int .u32) HR1.out) (bl_ HB)));rintro e w7 ⟨v262,rfl,ho0,hb⟩;replace HO260:=a_ (Kd.V_below (vv_ HO260) hb);have HO263:=a_ (Kd.V_lower (Kd.V_mono (ok':=fun k_=>True) ho0 (fun k_ hk_=>trivial)) (below_size (bl_ HB)));replace HB:=bs_ HB hb;(try clear hb);(try clear ho0);obtain ⟨Ao8,co8,eo8⟩:=Kd.V_slice HO260.out;subst eo8;obtain ⟨Ao9,co9,eo9⟩:=Kd.V_slice HO263.out;subst eo9))
  repeat (go_quiet (first|(go_at_call 78;(try simp only [i64_w,i32_w]);(with_reducible refine (wide_cut.calls k (fun k_=>k_<w.heap.size) _ _ l0 t258 _ ?side1 A3.out).mono ?_);(case side1=>exact Kd.V_mk HC0.out (Kd.F_below (Kd.C_F (Kd.heap_int .u32) HR0.out) (bl_ HB)));rintro e w6 ⟨v259,rfl,ho0,hb⟩;have HO260:=a_ (Kd.V_lower (Kd.V_mono (ok':=fun k_=>True) ho0 (fun k_ hk_=>trivial)) (below_size (bl_ HB)));replace HB:=bs_ HB hb;(try clear hb);(try clear ho0))|(go_at_call 78;(try simp only [i64_w,i32_w]);(with_reducible refine (wide_cut.calls k (fun k_=>k_<w.heap.size) _ _ l1 t261 _ ?side1 A4.out).mono ?_);(case side1=>exact Kd.V_mk HC1.out (Kd.F_below (Kd.C_F (Kd.heap_int .u32) HR1.out) (bl_ HB)));rintro e w7 ⟨v262,rfl,ho0,hb⟩;replace HO260:=a_ (Kd.V_below (vv_ HO260) hb);have HO263:=a_ (Kd.V_lower (Kd.V_mono (ok':=fun k_=>True) ho0 (fun k_ hk_=>trivial)) (below_size (bl_ HB)));replace HB:=bs_ HB hb;(try clear hb);(try clear ho0);obtain ⟨Ao8,co8,eo8⟩:=Kd.V_slice HO260.out;subst eo8;obtain ⟨Ao9,co9,eo9⟩:=Kd.V_slice HO263.out;subst eo9));try go_wp2_with (first|(go_at_call 78;(try simp only [i64_w,i32_w]);(with_reducible refine (wide_cut.calls k (fun k_=>k_<w.heap.size) _ _ l0 t258 _ ?side1 A3.out).mono ?_);(case side1=>exact Kd.V_mk HC0.out (Kd.F_below (Kd.C_F (Kd.heap_int .u32) HR0.out) (bl_ HB)));rintro e w6 ⟨v259,rfl,ho0,hb⟩;have HO260:=a_ (Kd.V_lower (Kd.V_mono (ok':=fun k_=>True) ho0 (fun k_ hk_=>trivial)) (below_size (bl_ HB)));replace HB:=bs_ HB hb;(try clear hb);(try clear ho0))|(go_at_call 78;(try simp only [i64_w,i32_w]);(with_reducible refine (wide_cut.calls k (fun k_=>k_<w.heap.size) _ _ l1 t261 _ ?side1 A4.out).mono ?_);(case side1=>exact Kd.V_mk HC1.out (Kd.F_below (Kd.C_F (Kd.heap_int .u32) HR1.out) (bl_ HB)));rintro e w7 ⟨v262,rfl,ho0,hb⟩;replace HO260:=a_ (Kd.V_below (vv_ HO260) hb);have HO263:=a_ (Kd.V_lower (Kd.V_mono (ok':=fun k_=>True) ho0 (fun k_ hk_=>trivial)) (below_size (bl_ HB)));replace HB:=bs_ HB hb;(try clear hb);(try clear ho0);obtain ⟨Ao8,co8,eo8⟩:=Kd.V_slice HO260.out;subst eo8;obtain ⟨Ao9,co9,eo9⟩:=Kd.V_slice HO263.out;subst eo9)))
  go_ret
  exact ⟨rf_,bl_ HB⟩
 ·rw [if_neg c5] at H
  have c5b0:decide ((t258.length:Int)<(t261.length:Int))=false:=decide_eq_false c5
  have c5b1:decide (t258.length<t261.length)=false:=decide_eq_false (fun h=>c5 (Int.ofNat_lt.mpr h))
  have c5b2:(t258.length<t261.length)=False:=eq_false (fun h=>c5 (Int.ofNat_lt.mpr h))
  clear c5
  by_cases c10:(t258.length:Int)>(t261.length:Int)
  ·rw [if_pos c10] at H
   have c10b0:decide ((t261.length:Int)<(t258.length:Int))=true:=decide_eq_true c10
   have c10b1:decide (t261.length<t258.length)=true:=decide_eq_true (Int.ofNat_lt.mp c10)
   have c10b2:(t261.length<t258.length)=True:=eq_true (Int.ofNat_lt.mp c10)
   clear c10
   obtain rfl:=Option.some.inj H
   go_enter Tryd.func61,Tryd.ntmps61
   go_wp2_with (first|(go_at_call 78;(try simp only [i64_w,i32_w]);(with_reducible refine (wide_cut.calls k (fun k_=>k_<w.heap.size) _ _ l0 t258 _ ?side1 A3.out).mono ?_);(case side1=>exact Kd.V_mk HC0.out (Kd.F_below (Kd.C_F (Kd.heap_int .u32) HR0.out) (bl_ HB)));rintro e w11 ⟨v259,rfl,ho0,hb⟩;have HO260:=a_ (Kd.V_lower (Kd.V_mono (ok':=fun k_=>True) ho0 (fun k_ hk_=>trivial)) (below_size (bl_ HB)));replace HB:=bs_ HB hb;(try clear hb);(try clear ho0))|(go_at_call 78;(try simp only [i64_w,i32_w]);(with_reducible refine (wide_cut.calls k (fun k_=>k_<w.heap.size) _ _ l1 t261 _ ?side1 A4.out).mono ?_);(case side1=>exact Kd.V_mk HC1.out (Kd.F_below (Kd.C_F (Kd.heap_int .u32) HR1.out) (bl_ HB)));rintro e w12 ⟨v262,rfl,ho0,hb⟩;replace HO260:=a_ (Kd.V_below (vv_ HO260) hb);have HO263:=a_ (Kd.V_lower (Kd.V_mono (ok':=fun k_=>True) ho0 (fun k_ hk_=>trivial)) (below_size (bl_ HB)));replace HB:=bs_ HB hb;(try clear hb);(try clear ho0);obtain ⟨Ao13,co13,eo13⟩:=Kd.V_slice HO260.out;subst eo13;obtain ⟨Ao14,co14,eo14⟩:=Kd.V_slice HO263.out;subst eo14))
   repeat (go_quiet (first|(go_at_call 78;(try simp only [i64_w,i32_w]);(with_reducible refine (wide_cut.calls k (fun k_=>k_<w.heap.size) _ _ l0 t258 _ ?side1 A3.out).mono ?_);(case side1=>exact Kd.V_mk HC0.out (Kd.F_below (Kd.C_F (Kd.heap_int .u32) HR0.out) (bl_ HB)));rintro e w11 ⟨v259,rfl,ho0,hb⟩;have HO260:=a_ (Kd.V_lower (Kd.V_mono (ok':=fun k_=>True) ho0 (fun k_ hk_=>trivial)) (below_size (bl_ HB)));replace HB:=bs_ HB hb;(try clear hb);(try clear ho0))|(go_at_call 78;(try simp only [i64_w,i32_w]);(with_reducible refine (wide_cut.calls k (fun k_=>k_<w.heap.size) _ _ l1 t261 _ ?side1 A4.out).mono ?_);(case side1=>exact Kd.V_mk HC1.out (Kd.F_below (Kd.C_F (Kd.heap_int .u32) HR1.out) (bl_ HB)));rintro e w12 ⟨v262,rfl,ho0,hb⟩;replace HO260:=a_ (Kd.V_below (vv_ HO260) hb);have HO263:=a_ (Kd.V_lower (Kd.V_mono (ok':=fun k_=>True) ho0 (fun k_ hk_=>trivial)) (below_size (bl_ HB)));replace HB:=bs_ HB hb;(try clear hb);(try clear ho0);obtain ⟨Ao13,co13,eo13⟩:=Kd.V_slice HO260.out;subst eo13;obtain ⟨Ao14,co14,eo14⟩:=Kd.V_slice HO263.out;subst eo14));try go_wp2_with (first|(go_at_call 78;(try simp only [i64_w,i32_w]);(with_reducible refine (wide_cut.calls k (fun k_=>k_<w.heap.size) _ _ l0 t258 _ ?side1 A3.out).mono ?_);(case side1=>exact Kd.V_mk HC0.out (Kd.F_below (Kd.C_F (Kd.heap_int .u32) HR0.out) (bl_ HB)));rintro e w11 ⟨v259,rfl,ho0,hb⟩;have HO260:=a_ (Kd.V_lower (Kd.V_mono (ok':=fun k_=>True) ho0 (fun k_ hk_=>trivial)) (below_size (bl_ HB)));replace HB:=bs_ HB hb;(try clear hb);(try clear ho0))|(go_at_call 78;(try simp only [i64_w,i32_w]);(with_reducible refine (wide_cut.calls k (fun k_=>k_<w.heap.size) _ _ l1 t261 _ ?side1 A4.out).mono ?_);(case side1=>exact Kd.V_mk HC1.out (Kd.F_below (Kd.C_F (Kd.heap_int .u32) HR1.out) (bl_ HB)));rintro e w12 ⟨v262,rfl,ho0,hb⟩;replace HO260:=a_ (Kd.V_below (vv_ HO260) hb);have HO263:=a_ (Kd.V_lower (Kd.V_mono (ok':=fun k_=>True) ho0 (fun k_ hk_=>trivial)) (below_size (bl_ HB)));replace HB:=bs_ HB hb;(try clear hb);(try clear ho0);obtain ⟨Ao13,co13,eo13⟩:=Kd.V_slice HO260.out;subst eo13;obtain ⟨Ao14,co14,eo14⟩:=Kd.V_slice HO263.out;subst eo14)))
   go_ret
   exact ⟨rf_,bl_ HB⟩
  ·rw [if_neg c10] at H
   have c10b0:decide ((t261.length:Int)<(t258.length:Int))=false:=decide_eq_false c10
   have c10b1:decide (t261.length<t258.length)=false:=decide_eq_false (fun h=>c10 (Int.ofNat_lt.mpr h))
   have c10b2:(t261.length<t258.length)=False:=eq_false (fun h=>c10 (Int.ofNat_lt.mpr h))
   clear c10
   have H':=a_ H
   clear H
   go_enter Tryd.func61,Tryd.ntmps61
   go_wp2_with (first|(go_at_call 78;(try simp only [i64_w,i32_w]);(with_reducible refine (wide_cut.calls k (fun k_=>k_<w.heap.size) _ _ l0 t258 _ ?side1 A3.out).mono ?_);(case side1=>exact Kd.V_mk HC0.out (Kd.F_below (Kd.C_F (Kd.heap_int .u32) HR0.out) (bl_ HB)));rintro e w15 ⟨v259,rfl,ho0,hb⟩;have HO260:=a_ (Kd.V_lower (Kd.V_mono (ok':=fun k_=>True) ho0 (fun k_ hk_=>trivial)) (below_size (bl_ HB)));replace HB:=bs_ HB hb;(try clear hb);(try clear ho0))|(go_at_call 78;(try simp only [i64_w,i32_w]);(with_reducible refine (wide_cut.calls k (fun k_=>k_<w.heap.size) _ _ l1 t261 _ ?side1 A4.out).mono ?_);(case side1=>exact Kd.V_mk HC1.out (Kd.F_below (Kd.C_F (Kd.heap_int .u32) HR1.out) (bl_ HB)));rintro e w16 ⟨v262,rfl,ho0,hb⟩;replace HO260:=a_ (Kd.V_below (vv_ HO260) hb);have HO263:=a_ (Kd.V_lower (Kd.V_mono (ok':=fun k_=>True) ho0 (fun k_ hk_=>trivial)) (below_size (bl_ HB)));replace HB:=bs_ HB hb;(try clear hb);(try clear ho0);obtain ⟨Ao17,co17,eo17⟩:=Kd.V_slice HO260.out;subst eo17;obtain ⟨Ao18,co18,eo18⟩:=Kd.V_slice HO263.out;subst eo18))
   repeat (go_quiet (first|(go_at_call 78;(try simp only [i64_w,i32_w]);(with_reducible refine (wide_cut.calls k (fun k_=>k_<w.heap.size) _ _ l0 t258 _ ?side1 A3.out).mono ?_);(case side1=>exact Kd.V_mk HC0.out (Kd.F_below (Kd.C_F (Kd.heap_int .u32) HR0.out) (bl_ HB)));rintro e w15 ⟨v259,rfl,ho0,hb⟩;have HO260:=a_ (Kd.V_lower (Kd.V_mono (ok':=fun k_=>True) ho0 (fun k_ hk_=>trivial)) (below_size (bl_ HB)));replace HB:=bs_ HB hb;(try clear hb);(try clear ho0))|(go_at_call 78;(try simp only [i64_w,i32_w]);(with_reducible refine (wide_cut.calls k (fun k_=>k_<w.heap.size) _ _ l1 t261 _ ?side1 A4.out).mono ?_);(case side1=>exact Kd.V_mk HC1.out (Kd.F_below (Kd.C_F (Kd.heap_int .u32) HR1.out) (bl_ HB)));rintro e w16 ⟨v262,rfl,ho0,hb⟩;replace HO260:=a_ (Kd.V_below (vv_ HO260) hb);have HO263:=a_ (Kd.V_lower (Kd.V_mono (ok':=fun k_=>True) ho0 (fun k_ hk_=>trivial)) (below_size (bl_ HB)));replace HB:=bs_ HB hb;(try clear hb);(try clear ho0);obtain ⟨Ao17,co17,eo17⟩:=Kd.V_slice HO260.out;subst eo17;obtain ⟨Ao18,co18,eo18⟩:=Kd.V_slice HO263.out;subst eo18));try go_wp2_with (first|(go_at_call 78;(try simp only [i64_w,i32_w]);(with_reducible refine (wide_cut.calls k (fun k_=>k_<w.heap.size) _ _ l0 t258 _ ?side1 A3.out).mono ?_);(case side1=>exact Kd.V_mk HC0.out (Kd.F_below (Kd.C_F (Kd.heap_int .u32) HR0.out) (bl_ HB)));rintro e w15 ⟨v259,rfl,ho0,hb⟩;have HO260:=a_ (Kd.V_lower (Kd.V_mono (ok':=fun k_=>True) ho0 (fun k_ hk_=>trivial)) (below_size (bl_ HB)));replace HB:=bs_ HB hb;(try clear hb);(try clear ho0))|(go_at_call 78;(try simp only [i64_w,i32_w]);(with_reducible refine (wide_cut.calls k (fun k_=>k_<w.heap.size) _ _ l1 t261 _ ?side1 A4.out).mono ?_);(case side1=>exact Kd.V_mk HC1.out (Kd.F_below (Kd.C_F (Kd.heap_int .u32) HR1.out) (bl_ HB)));rintro e w16 ⟨v262,rfl,ho0,hb⟩;replace HO260:=a_ (Kd.V_below (vv_ HO260) hb);have HO263:=a_ (Kd.V_lower (Kd.V_mono (ok':=fun k_=>True) ho0 (fun k_ hk_=>trivial)) (below_size (bl_ HB)));replace HB:=bs_ HB hb;(try clear hb);(try clear ho0);obtain ⟨Ao17,co17,eo17⟩:=Kd.V_slice HO260.out;subst eo17;obtain ⟨Ao18,co18,eo18⟩:=Kd.V_slice HO263.out;subst eo18)))
   go_loopg [5] k (fun kq v5 w'=>∃ (x5_1:Int),v5 = .int .i64 x5_1∧Aside0 (wide_Cmp.l0 kq t258 t261 x5_1=some r)∧Aside0 (kq≤k)∧Aside0 (Kd.V (Kd.int .u32) 68 w' w.heap.size (fun _=>True) (.slice Ao17 t258.length co17) t258)∧Aside0 (Kd.V (Kd.int .u32) 68 w' w.heap.size (fun _=>True) (.slice Ao18 t261.length co18) t261)∧Aside0 (Below w.heap.size w w'))
   case atStart=>exact ⟨(wrap64 ((t258.length:Int) - 1)),rb_,H',⟨Nat.le_refl _⟩,⟨vv_ HO260⟩,⟨vv_ HO263⟩,⟨bl_ HB⟩⟩
   case round =>
    clear H'
    try clear c1
    try clear p2
    try clear c5
    try clear c5b0
    try clear c5b1
    try clear c5b2
    try clear c6
    try clear p6
    try clear c10
    try clear c10b0
    try clear c10b1
    try clear c10b2
    obtain ⟨x5_1,rfl,HA,HK1,HO_0,HO_1,HB⟩:=hrel
    cases gk with
    | zero=>exact absurd HA.out (by simp [wide_Cmp.l0])
    | succ k1 =>
     have H:=HA.out
     clear HA
     simp only [wide_Cmp.l0] at H
     by_cases c19:x5_1≥0
     ·rw [if_pos c19] at H
      have c19b0:decide (0≤x5_1)=true:=decide_eq_true c19
      clear c19
      by_cases c20:0≤x5_1
      ·rw [if_pos c20] at H
       have c20b0:decide (0≤x5_1)=true:=decide_eq_true c20
       clear c20
       by_cases c21:x5_1<(t258.length:Int)
       ·rw [if_pos c21] at H
        have c21b0:decide (x5_1<(t258.length:Int))=true:=decide_eq_true c21
        clear c21
        by_cases c22:x5_1<(t261.length:Int)
        ·rw [if_pos c22] at H
         have c22b0:decide (x5_1<(t261.length:Int))=true:=decide_eq_true c22
         clear c22
         by_cases c23:(rd t258 x5_1)<(rd t261 x5_1)
         ·rw [if_pos c23] at H
          have c23b0:decide ((rd t258 x5_1)<(rd t261 x5_1))=true:=decide_eq_true c23
          clear c23
          obtain rfl:=Option.some.inj H
          have p264:0≤(x5_1:Int):=od_
          have q264:x5_1<(t258.length:Int):=od_
          obtain ⟨ad264,e264,hx264_0⟩:=Kd.at_int (Kd.V_reads' HO_0.out).2.2 x5_1 p264 q264
          cases e264
          replace p264:=eq_true p264
          replace q264:=eq_true q264
          have p265:0≤(x5_1:Int):=od_
          have q265:x5_1<(t261.length:Int):=od_
          obtain ⟨ad265,e265,hx265_0⟩:=Kd.at_int (Kd.V_reads' HO_1.out).2.2 x5_1 p265 q265
          cases e265
          replace p265:=eq_true p265
          replace q265:=eq_true q265
          go_wp2
          repeat (go_quiet (fail);try go_wp2)
          go_ret
          exact ⟨rf_,bl_ HB⟩
         ·rw [if_neg c23] at H
          have c23b0:decide ((rd t258 x5_1)<(rd t261 x5_1))=false:=decide_eq_false c23
          clear c23
          by_cases c24:(rd t258 x5_1)>(rd t261 x5_1)
          ·rw [if_pos c24] at H
           have c24b0:decide ((rd t261 x5_1)<(rd t258 x5_1))=true:=decide_eq_true c24
           clear c24
           obtain rfl:=Option.some.inj H
           have p264:0≤(x5_1:Int):=od_
           have q264:x5_1<(t258.length:Int):=od_
           obtain ⟨ad264,e264,hx264_0⟩:=Kd.at_int (Kd.V_reads' HO_0.out).2.2 x5_1 p264 q264
           cases e264
           replace p264:=eq_true p264
           replace q264:=eq_true q264
           have p265:0≤(x5_1:Int):=od_
           have q265:x5_1<(t261.length:Int):=od_
           obtain ⟨ad265,e265,hx265_0⟩:=Kd.at_int (Kd.V_reads' HO_1.out).2.2 x5_1 p265 q265
           cases e265
           replace p265:=eq_true p265
           replace q265:=eq_true q265
           have p266:0≤(x5_1:Int):=od_
           have q266:x5_1<(t258.length:Int):=od_
           obtain ⟨ad266,e266,hx266_0⟩:=Kd.at_int (Kd.V_reads' HO_0.out).2.2 x5_1 p266 q266
           obtain rfl:ad264=ad266:=(by injection e266)
           replace p266:=eq_true p266
           replace q266:=eq_true q266
           have p267:0≤(x5_1:Int):=od_
           have q267:x5_1<(t261.length:Int):=od_
           obtain ⟨ad267,e267,hx267_0⟩:=Kd.at_int (Kd.V_reads' HO_1.out).2.2 x5_1 p267 q267
           obtain rfl:ad265=ad267:=(by injection e267)
           replace p267:=eq_true p267
           replace q267:=eq_true q267
           go_wp2
           repeat (go_quiet (fail);try go_wp2)
           go_ret
           exact ⟨rf_,bl_ HB⟩
          ·rw [if_neg c24] at H
           have c24b0:decide ((rd t261 x5_1)<(rd t258 x5_1))=false:=decide_eq_false c24
           clear c24
           have H':=a_ H
           clear H
           have p264:0≤(x5_1:Int):=od_
           have q264:x5_1<(t258.length:Int):=od_
           obtain ⟨ad264,e264,hx264_0⟩:=Kd.at_int (Kd.V_reads' HO_0.out).2.2 x5_1 p264 q264
           cases e264
           replace p264:=eq_true p264
           replace q264:=eq_true q264
           have p265:0≤(x5_1:Int):=od_
           have q265:x5_1<(t261.length:Int):=od_
           obtain ⟨ad265,e265,hx265_0⟩:=Kd.at_int (Kd.V_reads' HO_1.out).2.2 x5_1 p265 q265
           cases e265
           replace p265:=eq_true p265
           replace q265:=eq_true q265
           have p266:0≤(x5_1:Int):=od_
           have q266:x5_1<(t258.length:Int):=od_
           obtain ⟨ad266,e266,hx266_0⟩:=Kd.at_int (Kd.V_reads' HO_0.out).2.2 x5_1 p266 q266
           obtain rfl:ad264=ad266:=(by injection e266)
           replace p266:=eq_true p266
           replace q266:=eq_true q266
           have p267:0≤(x5_1:Int):=od_
           have q267:x5_1<(t261.length:Int):=od_
           obtain ⟨ad267,e267,hx267_0⟩:=Kd.at_int (Kd.V_reads' HO_1.out).2.2 x5_1 p267 q267
           obtain rfl:ad265=ad267:=(by injection e267)
           replace p267:=eq_true p267
           replace q267:=eq_true q267
           go_wp2
           repeat (go_quiet (fail);try go_wp2)
           go_roundg k1
           case measure=>have:=HK1.out;omega
           case rel=>exact ⟨(wrap64 (x5_1 - 1)),rb_,H',⟨by have:=HK1.out;omega⟩,⟨vv_ HO_0⟩,⟨vv_ HO_1⟩,⟨bl_ HB⟩⟩
        ·rw [if_neg c22] at H
         exact ab_ H
       ·rw [if_neg c21] at H
        exact ab_ H
      ·rw [if_neg c20] at H
       exact ab_ H
     ·rw [if_neg c19] at H
      have c19b0:decide (0≤x5_1)=false:=decide_eq_false c19
      clear c19
      obtain rfl:=Option.some.inj H
      go_wp2
      repeat (go_quiet (fail);try go_wp2)
      go_ret
      exact ⟨rf_,bl_ HB⟩

def wide_both.f (k:Nat) (l0:List Int) (l1:List Int):Option (List Int × List Int × Int):=(wide_cut.f k l0).bind fun t268=>((wide_cut.f k l1).bind fun t271=>(if (mx (t268.length:Int) (t271.length:Int))>8192 then (some (([]:List Int),([]:List Int),2)) else (some (t268,t271,0))))
theorem wide_both.calls (k:Nat) (P0_:Nat→Prop) (A0:Option Addr) (c0:Nat) (l0:List Int) (P1_:Nat→Prop) (A1:Option Addr) (c1:Nat) (l1:List Int) (r1:List Int) (r2:List Int) (r3:Int) (w:World) (hs0:Kd.V (Kd.int .u32) 68 w w.heap.size (fun k_=>P0_ k_) (.slice A0 l0.length c0) l0) (hs1:Kd.V (Kd.int .u32) 68 w w.heap.size (fun k_=>P1_ k_) (.slice A1 l1.length c1) l1) (h:wide_both.f k l0 l1=some (r1,r2,r3)) :
  Calls Tryd.prog 83 #[.slice A0 l0.length c0,.slice A1 l1.length c1] w fun e w'=>∃ v0_ v1_:Value,e = .returned (.tuple #[v0_,v1_,.int .i64 r3])∧Kd.V (Kd.int .u32) 68 w' w.heap.size (fun k_=>((P0_ k_∨P1_ k_)∨w.heap.size≤k_)) v0_ r1∧Kd.V (Kd.int .u32) 68 w' w.heap.size (fun k_=>((P0_ k_∨P1_ k_)∨w.heap.size≤k_)) v1_ r2∧Below w.heap.size w w':=by
 have HO0:=a_ (show Kd.V (Kd.int .u32) 68 w w.heap.size (fun k_=>((P0_ k_∨P1_ k_)∨w.heap.size≤k_)) (.slice A0 l0.length c0) l0 from Kd.V_mono hs0 (fun k_ hk=>.inl (.inl hk)))
 have HO1:=a_ (show Kd.V (Kd.int .u32) 68 w w.heap.size (fun k_=>((P0_ k_∨P1_ k_)∨w.heap.size≤k_)) (.slice A1 l1.length c1) l1 from Kd.V_mono hs1 (fun k_ hk=>.inl (.inr hk)))
 have HB:=a_ (Below.refl w.heap.size w)
 have H:=h
 unfold wide_both.f at H
 clear h
 obtain ⟨t268,A3,H⟩:=ob_ H
 try dsimp only at H
 obtain ⟨t271,A4,H⟩:=ob_ H
 try dsimp only at H
 obtain ⟨ji5,hji5⟩:∃ j_:Int,(mx (t268.length:Int) (t271.length:Int))=j_:=⟨_,rfl⟩
 replace H:(if (ji5)>8192 then (some (([]:List Int),([]:List Int),2)) else (some (t268,t271,0)))=some (r1,r2,r3):=by first|(rw [hji5] at H;exact H)|(simp only [hji5] at H ⊢;exact H)
 (try rw [hji5] at A3)
 (try rw [hji5] at A4)
 (try (have hji5l:0≤ji5:=by (rw [← hji5];unfold mx;(repeat' split) <;> omega)))
 (try (have hji5m:0≤ji5:=by omega))
 have hji5_n:(if t268.length<t271.length then (t271.length:Int) else (t268.length:Int))=ji5:=by (rw [← hji5];unfold mx;(repeat' split) <;> omega)
 have hji5_:(if (t268.length:Int)<(t271.length:Int) then (t271.length:Int) else (t268.length:Int))=ji5:=hji5
 by_cases c6:(ji5)>8192
 ·rw [if_pos c6] at H
  have c6b0:decide (8192<(ji5))=true:=decide_eq_true c6
  clear c6
  simp only [Option.some.injEq,Prod.mk.injEq] at H
  obtain ⟨rfl,rfl,rfl⟩:=H
  go_enter Tryd.func83,Tryd.ntmps83
  go_wp2_with (first|(refine goesM (some 8) Tryd.func78 #[.slice A0 l0.length c0] ?_;(with_reducible refine (wide_cut.calls k (fun k_=>((P0_ k_∨P1_ k_)∨w.heap.size≤k_)) _ _ l0 t268 _ ?side1 A3.out).mono ?_);(case side1=>exact HO0.out);rintro e w7 ⟨v269,rfl,ho0,hb⟩;refine ⟨_,rfl,?_⟩;replace HO0:=a_ (Kd.V_below (vv_ HO0) hb);replace HO1:=a_ (Kd.V_below (vv_ HO1) hb);have HO270:=a_ (Kd.V_lower (Kd.V_mono (ok':=fun k_=>((P0_ k_∨P1_ k_)∨w.heap.size≤k_)) ho0 (fun k_ hk_=>Or.elim hk_ (fun hs_=>hs_) (fun hn_=>(.inr (Nat.le_trans (below_size (bl_ HB)) hn_))))) (below_size (bl_ HB)));replace HB:=bs_ HB hb;(try clear hb);(try clear ho0))|(refine goesM (some 10) Tryd.func78 #[.slice A1 l1.length c1] ?_;(with_reducible refine (wide_cut.calls k (fun k_=>((P0_ k_∨P1_ k_)∨w.heap.size≤k_)) _ _ l1 t271 _ ?side1 A4.out).mono ?_);(case side1=>exact HO1.out);rintro e w8 ⟨v272,rfl,ho0,hb⟩;refine ⟨_,rfl,?_⟩;replace HO0:=a_ (Kd.V_below (vv_ HO0) hb);replace HO1:=a_ (Kd.V_below (vv_ HO1) hb);replace HO270:=a_ (Kd.V_below (vv_ HO270) hb);have HO273:=a_ (Kd.V_lower (Kd.V_mono (ok':=fun k_=>((P0_ k_∨P1_ k_)∨w.heap.size≤k_)) ho0 (fun k_ hk_=>Or.elim hk_ (fun hs_=>hs_) (fun hn_=>(.inr (Nat.le_trans (below_size (bl_ HB)) hn_))))) (below_size (bl_ HB)));replace HB:=bs_ HB hb;(try clear hb);(try clear ho0);obtain ⟨Ao9,co9,eo9⟩:=Kd.V_slice HO270.out;subst eo9;obtain ⟨Ao10,co10,eo10⟩:=Kd.V_slice HO273.out;subst eo10))
  go_ret3
  exact ⟨_,_,by first|exact rf_|(simp only [← hji5];exact rf_),(by exact Kd.V_nil _ _ _ _ _),(by exact Kd.V_nil _ _ _ _ _),bl_ HB⟩
 ·rw [if_neg c6] at H
  have c6b0:decide (8192<(ji5))=false:=decide_eq_false c6
  clear c6
  simp only [Option.some.injEq,Prod.mk.injEq] at H
  obtain ⟨rfl,rfl,rfl⟩:=H
  go_enter Tryd.func83,Tryd.ntmps83
  go_wp2_with (first|(refine goesM (some 8) Tryd.func78 #[.slice A0 l0.length c0] ?_;(with_reducible refine (wide_cut.calls k (fun k_=>((P0_ k_∨P1_ k_)∨w.heap.size≤k_)) _ _ l0 t268 _ ?side1 A3.out).mono ?_);(case side1=>exact HO0.out);rintro e w11 ⟨v269,rfl,ho0,hb⟩;refine ⟨_,rfl,?_⟩;replace HO0:=a_ (Kd.V_below (vv_ HO0) hb);replace HO1:=a_ (Kd.V_below (vv_ HO1) hb);have HO270:=a_ (Kd.V_lower (Kd.V_mono (ok':=fun k_=>((P0_ k_∨P1_ k_)∨w.heap.size≤k_)) ho0 (fun k_ hk_=>Or.elim hk_ (fun hs_=>hs_) (fun hn_=>(.inr (Nat.le_trans (below_size (bl_ HB)) hn_))))) (below_size (bl_ HB)));replace HB:=bs_ HB hb;(try clear hb);(try clear ho0))|(refine goesM (some 10) Tryd.func78 #[.slice A1 l1.length c1] ?_;(with_reducible refine (wide_cut.calls k (fun k_=>((P0_ k_∨P1_ k_)∨w.heap.size≤k_)) _ _ l1 t271 _ ?side1 A4.out).mono ?_);(case side1=>exact HO1.out);rintro e w12 ⟨v272,rfl,ho0,hb⟩;refine ⟨_,rfl,?_⟩;replace HO0:=a_ (Kd.V_below (vv_ HO0) hb);replace HO1:=a_ (Kd.V_below (vv_ HO1) hb);replace HO270:=a_ (Kd.V_below (vv_ HO270) hb);have HO273:=a_ (Kd.V_lower (Kd.V_mono (ok':=fun k_=>((P0_ k_∨P1_ k_)∨w.heap.size≤k_)) ho0 (fun k_ hk_=>Or.elim hk_ (fun hs_=>hs_) (fun hn_=>(.inr (Nat.le_trans (below_size (bl_ HB)) hn_))))) (below_size (bl_ HB)));replace HB:=bs_ HB hb;(try clear hb);(try clear ho0);obtain ⟨Ao13,co13,eo13⟩:=Kd.V_slice HO270.out;subst eo13;obtain ⟨Ao14,co14,eo14⟩:=Kd.V_slice HO273.out;subst eo14))
  go_ret3
  exact ⟨_,_,by first|exact rf_|(simp only [← hji5];exact rf_),vv_ HO270,vv_ HO273,bl_ HB⟩

def bits_Sub32.f (a0:Int) (a1:Int) (a2:Int):Option (Int × Int):=some ((((a0 - a1)%4294967296) - a2)%4294967296,(Go.bits .or .u32 (Go.bits .and .u32 (Go.bits .xor .u32 4294967295 a0) a1) (Go.bits .and .u32 (Go.bits .xor .u32 4294967295 (Go.bits .xor .u32 a0 a1)) ((((a0 - a1)%4294967296) - a2)%4294967296))) / 2147483648)
theorem bits_Sub32.calls (a0:Int) (a1:Int) (a2:Int) (r1:Int) (r2:Int) (w:World) (h:bits_Sub32.f a0 a1 a2=some (r1,r2)) :
  Calls Tryd.prog 102 #[.int .u32 a0,.int .u32 a1,.int .u32 a2] w fun e w'=>e = .returned (.tuple #[.int .u32 r1,.int .u32 r2])∧Drawn0 w w':=by
 have H:=h
 unfold bits_Sub32.f at H
 clear h
 simp only [Option.some.injEq,Prod.mk.injEq] at H
 obtain ⟨rfl,rfl⟩:=H
 go_enter Tryd.func102,Tryd.ntmps102
 go_wp2
 go_ret2
 exact ⟨rb_,dr_⟩
def wide_less.l0:Nat→List Int→List Int→List Int→Int→Int→Int→Option (List Int)
 | 0,_,_,_,_,_,_=>none
 | k+1,x0,x1,x5,x6,x13,x14=>if x14<x13 then (if x14<(x1.length:Int) then (if 0≤x14 then (if x14<(x0.length:Int) then ((bits_Sub32.f (rd x0 x14) (rd x1 x14) x6).bind fun bt279=>(if x14<(x5.length:Int) then (wide_less.l0 k x0 x1 (x5.set (x14:Int).toNat bt279.1) bt279.2 x13 (wrap64 (x14+1))) else (none))) else (none)) else (none)) else (if 0≤x14 then (if x14<(x0.length:Int) then ((bits_Sub32.f (rd x0 x14) 0 x6).bind fun bt283=>(if x14<(x5.length:Int) then (wide_less.l0 k x0 x1 (x5.set (x14:Int).toNat bt283.1) bt283.2 x13 (wrap64 (x14+1))) else (none))) else (none)) else (none))) else (some x5)
def wide_less.f (k:Nat) (l0:List Int) (l1:List Int):Option (List Int):=if 0≤(l0.length:Int) then (if ((l0.length:Int):Int).toNat≤70368744177664 then (wide_less.l0 k l0 l1 (List.replicate ((l0.length:Int):Int).toNat 0) 0 (l0.length:Int) 0) else (none)) else (none)
theorem wide_less.calls (k:Nat) (A0:Option Addr) (c0:Nat) (l0:List Int) (A1:Option Addr) (c1:Nat) (l1:List Int) (r:List Int) (w:World) (hr0:Kd.C (Kd.int .u32) w A0 l0.length l0) (hc0:l0.length≤c0) (hr1:Kd.C (Kd.int .u32) w A1 l1.length l1) (hc1:l1.length≤c1) (h:wide_less.f k l0 l1=some r) :
  Calls Tryd.prog 84 #[.slice A0 l0.length c0,.slice A1 l1.length c1] w fun e w'=>∃ v0_:Value,e = .returned (v0_)∧Kd.R (Kd.int .u32) 68 w' w.heap.size (fun _=>True) v0_ r∧Below w.heap.size w w':=by
 have HR0:=a_ hr0
 have HC0:=a_ hc0
 clear hr0 hc0
 have HR1:=a_ hr1
 have HC1:=a_ hc1
 clear hr1 hc1
 have HB:=a_ (Below.refl w.heap.size w)
 have H:=h
 unfold wide_less.f at H
 clear h
 by_cases c3:0≤(l0.length:Int)
 ·rw [if_pos c3] at H
  have c3b0:=eq_true c3
  have c3b1:decide (0≤(l0.length:Int))=true:=decide_eq_true c3
  clear c3
  by_cases c4:((l0.length:Int):Int).toNat≤70368744177664
  ·rw [if_pos c4] at H
   have c4b0:=eq_true c4
   have c4b1:decide (((l0.length:Int):Int).toNat≤70368744177664)=true:=decide_eq_true c4
   clear c4
   obtain ⟨y274,hy274⟩:∃ y_:List Int,y_=(List.replicate ((l0.length:Int):Int).toNat 0):=⟨_,rfl⟩
   replace H:(wide_less.l0 k l0 l1 y274 0 (l0.length:Int) 0)=some r:=by first|(rw [hy274];first|exact t1_ H|exact t2_ H)|exact t2_ H|exact t1_ H|(rw [hy274];exact H)|exact H
   have Ny274:=a_ hy274
   clear hy274
   have H':=a_ H
   clear H
   go_enter Tryd.func84,Tryd.ntmps84
   go_wp2_with (first|((with_reducible refine gate_dst (N:=11) rfl ?_);refine Kd.R_make (Kd.int .u32) _ 68 rfl (N:=11) rfl 28 _ _ rfl (l0.length:Int) rfl rfl Tryd.underlying28 (.int .u32 0) 4 info68 rfl (by decide) (by omega) 0 (ok:=fun _=>True) (okp:=fun _=>True) rfl (fun _ hk=>hk) trivial od_ (Nat.le_trans (Nat.mul_le_mul_right _ (od_:(l0.length:Int).toNat≤70368744177664)) (by omega)) (Below.refl _ _) (Nat.le_refl _) ?_;intro v275 w5 ho6 hb hg_ hnew_;clear hg_ hnew_;(first|rw [← Ny274.out] at ho6|(simp only [Int.reduceToNat] at ho6;rw [← Ny274.out] at ho6));have HO276:=a_ (Kd.R_lower ho6 (below_size (bl_ HB)));replace HB:=bs_ HB hb;clear hb ho6))
   go_loopg [6,14] k (fun kq v6 v14 w'=>∃ (x5_1:List Int) (x6_1:Int) (x14_1:Int),v6 = .int .u32 x6_1∧v14 = .int .i64 x14_1∧Aside0 (wide_less.l0 kq l0 l1 x5_1 x6_1 (l0.length:Int) x14_1=some r)∧Aside0 (kq≤k)∧Aside0 (Kd.R (Kd.int .u32) 68 w' w.heap.size (fun _=>True) v275 x5_1)∧Aside0 (Below w.heap.size w w'))
   case atStart=>exact ⟨(y274),(0),(0),rb_,rb_,H',⟨Nat.le_refl _⟩,⟨rr_ HO276⟩,⟨bl_ HB⟩⟩
   case round =>
    clear H'
    try clear c1
    try clear p2
    try clear c3
    try clear c3b0
    try clear c3b1
    try clear c4
    try clear c4b0
    try clear c4b1
    obtain ⟨x5_1,x6_1,x14_1,rfl,rfl,HA,HK1,HO_5,HB⟩:=hrel
    cases gk with
    | zero=>exact absurd HA.out (by simp [wide_less.l0])
    | succ k1 =>
     have H:=HA.out
     clear HA
     simp only [wide_less.l0] at H
     by_cases c7:x14_1<(l0.length:Int)
     ·rw [if_pos c7] at H
      have c7b0:decide (x14_1<(l0.length:Int))=true:=decide_eq_true c7
      clear c7
      by_cases c8:x14_1<(l1.length:Int)
      ·rw [if_pos c8] at H
       have c8b0:decide (x14_1<(l1.length:Int))=true:=decide_eq_true c8
       clear c8
       by_cases c9:0≤x14_1
       ·rw [if_pos c9] at H
        have c9b0:decide (0≤x14_1)=true:=decide_eq_true c9
        clear c9
        by_cases c10:x14_1<(l0.length:Int)
        ·rw [if_pos c10] at H
         have c10b0:decide (x14_1<(l0.length:Int))=true:=decide_eq_true c10
         clear c10
         obtain ⟨⟨t279,t280⟩,A11,H⟩:=ob_ H
         try dsimp only at H
         by_cases c12:x14_1<(x5_1.length:Int)
         ·rw [if_pos c12] at H
          have c12b0:decide (x14_1<(x5_1.length:Int))=true:=decide_eq_true c12
          clear c12
          obtain ⟨y281,hy281⟩:∃ y_:List Int,y_=(x5_1.set (x14_1:Int).toNat t279):=⟨_,rfl⟩
          replace H:(wide_less.l0 k1 l0 l1 y281 t280 (l0.length:Int) (wrap64 (x14_1+1)))=some r:=by first|(rw [hy281];first|exact t1_ H|exact t2_ H)|exact t2_ H|exact t1_ H|(rw [hy281];exact H)|exact H
          have Ny281:=a_ hy281
          clear hy281
          have H':=a_ H
          clear H
          have p277:0≤(x14_1:Int):=od_
          have q277:x14_1<(l1.length:Int):=od_
          obtain ⟨ad277,e277,hx277_0⟩:=Kd.at_int HR1.out x14_1 p277 q277
          cases e277
          replace hx277_0:=(HB.out.cell (World.block_lt_of_cell? w _ hx277_0)).trans hx277_0
          replace p277:=eq_true p277
          replace q277:=eq_true q277
          have p278:0≤(x14_1:Int):=od_
          have q278:x14_1<(l0.length:Int):=od_
          obtain ⟨ad278,e278,hx278_0⟩:=Kd.at_int HR0.out x14_1 p278 q278
          cases e278
          replace hx278_0:=(HB.out.cell (World.block_lt_of_cell? w _ hx278_0)).trans hx278_0
          replace p278:=eq_true p278
          replace q278:=eq_true q278
          go_wp2_with (first|(refine goesM (some 34) Tryd.func102 #[.int .u32 (rd l0 x14_1),.int .u32 (rd l1 x14_1),.int .u32 x6_1] ?_;(with_reducible refine (bits_Sub32.calls (rd l0 x14_1) (rd l1 x14_1) x6_1 t279 t280 _ A11.out).mono ?_);rintro e w' ⟨rfl,⟨nd,rfl⟩⟩;refine ⟨_,rfl,?_⟩;(try (rw [drewN_self wr];generalize hq_:World.drewN wr _=wr;have n0_:Aside0 (Kd.R (Kd.int .u32) 68 wr w.heap.size (fun _=>True) v275 x5_1):=⟨by rw [← hq_];exact (rr_ HO_5)⟩;have n1_:Aside0 (Below w.heap.size w wr):=⟨by rw [← hq_];exact (bl_ HB)⟩;clear HO_5 HB hq_;have HO_5:=n0_;have HB:=n1_;clear n0_ n1_));have p13:0≤(x14_1:Int):=od_;have q13:(x14_1:Int)<((x5_1.length:Int):Int):=od_;obtain ⟨go13,co13,eo13,gb13,gl13,cl13,HG13⟩:=Kd.R_form HO_5.out (by omega);(first|cases eo13|(injection eo13 with ea_ en_ ec_;(first|subst ea_|(injection ea_ with ea_;subst ea_));subst ec_;clear en_));have GB13:=a_ gb13;have GG13:=a_ HG13;clear gb13 gl13 HG13;obtain ⟨hx13_0,hf13_0⟩:=Kd.R_celln 0 HO_5.out (x14_1:Int) p13 q13;(try simp only [Int.toNat_natCast] at hx13_0 hf13_0);replace p13:=eq_true p13;replace q13:=eq_true q13;obtain ⟨hy14_,hz14_⟩:=Kd.R_celln 0 HO_5.out (x14_1:Int) od_ od_;have HP14:=Kd.R_putg HO_5.out (x14_1:Int) t279)|((with_reducible refine gate_store (t:=68) (p:=37) rfl ?_);refine store_event (t:=68) (p:=37) (v:=?vo_w15) (w1:=(wr.setCell ⟨go13,(x14_1:Int).toNat,none⟩ (.int .u32 t279))) ?hg ?ho ?hn ?hr ?_;(case ho=>rfl);(case hg=>rfl);(case hn=>rfl);(case hr=>first|(go_simp;done)|(go_simp;rfl));intro w15 hw;have hg:wr.grownBy w15 (some go13):=(by rw [hw];exact HP14.2);have hp_:Kd.R (Kd.int .u32) 68 w15 w.heap.size (fun _=>True) (.slice (some ⟨go13,0,none⟩) x5_1.length co13) y281:=(by rw [hw,Ny281.out];exact HP14.1);clear HP14;replace HO_5:=a_ hp_;replace HB:=a_ ((by rw [hw];exact below_set (HB.out) GB13.out:Below w.heap.size w w15));clear hg hw hp_))
          go_roundg k1
          case measure=>have:=HK1.out;omega
          case rel=>exact ⟨(y281),(t280),(wrap64 (x14_1+1)),rb_,rb_,H',⟨by have:=HK1.out;omega⟩,⟨rr_ HO_5⟩,⟨bl_ HB⟩⟩
         ·rw [if_neg c12] at H
          exact ab_ H
        ·rw [if_neg c10] at H
         exact ab_ H
       ·rw [if_neg c9] at H
        exact ab_ H
      ·rw [if_neg c8] at H
       have c8b0:decide (x14_1<(l1.length:Int))=false:=decide_eq_false c8
       clear c8
       by_cases c16:0≤x14_1
       ·rw [if_pos c16] at H
        have c16b0:decide (0≤x14_1)=true:=decide_eq_true c16
        clear c16
        by_cases c17:x14_1<(l0.length:Int)
        ·rw [if_pos c17] at H
         have c17b0:decide (x14_1<(l0.length:Int))=true:=decide_eq_true c17
         clear c17
         obtain ⟨⟨t283,t284⟩,A18,H⟩:=ob_ H
         try dsimp only at H
         by_cases c19:x14_1<(x5_1.length:Int)
         ·rw [if_pos c19] at H
          have c19b0:decide (x14_1<(x5_1.length:Int))=true:=decide_eq_true c19
          clear c19
          obtain ⟨y285,hy285⟩:∃ y_:List Int,y_=(x5_1.set (x14_1:Int).toNat t283):=⟨_,rfl⟩
          replace H:(wide_less.l0 k1 l0 l1 y285 t284 (l0.length:Int) (wrap64 (x14_1+1)))=some r:=by first|(rw [hy285];first|exact t1_ H|exact t2_ H)|exact t2_ H|exact t1_ H|(rw [hy285];exact H)|exact H
          have Ny285:=a_ hy285
          clear hy285
          have H':=a_ H
          clear H
          have p282:0≤(x14_1:Int):=od_
          have q282:x14_1<(l0.length:Int):=od_
          obtain ⟨ad282,e282,hx282_0⟩:=Kd.at_int HR0.out x14_1 p282 q282
          cases e282
          replace hx282_0:=(HB.out.cell (World.block_lt_of_cell? w _ hx282_0)).trans hx282_0
          replace p282:=eq_true p282
          replace q282:=eq_true q282
          go_wp2_with (first|(refine goesM (some 34) Tryd.func102 #[.int .u32 (rd l0 x14_1),.int .u32 0,.int .u32 x6_1] ?_;(with_reducible refine (bits_Sub32.calls (rd l0 x14_1) 0 x6_1 t283 t284 _ A18.out).mono ?_);rintro e w' ⟨rfl,⟨nd,rfl⟩⟩;refine ⟨_,rfl,?_⟩;(try (rw [drewN_self wr];generalize hq_:World.drewN wr _=wr;have n0_:Aside0 (Kd.R (Kd.int .u32) 68 wr w.heap.size (fun _=>True) v275 x5_1):=⟨by rw [← hq_];exact (rr_ HO_5)⟩;have n1_:Aside0 (Below w.heap.size w wr):=⟨by rw [← hq_];exact (bl_ HB)⟩;clear HO_5 HB hq_;have HO_5:=n0_;have HB:=n1_;clear n0_ n1_));have p20:0≤(x14_1:Int):=od_;have q20:(x14_1:Int)<((x5_1.length:Int):Int):=od_;obtain ⟨go20,co20,eo20,gb20,gl20,cl20,HG20⟩:=Kd.R_form HO_5.out (by omega);(first|cases eo20|(injection eo20 with ea_ en_ ec_;(first|subst ea_|(injection ea_ with ea_;subst ea_));subst ec_;clear en_));have GB20:=a_ gb20;have GG20:=a_ HG20;clear gb20 gl20 HG20;obtain ⟨hx20_0,hf20_0⟩:=Kd.R_celln 0 HO_5.out (x14_1:Int) p20 q20;(try simp only [Int.toNat_natCast] at hx20_0 hf20_0);replace p20:=eq_true p20;replace q20:=eq_true q20;obtain ⟨hy21_,hz21_⟩:=Kd.R_celln 0 HO_5.out (x14_1:Int) od_ od_;have HP21:=Kd.R_putg HO_5.out (x14_1:Int) t283)|((with_reducible refine gate_store (t:=68) (p:=37) rfl ?_);refine store_event (t:=68) (p:=37) (v:=?vo_w22) (w1:=(wr.setCell ⟨go20,(x14_1:Int).toNat,none⟩ (.int .u32 t283))) ?hg ?ho ?hn ?hr ?_;(case ho=>rfl);(case hg=>rfl);(case hn=>rfl);(case hr=>first|(go_simp;done)|(go_simp;rfl));intro w22 hw;have hg:wr.grownBy w22 (some go20):=(by rw [hw];exact HP21.2);have hp_:Kd.R (Kd.int .u32) 68 w22 w.heap.size (fun _=>True) (.slice (some ⟨go20,0,none⟩) x5_1.length co20) y285:=(by rw [hw,Ny285.out];exact HP21.1);clear HP21;replace HO_5:=a_ hp_;replace HB:=a_ ((by rw [hw];exact below_set (HB.out) GB20.out:Below w.heap.size w w22));clear hg hw hp_))
          go_roundg k1
          case measure=>have:=HK1.out;omega
          case rel=>exact ⟨(y285),(t284),(wrap64 (x14_1+1)),rb_,rb_,H',⟨by have:=HK1.out;omega⟩,⟨rr_ HO_5⟩,⟨bl_ HB⟩⟩
         ·rw [if_neg c19] at H
          exact ab_ H
        ·rw [if_neg c17] at H
         exact ab_ H
       ·rw [if_neg c16] at H
        exact ab_ H
     ·rw [if_neg c7] at H
      have c7b0:decide (x14_1<(l0.length:Int))=false:=decide_eq_false c7
      clear c7
      obtain rfl:=Option.some.inj H
      go_wp2
      go_ret
      exact ⟨_,rf_,rr_ HO_5,bl_ HB⟩
  ·rw [if_neg c4] at H
   exact ab_ H
 ·rw [if_neg c3] at H
  exact ab_ H

def wide_Sub.f (k:Nat) (l0:List Int) (l1:List Int):Option (List Int × Int):=(wide_both.f k l0 l1).bind fun bt286=>(if bt286.2.2=0 then ((wide_Cmp.f k bt286.1 bt286.2.1).bind fun t293=>(if t293<0 then (some (([]:List Int),20)) else ((wide_less.f k bt286.1 bt286.2.1).bind fun t294=>(some ((fit1 t294),fit2 t294))))) else (some (([]:List Int),bt286.2.2)))
theorem wide_Sub.calls (k:Nat) (A0:Option Addr) (c0:Nat) (l0:List Int) (A1:Option Addr) (c1:Nat) (l1:List Int) (r1:List Int) (r2:Int) (w:World) (hr0:Kd.C (Kd.int .u32) w A0 l0.length l0) (hc0:l0.length≤c0) (hr1:Kd.C (Kd.int .u32) w A1 l1.length l1) (hc1:l1.length≤c1) (h:wide_Sub.f k l0 l1=some (r1,r2)) :
  Calls Tryd.prog 62 #[.slice A0 l0.length c0,.slice A1 l1.length c1] w fun e w'=>∃ v0_:Value,e = .returned (.tuple #[v0_,.int .i64 r2])∧Kd.Q (Kd.int .u32) 68 w' w.heap.size (fun _=>True) v0_ r1∧Below w.heap.size w w':=by
 have HR0:=a_ hr0
 have HC0:=a_ hc0
 clear hr0 hc0
 have HR1:=a_ hr1
 have HC1:=a_ hc1
 clear hr1 hc1
 have HB:=a_ (Below.refl w.heap.size w)
 have H:=h
 unfold wide_Sub.f at H
 clear h
 obtain ⟨⟨t286,t289,t292⟩,A3,H⟩:=ob_ H
 try dsimp only at H
 by_cases c4:t292=0
 ·rw [if_pos c4] at H
  have c4b0:(t292 == 0)=true:=beq_iff_eq.mpr c4
  have c4b1:(t292 != 0)=false:=bne_eq_false_iff_eq.mpr c4
  clear c4
  obtain ⟨t293,A5,H⟩:=ob_ H
  try dsimp only at H
  by_cases c6:t293<0
  ·rw [if_pos c6] at H
   have c6b0:decide (t293<0)=true:=decide_eq_true c6
   clear c6
   simp only [Option.some.injEq,Prod.mk.injEq] at H
   obtain ⟨rfl,rfl⟩:=H
   go_enter Tryd.func62,Tryd.ntmps62
   go_wp2_with (first|(refine goesM (some 10) Tryd.func83 #[.slice A0 l0.length c0,.slice A1 l1.length c1] ?_;(with_reducible refine (wide_both.calls k (fun k_=>k_<w.heap.size) _ _ l0 (fun k_=>k_<w.heap.size) _ _ l1 t286 t289 t292 _ ?side1 ?side2 A3.out).mono ?_);(case side1=>exact Kd.V_mk HC0.out (Kd.F_below (Kd.C_F (Kd.heap_int .u32) HR0.out) (bl_ HB)));(case side2=>exact Kd.V_mk HC1.out (Kd.F_below (Kd.C_F (Kd.heap_int .u32) HR1.out) (bl_ HB)));rintro e w7 ⟨v287,v290,rfl,ho0,ho1,hb⟩;refine ⟨_,rfl,?_⟩;have HO288:=a_ (Kd.V_lower (Kd.V_mono (ok':=fun k_=>True) ho0 (fun k_ hk_=>trivial)) (below_size (bl_ HB)));have HO291:=a_ (Kd.V_lower (Kd.V_mono (ok':=fun k_=>True) ho1 (fun k_ hk_=>trivial)) (below_size (bl_ HB)));replace HB:=bs_ HB hb;(try clear hb);(try clear ho0);(try clear ho1);obtain ⟨Ao8,co8,eo8⟩:=Kd.V_slice HO288.out;subst eo8;obtain ⟨Ao9,co9,eo9⟩:=Kd.V_slice HO291.out;subst eo9)|(refine goesM (some 21) Tryd.func61 #[.slice Ao8 t286.length co8,.slice Ao9 t289.length co9] ?_;(with_reducible refine (wide_Cmp.calls k _ _ t286 _ _ t289 t293 _ ?side1 ?side2 ?side3 ?side4 A5.out).mono ?_);(case side1=>exact cs_ (Kd.V_reads' HO288.out).2.2);(case side2=>exact (Kd.V_reads' HO288.out).2.1);(case side3=>exact cs_ (Kd.V_reads' HO291.out).2.2);(case side4=>exact (Kd.V_reads' HO291.out).2.1);rintro e w10 ⟨rfl,hb⟩;refine ⟨_,rfl,?_⟩;replace HO288:=a_ (Kd.V_below (vv_ HO288) hb);replace HO291:=a_ (Kd.V_below (vv_ HO291) hb);replace HB:=bs_ HB hb;(try clear hb)))
   go_ret2
   exact ⟨_,rf_,Kd.Q_of_R (by first|exact Kd.R_nil _ _ _ _ _|exact Kd.N_nil _ _ _ _ _|exact Kd.V_nil _ _ _ _ _|exact Kd.Q_nil _ _ _ _ _|exact Kd.S_nil _ _ _ _ _),bl_ HB⟩
  ·rw [if_neg c6] at H
   have c6b0:decide (t293<0)=false:=decide_eq_false c6
   clear c6
   obtain ⟨t294,A11,H⟩:=ob_ H
   try dsimp only at H
   obtain ⟨y297,hy297⟩:∃ y_:List Int,y_=(fit1 t294):=⟨_,rfl⟩
   replace H:(some (y297,fit2 t294))=some (r1,r2):=by first|(rw [hy297];first|exact t1_ H|exact t2_ H)|exact t2_ H|exact t1_ H|(rw [hy297];exact H)|exact H
   have Ny297:=a_ hy297
   clear hy297
   simp only [Option.some.injEq,Prod.mk.injEq] at H
   obtain ⟨rfl,rfl⟩:=H
   go_enter Tryd.func62,Tryd.ntmps62
   go_wp2_with (first|(refine goesM (some 10) Tryd.func83 #[.slice A0 l0.length c0,.slice A1 l1.length c1] ?_;(with_reducible refine (wide_both.calls k (fun k_=>k_<w.heap.size) _ _ l0 (fun k_=>k_<w.heap.size) _ _ l1 t286 t289 t292 _ ?side1 ?side2 A3.out).mono ?_);(case side1=>exact Kd.V_mk HC0.out (Kd.F_below (Kd.C_F (Kd.heap_int .u32) HR0.out) (bl_ HB)));(case side2=>exact Kd.V_mk HC1.out (Kd.F_below (Kd.C_F (Kd.heap_int .u32) HR1.out) (bl_ HB)));rintro e w12 ⟨v287,v290,rfl,ho0,ho1,hb⟩;refine ⟨_,rfl,?_⟩;have HO288:=a_ (Kd.V_lower (Kd.V_mono (ok':=fun k_=>True) ho0 (fun k_ hk_=>trivial)) (below_size (bl_ HB)));have HO291:=a_ (Kd.V_lower (Kd.V_mono (ok':=fun k_=>True) ho1 (fun k_ hk_=>trivial)) (below_size (bl_ HB)));replace HB:=bs_ HB hb;(try clear hb);(try clear ho0);(try clear ho1);obtain ⟨Ao13,co13,eo13⟩:=Kd.V_slice HO288.out;subst eo13;obtain ⟨Ao14,co14,eo14⟩:=Kd.V_slice HO291.out;subst eo14)|(refine goesM (some 21) Tryd.func61 #[.slice Ao13 t286.length co13,.slice Ao14 t289.length co14] ?_;(with_reducible refine (wide_Cmp.calls k _ _ t286 _ _ t289 t293 _ ?side1 ?side2 ?side3 ?side4 A5.out).mono ?_);(case side1=>exact cs_ (Kd.V_reads' HO288.out).2.2);(case side2=>exact (Kd.V_reads' HO288.out).2.1);(case side3=>exact cs_ (Kd.V_reads' HO291.out).2.2);(case side4=>exact (Kd.V_reads' HO291.out).2.1);rintro e w15 ⟨rfl,hb⟩;refine ⟨_,rfl,?_⟩;replace HO288:=a_ (Kd.V_below (vv_ HO288) hb);replace HO291:=a_ (Kd.V_below (vv_ HO291) hb);replace HB:=bs_ HB hb;(try clear hb))|(refine goesM (some 25) Tryd.func84 #[.slice Ao13 t286.length co13,.slice Ao14 t289.length co14] ?_;(with_reducible refine (wide_less.calls k _ _ t286 _ _ t289 t294 _ ?side1 ?side2 ?side3 ?side4 A11.out).mono ?_);(case side1=>exact cs_ (Kd.V_reads' HO288.out).2.2);(case side2=>exact (Kd.V_reads' HO288.out).2.1);(case side3=>exact cs_ (Kd.V_reads' HO291.out).2.2);(case side4=>exact (Kd.V_reads' HO291.out).2.1);rintro e w16 ⟨v295,rfl,ho0,hb⟩;refine ⟨_,rfl,?_⟩;replace HO288:=a_ (Kd.V_elder' (vv_ HO288) (Kd.R_base ho0) hb);replace HO291:=a_ (Kd.V_elder' (vv_ HO291) (Kd.R_base ho0) hb);have HO296:=a_ (Kd.R_lower ho0 (below_size (bl_ HB)));replace HB:=bs_ HB hb;(try clear hb);(try clear ho0))|((with_reducible refine gate_callee (f:=80) rfl ?_);refine R_fits 26 rfl rfl (.tmp 25) rfl w.heap.size (fun _=>True) v295 t294 rfl ?aO ?_;(case aO=>exact (rr_ HO296));intro v298 ho hat;rw [← Ny297.out] at ho;have HO299:=a_ ho;clear ho hat))
   go_ret2
   exact ⟨_,rf_,qq_ HO299,bl_ HB⟩
 ·rw [if_neg c4] at H
  have c4b0:(t292 == 0)=false:=beq_eq_false_iff_ne.mpr c4
  have c4b1:(t292 != 0)=true:=bne_iff_ne.mpr c4
  simp only [Option.some.injEq,Prod.mk.injEq] at H
  obtain ⟨rfl,rfl⟩:=H
  go_enter Tryd.func62,Tryd.ntmps62
  go_wp2_with (first|(refine goesM (some 10) Tryd.func83 #[.slice A0 l0.length c0,.slice A1 l1.length c1] ?_;(with_reducible refine (wide_both.calls k (fun k_=>k_<w.heap.size) _ _ l0 (fun k_=>k_<w.heap.size) _ _ l1 t286 t289 t292 _ ?side1 ?side2 A3.out).mono ?_);(case side1=>exact Kd.V_mk HC0.out (Kd.F_below (Kd.C_F (Kd.heap_int .u32) HR0.out) (bl_ HB)));(case side2=>exact Kd.V_mk HC1.out (Kd.F_below (Kd.C_F (Kd.heap_int .u32) HR1.out) (bl_ HB)));rintro e w18 ⟨v287,v290,rfl,ho0,ho1,hb⟩;refine ⟨_,rfl,?_⟩;have HO288:=a_ (Kd.V_lower (Kd.V_mono (ok':=fun k_=>True) ho0 (fun k_ hk_=>trivial)) (below_size (bl_ HB)));have HO291:=a_ (Kd.V_lower (Kd.V_mono (ok':=fun k_=>True) ho1 (fun k_ hk_=>trivial)) (below_size (bl_ HB)));replace HB:=bs_ HB hb;(try clear hb);(try clear ho0);(try clear ho1)))
  go_ret2
  exact ⟨_,rf_,Kd.Q_of_R (by first|exact Kd.R_nil _ _ _ _ _|exact Kd.N_nil _ _ _ _ _|exact Kd.V_nil _ _ _ _ _|exact Kd.Q_nil _ _ _ _ _|exact Kd.S_nil _ _ _ _ _),bl_ HB⟩
end Go.Proofs.YthimlebkjnajpaaDoor.Pr
